import Derived.Test.YtpcieagmnllimaaDoorE
import Derived.Test.YtpcieagmnllimaaDoorPu
set_option linter.all false
namespace Go.Proofs.YtpcieagmnllimaaDoor
open Go Go.RowKit Go.Vm
section
variable {S : Stab} {ρ : Rho} {w w' : World}
theorem post_of {r : List (PV N)} {u : Value} (cx : Cx w (Xof ρ) S ρ w) (hn : ∀ b, ([] : Heap N).length ≤ b → ρ b = none) (hb : Below w.heap.size w w') (hr : ResR E S w' ρ r u) : CallPost E w S ρ (nbOf ([] : Heap N)) (r, []) (.returned u) w' := by
  have hn : ∀ b, ρ b = none := fun b => hn b (Nat.zero_le _)
  refine ⟨u, S, ρ, rfl, ⟨⟨hb.os, hb.tape, hb.output, hb.size, fun k hk _ => hb.block k hk⟩, fun b o h => Nat.lt_of_lt_of_le (cx.st b o h) hb.size, ?_, ?_, ?_⟩, fun b o h => ⟨h, hb.cell (cx.st b o h)⟩, fun b o h h' => absurd h h', hr, ?_, fun b hb => rfl, fun b _ => hn b⟩
  · intro b i q h; rw [hn] at h; exact absurd h (by simp)
  · intro b i q h; rw [hn] at h; exact absurd h (by simp)
  · intro b c i j q h; rw [hn] at h; exact absurd h (by simp)
  · intro b blk h; exact absurd h (by simp)
theorem inv_str {s : List UInt8} {v : Value} (h : VR E S w ρ (.str s) v) : ∃ b : ByteArray, v = .string b ∧ s = b.data.toList := by
  cases h with | str b => exact ⟨b, rfl, rfl⟩
theorem inv_int {k : IntKind} {n : Int} {v : Value} (h : VR E S w ρ (.int k n) v) : v = .int k n := by
  cases h with | int => rfl
theorem inv_1 {p : PV N} {args : Array Value} (h : VRs E S w ρ [p] args.toList) : ∃ v, args = #[v] ∧ VR E S w ρ p v := by
  obtain ⟨l⟩ := args
  cases h with | cons _ v _ _ h hs => cases hs; exact ⟨v, rfl, h⟩
theorem inv_2 {p q : PV N} {args : Array Value} (h : VRs E S w ρ [p, q] args.toList) : ∃ v u, args = #[v, u] ∧ VR E S w ρ p v ∧ VR E S w ρ q u := by
  obtain ⟨l⟩ := args
  cases h with | cons _ v _ _ h hs => cases hs with | cons _ u _ _ h2 hs => cases hs; exact ⟨v, u, rfl, h, h2⟩
theorem inv_3 {p q r : PV N} {args : Array Value} (h : VRs E S w ρ [p, q, r] args.toList) : ∃ v u t, args = #[v, u, t] ∧ VR E S w ρ p v ∧ VR E S w ρ q u ∧ VR E S w ρ r t := by
  obtain ⟨l⟩ := args
  cases h with | cons _ v _ _ h hs => cases hs with | cons _ u _ _ h2 hs => cases hs with | cons _ t _ _ h3 hs => cases hs; exact ⟨v, u, t, rfl, h, h2, h3⟩
theorem vr_str (b : ByteArray) (s : List UInt8) (h : s = b.data.toList) : VR E S w ρ (.str s) (.string b) := h ▸ .str b
theorem res_err {n : Int} {k : IntKind} {t : TypeId} {v : Value} : ResR E S w' ρ [.int k n, .iface 0 .bad] (.tuple #[.int k n, .iface t v]) :=
  ⟨#[.int k n, .iface t v], rfl, .cons _ _ _ _ (.int _ _) (.cons _ _ _ _ (.iface _ _ _ _ (.bad _)) .nil)⟩
theorem res_fine {n : Int} {k : IntKind} : ResR E S w' ρ [.int k n, .nilif] (.tuple #[.int k n, .nilIface]) :=
  ⟨#[.int k n, .nilIface], rfl, .cons _ _ _ _ (.int _ _) (.cons _ _ _ _ .nilif .nil)⟩
theorem below_or {a : World} (h : w' = a ∨ ∃ t, w' = Lib.bytesWorld a 5 t) : Below a.heap.size a w' := by
  rcases h with rfl | ⟨t, rfl⟩
  · exact Below.refl _ _
  · exact Lib.bytesWorld_below _ _ _
theorem glT1 {X : Nat → Prop} (h : Glob glT w X) : ∃ v, w.cell? ⟨1, 0, none⟩ = some v ∧ (v = .nilIface ∨ ∃ te pe, v = .iface te pe) :=
  let ⟨v, h1, h2, _⟩ := h _ (List.mem_cons_self)
  ⟨v, h1, h2⟩
theorem glT2 {X : Nat → Prop} (h : Glob glT w X) : ∃ v, w.cell? ⟨2, 0, none⟩ = some v ∧ (v = .nilIface ∨ ∃ te pe, v = .iface te pe) :=
  let ⟨v, h1, h2, _⟩ := h _ (List.mem_cons_of_mem _ List.mem_cons_self)
  ⟨v, h1, h2⟩
theorem digitsOk_spec {b : Nat} {l : List UInt8} (h : digitsOk b l = true) : l ≠ [] ∧ (∀ c ∈ l, dv c.toNat < b) ∧ l.length ≤ 281474976710656 := by
  unfold digitsOk at h
  simp only [Bool.and_eq_true, Bool.not_eq_true', List.all_eq_true, Nat.blt_eq, Nat.ble_eq] at h
  refine ⟨fun e => ?_, h.1.2, h.2⟩
  rw [e] at h; exact absurd h.1.1 (by simp)
theorem in_parse (b : Nat) (hb : b = 2 ∨ b = 10 ∨ b = 16) (s : ByteArray) (hd : digitsOk b s.data.toList = true) (w : World) (ev : Value) (hv : w.cell? ⟨2, 0, none⟩ = some ev) (hev : ev = .nilIface ∨ ∃ te pe, ev = .iface te pe) :
    Calls Tryd.prog 63 #[.string s, .int .i64 b, .int .i64 64] w fun e w' => (if valB b 0 s.data.toList < 18446744073709551616 then e = .returned (.tuple #[.int .u64 (valB b 0 s.data.toList : Nat), .nilIface]) else ∃ v, e = .returned (.tuple #[.int .u64 18446744073709551615, .iface 84 v])) ∧ Below w.heap.size w w' := by
  obtain ⟨hne, hdig, hlen⟩ := digitsOk_spec hd
  have hsz : s.size = s.data.toList.length := rfl
  have hne' : s.size ≠ 0 := fun h => hne (List.length_eq_zero_iff.mp (by omega))
  have gen : ∀ b : Int, ∀ v : Nat, (∀ w, Calls Tryd.prog 74 #[.string s, .int .i64 b, .int .i64 64] w fun e w' => e = .returned (puV v) ∧ w' = Lib.bytesWorld w 5 s) →
      Calls Tryd.prog 63 #[.string s, .int .i64 b, .int .i64 64] w fun e w' => (if v < 18446744073709551616 then e = .returned (.tuple #[.int .u64 (v : Nat), .nilIface]) else ∃ v, e = .returned (.tuple #[.int .u64 18446744073709551615, .iface 84 v])) ∧ Below w.heap.size w w' := by
    intro b v hI
    by_cases hlt : v < 18446744073709551616
    · have hp : puV v = .tuple #[.int .u64 v, .nilIface] := if_pos hlt
      rw [hp] at hI
      simp only [if_pos hlt]
      refine (pub_ok b s v w (hI w)).mono ?_
      rintro e w' ⟨rfl, rfl⟩
      exact ⟨rfl, Lib.bytesWorld_below _ _ _⟩
    · have hp : puV v = .tuple #[.int .u64 18446744073709551615, .iface 81 (.int .i64 1)] := if_neg hlt
      rw [hp] at hI
      simp only [if_neg hlt]
      refine (pub_range b s (by omega) ev w hv hev (hI w)).mono ?_
      rintro e w' ⟨v, h1, h2⟩
      exact ⟨⟨v, h1⟩, h2⟩
  rcases hb with rfl | rfl | rfl
  · exact gen 2 _ (fun w => pu2 s hne' (by omega) hdig w)
  · have hB : Lib.parseUintB 64 s.data.toList = if valB 10 0 s.data.toList < 18446744073709551616 then .ok (valB 10 0 s.data.toList) else .range := by
      unfold Lib.parseUintB
      rw [if_neg hne]
      exact pu10 _ 0 (by omega) hdig
    by_cases hlt : valB 10 0 s.data.toList < 18446744073709551616
    · rw [if_pos hlt] at hB
      simp only [if_pos hlt]
      refine (Tryd.strconv_ParseUint_10_at64_ok s (by omega) _ hB w).mono ?_
      rintro e w' ⟨rfl, h⟩
      exact ⟨rfl, below_or (h.imp_right fun h => ⟨s, h⟩)⟩
    · rw [if_neg hlt] at hB
      simp only [if_neg hlt]
      refine (Tryd.strconv_ParseUint_10_at64_range s (by omega) hB ev w hv hev).mono ?_
      rintro e w' ⟨N, rfl, _, _, h⟩
      exact ⟨⟨_, rfl⟩, h⟩
  · exact gen 16 _ (fun w => pu16 s hne' (by omega) hdig w)
theorem join_ok {l : List (List UInt8)} {nl : Option TypeId} {v : Value} {b2 : ByteArray} (cx : Cx w (Xof ρ) S ρ w) (hfr : ∀ b, ([] : Heap N).length ≤ b → ρ b = none) (h1 : VR E S w ρ (.vsl nl .str l) v) (hc1 : l.length ≤ 140737488355328) (hc2 : (Lib.join l b2.data.toList).length ≤ 140737488355328) :
    Calls Tryd.prog 39 #[v, .string b2] w (CallPost E w S ρ (nbOf ([] : Heap N)) ([.str (Lib.join l b2.data.toList)], [])) := by
  have key : ∃ (A : Option Addr) (cap : Nat), v = .slice A l.length cap ∧ l.length ≤ cap ∧ (0 < l.length → ∃ b o, A = some ⟨b, o, none⟩) ∧ ∀ (b o : Nat), A = some ⟨b, o, none⟩ → ∀ j, j < l.length → S b (o + j) ∧ w.cell? ⟨b, o + j, none⟩ = some (.string ⟨(l.getD j []).toArray⟩) := by
    cases h1 with
    | vsl _ _ _ A cap vs hl hr hc hA hcap hnl =>
      refine ⟨A, cap, rfl, hcap, hA, fun b o e j hj => ?_⟩
      have hx : l[j]? = some (l.getD j []) := by simp [List.getD, List.getElem?_eq_getElem hj]
      have hr := hr j _ hx
      have hr : VRs E S w noRho [.str (l.getD j [])] (vs j) := hr
      cases hvs : vs j with
      | nil => rw [hvs] at hr; cases hr
      | cons u us =>
        rw [hvs] at hr
        cases hr with
        | cons _ _ _ _ h0 _ =>
          obtain ⟨x, rfl, hx⟩ := inv_str h0
          obtain ⟨b', o', e', g1, g2, -⟩ := hc j hj 0 (.string x) (by rw [hvs]; rfl)
          rw [e] at e'
          injection e' with e'; injection e' with e1 e2; subst e1 e2
          have es : o + (j * sizeE E .str + 0) = o + j := congrArg (o + ·) (Nat.mul_one j)
          rw [es] at g1 g2
          refine ⟨g1, ?_⟩
          rw [g2]
          obtain ⟨⟨q⟩⟩ := x
          have : l.getD j [] = q := hx
          rw [this]
  obtain ⟨A, cap, rfl, hcap, hA, hcell⟩ := key
  have hxs : (l.map fun s => (⟨s.toArray⟩ : ByteArray)).map (·.data.toList) = l := by
    rw [List.map_map]; exact List.map_id l
  by_cases h0 : 0 < l.length
  · obtain ⟨b, o, rfl⟩ := hA h0
    have hb : b < w.heap.size := cx.st _ _ (hcell b o rfl 0 h0).1
    have hJ := Tryd.strings_Join b o cap (l.map fun s => (⟨s.toArray⟩ : ByteArray)) b2 w (fun j x hx => by
      rw [List.getElem?_map] at hx
      obtain ⟨y, hy, rfl⟩ := Option.map_eq_some_iff.mp hx
      obtain ⟨hj, rfl⟩ := List.getElem?_eq_some_iff.mp hy
      rw [(hcell b o rfl j hj).2]
      simp [List.getD, List.getElem?_eq_getElem hj]) hb (by rw [List.length_map]; exact hc1) (by rw [List.length_map]; exact hcap) (by rw [hxs]; exact hc2)
    rw [List.length_map, hxs] at hJ
    refine hJ.mono ?_
    rintro e w' ⟨rfl, h⟩
    exact post_of cx hfr h (vr_str _ _ (by simp))
  · have hl : l = [] := List.length_eq_zero_iff.mp (by omega)
    subst hl
    refine (Tryd.strings_Join_none A cap b2 w).mono ?_
    rintro e w' ⟨rfl, rfl⟩
    exact post_of cx hfr (Below.refl _ _) (vr_str _ _ rfl)
theorem extOK : ExtOK T := by
  intro f g hf pargs hp r hg S ρ w args cx hglob hargs hblk hfr
  have hf : extT f = some g := hf
  unfold extT at hf
  split at hf
  · -- strings.Count
    obtain rfl := Option.some.inj hf
    unfold xCount at hg
    split at hg
    · rename_i s c
      obtain rfl := Option.some.inj hg
      obtain ⟨v, u, rfl, h1, h2⟩ := inv_2 hargs
      obtain ⟨b, rfl, rfl⟩ := inv_str h1
      obtain ⟨b2, rfl, hb2⟩ := inv_str h2
      obtain rfl : b2 = ⟨#[c]⟩ := by
        obtain ⟨⟨l⟩⟩ := b2
        have : [c] = l := hb2
        rw [this]
      refine (Tryd.strings_Count_one b c w).mono ?_
      rintro e w' ⟨rfl, rfl⟩
      exact post_of cx hfr (Below.refl _ _) (.int _ _)
    · exact absurd hg (by simp)
  · -- strconv.Atoi
    obtain rfl := Option.some.inj hf
    unfold xAtoi at hg
    split at hg
    · rename_i s
      obtain ⟨hl, hg⟩ := bif_true hg
      rw [Nat.ble_eq] at hl
      obtain ⟨v, rfl, h1⟩ := inv_1 hargs
      obtain ⟨b, rfl, rfl⟩ := inv_str h1
      have hsz : b.size = b.data.toList.length := rfl
      split at hg
      · rename_i v hv
        obtain rfl := Option.some.inj hg
        refine (Tryd.strconv_Atoi_ok b (by omega) v hv w).mono ?_
        rintro e w' ⟨rfl, h⟩
        exact post_of cx hfr (below_or h) res_fine
      · rename_i hv
        obtain rfl := Option.some.inj hg
        obtain ⟨ev, g1, g2⟩ := glT2 hglob
        refine (Tryd.strconv_Atoi_range b (by omega) hv ev w g1 g2).mono ?_
        rintro e w' ⟨N, rfl, _, _, h⟩
        exact post_of cx hfr h res_err
      · rename_i hv1 hv2
        obtain rfl := Option.some.inj hg
        obtain ⟨ev, g1, g2⟩ := glT1 hglob
        refine (Tryd.strconv_Atoi_syntax b (by omega) hv1 hv2 ev w g1 g2).mono ?_
        rintro e w' ⟨N, rfl, _, _, h⟩
        exact post_of cx hfr h res_err
    · exact absurd hg (by simp)
  · -- strconv.Itoa
    obtain rfl := Option.some.inj hf
    unfold xItoa at hg
    split at hg
    · rename_i n
      by_cases hn : 0 ≤ n ∧ n < 100
      · rw [if_pos hn] at hg
        obtain rfl := Option.some.inj hg
        obtain ⟨v, rfl, h1⟩ := inv_1 hargs
        obtain rfl := inv_int h1
        obtain ⟨i, rfl⟩ : ∃ i : Nat, n = i := ⟨n.toNat, by omega⟩
        refine (Tryd.strconv_Itoa_small i (by omega) w).mono ?_
        rintro e w' ⟨rfl, rfl⟩
        exact post_of cx hfr (Below.refl _ _) (vr_str _ _ (by simp))
      · rw [if_neg hn] at hg; exact absurd hg (by simp)
    · exact absurd hg (by simp)
  · -- strings.Join
    obtain rfl := Option.some.inj hf
    unfold xJoin at hg
    split at hg
    · rename_i nl l sep
      obtain ⟨hc, hg⟩ := bif_true hg
      rw [Bool.and_eq_true, Nat.ble_eq, Nat.ble_eq] at hc
      obtain ⟨hc1, hc2⟩ := hc
      obtain rfl := Option.some.inj hg
      obtain ⟨v, u, rfl, h1, h2⟩ := inv_2 hargs
      obtain ⟨b2, rfl, rfl⟩ := inv_str h2
      exact join_ok (l := l) cx hfr h1 hc1 hc2
    · exact absurd hg (by simp)
  · -- strings.IndexByte
    obtain rfl := Option.some.inj hf
    unfold xIndexByte at hg
    split at hg
    · rename_i s c
      obtain rfl := Option.some.inj hg
      obtain ⟨v, u, rfl, h1, h2⟩ := inv_2 hargs
      obtain ⟨b, rfl, rfl⟩ := inv_str h1
      obtain rfl := inv_int h2
      refine (Tryd.strings_IndexByte b c w).mono ?_
      rintro e w' ⟨rfl, rfl⟩
      exact post_of cx hfr (Below.refl _ _) (.int _ _)
    · exact absurd hg (by simp)
  · -- strings.HasPrefix
    obtain rfl := Option.some.inj hf
    unfold xHasPrefix at hg
    split at hg
    · rename_i s p
      obtain rfl := Option.some.inj hg
      obtain ⟨v, u, rfl, h1, h2⟩ := inv_2 hargs
      obtain ⟨b, rfl, rfl⟩ := inv_str h1
      obtain ⟨b2, rfl, rfl⟩ := inv_str h2
      refine (Tryd.strings_HasPrefix b b2 w).mono ?_
      rintro e w' ⟨rfl, rfl⟩
      exact post_of cx hfr (Below.refl _ _) (.bool _)
    · exact absurd hg (by simp)
  · -- strconv.ParseUint
    obtain rfl := Option.some.inj hf
    unfold xParse at hg
    split at hg
    · rename_i s b k
      by_cases hc : (b = 2 ∨ b = 10 ∨ b = 16) ∧ k = 64 ∧ digitsOk b.toNat s = true
      · rw [if_pos hc] at hg
        obtain ⟨v, u, t, rfl, h1, h2, h3⟩ := inv_3 hargs
        obtain ⟨bs, rfl, rfl⟩ := inv_str h1
        obtain rfl := inv_int h2
        obtain rfl := inv_int h3
        obtain ⟨hb, rfl, hd⟩ := hc
        obtain ⟨ev, g1, g2⟩ := glT2 hglob
        obtain ⟨n, rfl⟩ : ∃ n : Nat, b = n := ⟨b.toNat, by omega⟩
        rw [Int.toNat_natCast] at hg hd
        refine (in_parse n (by omega) bs hd w ev g1 g2).mono ?_
        rintro e w' ⟨h, hbel⟩
        by_cases hlt : valB n 0 bs.data.toList < 18446744073709551616
        · rw [if_pos hlt] at hg h
          obtain rfl := Option.some.inj hg
          subst h
          exact post_of cx hfr hbel res_fine
        · rw [if_neg hlt] at hg h
          obtain rfl := Option.some.inj hg
          obtain ⟨v, rfl⟩ := h
          exact post_of cx hfr hbel res_err
      · rw [if_neg hc] at hg; exact absurd hg (by simp)
    · exact absurd hg (by simp)
  · exact absurd hf (by simp)
theorem inpOK : InpOK T := fun f q h => absurd h (by show inpT f ≠ some q; simp [inpT])
end
end Go.Proofs.YtpcieagmnllimaaDoor
