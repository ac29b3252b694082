import Derived.Test.YtflgegjljcpedaaDoorE
import Derived.Test.YtflgegjljcpedaaDoorFu
set_option linter.all false
namespace Go.Proofs.YtflgegjljcpedaaDoor
open Go Go.RowKit Go.Vm
section
variable {S : Stab} {ρ : Rho} {w w' : World}
theorem post_of {r : List (PV N)} {u : Value} (cx : Cx w (Xof ρ) S ρ w) (hn : ∀ b, ([] : Heap N).length ≤ b → ρ b = none) (hb : Below w.heap.size w w') (hr : ResR E S w' ρ r u) : CallPost E w S ρ (nbOf ([] : Heap N)) (r, []) (.returned u) w' := by
  have hn : ∀ b, ρ b = none := fun b => hn b (Nat.zero_le _)
  refine ⟨u, S, ρ, rfl, ⟨⟨hb.os, hb.tape, hb.output, hb.size, fun k hk _ => hb.block k hk⟩, fun b o h => Nat.lt_of_lt_of_le (cx.st b o h) hb.size, ?_, ?_, ?_⟩, fun b o h => ⟨h, hb.cell (cx.st b o h)⟩, fun b o h h' => absurd h h', hr, ?_, fun b hb => rfl, fun b _ => hn b⟩
  · intro b i q h; rw [hn] at h; exact absurd h (by simp)
  · intro b i q h; rw [hn] at h; exact absurd h (by simp)
  · intro b c i j q h; rw [hn] at h; exact absurd h (by simp)
  · intro b blk h; exact absurd h (by simp)
theorem inv_str {s : List UInt8} {v : Value} (h : VR E S w ρ (.str s) v) : ∃ b : ByteArray, v = .string b ∧ s = b.data.toList := by
  cases h with | str b => exact ⟨b, rfl, rfl⟩
theorem inv_int {k : IntKind} {n : Int} {v : Value} (h : VR E S w ρ (.int k n) v) : v = .int k n := by
  cases h with | int => rfl
theorem inv_1 {p : PV N} {args : Array Value} (h : VRs E S w ρ [p] args.toList) : ∃ v, args = #[v] ∧ VR E S w ρ p v := by
  obtain ⟨l⟩ := args
  cases h with | cons _ v _ _ h hs => cases hs; exact ⟨v, rfl, h⟩
theorem inv_2 {p q : PV N} {args : Array Value} (h : VRs E S w ρ [p, q] args.toList) : ∃ v u, args = #[v, u] ∧ VR E S w ρ p v ∧ VR E S w ρ q u := by
  obtain ⟨l⟩ := args
  cases h with | cons _ v _ _ h hs => cases hs with | cons _ u _ _ h2 hs => cases hs; exact ⟨v, u, rfl, h, h2⟩
theorem vr_str (b : ByteArray) (s : List UInt8) (h : s = b.data.toList) : VR E S w ρ (.str s) (.string b) := h ▸ .str b
theorem join_ok {l : List (List UInt8)} {nl : Option TypeId} {v : Value} {b2 : ByteArray} (cx : Cx w (Xof ρ) S ρ w) (hfr : ∀ b, ([] : Heap N).length ≤ b → ρ b = none) (h1 : VR E S w ρ (.vsl nl .str l) v) (hc1 : l.length ≤ 140737488355328) (hc2 : (Lib.join l b2.data.toList).length ≤ 140737488355328) :
    Calls Tryd.prog 13 #[v, .string b2] w (CallPost E w S ρ (nbOf ([] : Heap N)) ([.str (Lib.join l b2.data.toList)], [])) := by
  have key : ∃ (A : Option Addr) (cap : Nat), v = .slice A l.length cap ∧ l.length ≤ cap ∧ (0 < l.length → ∃ b o, A = some ⟨b, o, none⟩) ∧ ∀ (b o : Nat), A = some ⟨b, o, none⟩ → ∀ j, j < l.length → S b (o + j) ∧ w.cell? ⟨b, o + j, none⟩ = some (.string ⟨(l.getD j []).toArray⟩) := by
    cases h1 with
    | vsl _ _ _ A cap vs hl hr hc hA hcap hnl =>
      refine ⟨A, cap, rfl, hcap, hA, fun b o e j hj => ?_⟩
      have hx : l[j]? = some (l.getD j []) := by simp [List.getD, List.getElem?_eq_getElem hj]
      have hr := hr j _ hx
      have hr : VRs E S w noRho [.str (l.getD j [])] (vs j) := hr
      cases hvs : vs j with
      | nil => rw [hvs] at hr; cases hr
      | cons u us =>
        rw [hvs] at hr
        cases hr with
        | cons _ _ _ _ h0 _ =>
          obtain ⟨x, rfl, hx⟩ := inv_str h0
          obtain ⟨b', o', e', g1, g2, -⟩ := hc j hj 0 (.string x) (by rw [hvs]; rfl)
          rw [e] at e'
          injection e' with e'; injection e' with e1 e2; subst e1 e2
          have es : o + (j * sizeE E .str + 0) = o + j := congrArg (o + ·) (Nat.mul_one j)
          rw [es] at g1 g2
          refine ⟨g1, ?_⟩
          rw [g2]
          obtain ⟨⟨q⟩⟩ := x
          have : l.getD j [] = q := hx
          rw [this]
  obtain ⟨A, cap, rfl, hcap, hA, hcell⟩ := key
  have hxs : (l.map fun s => (⟨s.toArray⟩ : ByteArray)).map (·.data.toList) = l := by
    rw [List.map_map]; exact List.map_id l
  by_cases h0 : 0 < l.length
  · obtain ⟨b, o, rfl⟩ := hA h0
    have hb : b < w.heap.size := cx.st _ _ (hcell b o rfl 0 h0).1
    have hJ := Tryd.strings_Join b o cap (l.map fun s => (⟨s.toArray⟩ : ByteArray)) b2 w (fun j x hx => by
      rw [List.getElem?_map] at hx
      obtain ⟨y, hy, rfl⟩ := Option.map_eq_some_iff.mp hx
      obtain ⟨hj, rfl⟩ := List.getElem?_eq_some_iff.mp hy
      rw [(hcell b o rfl j hj).2]
      simp [List.getD, List.getElem?_eq_getElem hj]) hb (by rw [List.length_map]; exact hc1) (by rw [List.length_map]; exact hcap) (by rw [hxs]; exact hc2)
    rw [List.length_map, hxs] at hJ
    refine hJ.mono ?_
    rintro e w' ⟨rfl, h⟩
    exact post_of cx hfr h (vr_str _ _ (by simp))
  · have hl : l = [] := List.length_eq_zero_iff.mp (by omega)
    subst hl
    refine (Tryd.strings_Join_none A cap b2 w).mono ?_
    rintro e w' ⟨rfl, rfl⟩
    exact post_of cx hfr (Below.refl _ _) (vr_str _ _ rfl)
theorem g0 : Tryd.prog.globalNamed "internal/strconv.uint64pow10" = some 0 := by kernel_rfl
theorem glob0 {X : Nat → Prop} (h : Glob glT w X) : Lib.TabIs Tryd.prog w "internal/strconv.uint64pow10" .u64 Lib.pow10Tab := by
  obtain ⟨o, h1, ⟨t, z, rfl⟩, -⟩ := h _ List.mem_cons_self
  unfold Lib.TabIs World.var?
  rw [g0, Option.bind_some, h1]
theorem i64ok_spec {n : Int} (h : i64ok n = true) : -9223372036854775808 ≤ n ∧ n ≤ 9223372036854775807 := by
  unfold i64ok at h
  rw [Bool.and_eq_true, decide_eq_true_eq, decide_eq_true_eq] at h
  exact h
theorem extOK : ExtOK T := by
  intro f g hf pargs hp r hg S ρ w args cx hglob hargs hblk hfr
  have hf : extT f = some g := hf
  unfold extT at hf
  split at hf
  · -- strconv.FormatUint
    obtain rfl := Option.some.inj hf
    unfold xFmt at hg
    split at hg
    · rename_i n b
      have hk := bif_true hg
      clear hg
      have hc := hk.1
      obtain rfl := Option.some.inj hk.2
      clear hk
      rw [Bool.and_eq_true, Bool.and_eq_true, decide_eq_true_eq, decide_eq_true_eq, decide_eq_true_eq] at hc
      obtain ⟨⟨c1, c2⟩, rfl⟩ := hc
      obtain ⟨v, u, rfl, h1, h2⟩ := inv_2 hargs
      obtain rfl := inv_int h1
      obtain rfl := inv_int h2
      obtain ⟨i, rfl⟩ : ∃ i : Nat, n = i := ⟨n.toNat, by omega⟩
      refine (fu_out i (by omega) w (glob0 hglob)).mono ?_
      rintro e w' ⟨rfl, k, os, rfl⟩
      exact post_of cx hfr ⟨rfl, rfl, rfl, by simp [Sort.grow, World.drewN], fun k hk => by simp [Sort.grow, World.drewN, Array.getElem?_append_left hk]⟩ (vr_str _ _ (by simp))
    · exact absurd hg (by simp)
  · -- strings.Join
    obtain rfl := Option.some.inj hf
    unfold xJoin at hg
    split at hg
    · rename_i nl l sep
      obtain ⟨hc, hg⟩ := bif_true hg
      rw [Bool.and_eq_true, Nat.ble_eq, Nat.ble_eq] at hc
      obtain ⟨hc1, hc2⟩ := hc
      obtain rfl := Option.some.inj hg
      obtain ⟨v, u, rfl, h1, h2⟩ := inv_2 hargs
      obtain ⟨b2, rfl, rfl⟩ := inv_str h2
      exact join_ok (l := l) cx hfr h1 hc1 hc2
    · exact absurd hg (by simp)
  · -- strconv.Itoa
    obtain rfl := Option.some.inj hf
    unfold xItoa at hg
    split at hg
    · rename_i n
      obtain ⟨hn, hg⟩ := bif_true hg
      obtain rfl := Option.some.inj hg
      obtain ⟨hn1, hn2⟩ := i64ok_spec hn
      obtain ⟨v, rfl, h1⟩ := inv_1 hargs
      obtain rfl := inv_int h1
      refine (Tryd.strconv_Itoa n hn1 hn2 w (glob0 hglob)).mono ?_
      rintro e w' ⟨rfl, k, os, rfl⟩
      exact post_of cx hfr ⟨rfl, rfl, rfl, by simp [Sort.grow, World.drewN], fun k hk => by simp [Sort.grow, World.drewN, Array.getElem?_append_left hk]⟩ (vr_str _ _ (by simp))
    · exact absurd hg (by simp)
  · exact absurd hf (by simp)
theorem inpOK : InpOK T := fun f q h => absurd h (by show inpT f ≠ some q; simp [inpT])
end
end Go.Proofs.YtflgegjljcpedaaDoor
