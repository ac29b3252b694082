import Derived.Test.YtojlhbckfkpjhaaDoorE
import Derived.Test.YtojlhbckfkpjhaaDoorF42
import Derived.Test.YtojlhbckfkpjhaaDoorShelf
set_option linter.all false
namespace Go.Proofs.YtojlhbckfkpjhaaDoor
open Go Go.RowKit Go.Vm Go.Proofs.YtojlhbckfkpjhaaDoorW.PrintWords
section
variable {S : Stab} {ρ : Rho} {w w' : World}
theorem post_ofS {r : List (PV N)} {u : Value} (cx : Cx w (Xof ρ) S ρ w) (hn : ∀ b, ([] : Heap N).length ≤ b → ρ b = none) (hb : Below w.heap.size w w') {S' : Stab} (hS : ∀ b o, S b o → S' b o) (hS2 : ∀ b o, S' b o → S b o ∨ w.heap.size ≤ b ∧ b < w'.heap.size) (hr : ResR E S' w' ρ r u) : CallPost E w S ρ (nbOf ([] : Heap N)) (r, []) (.returned u) w' := by
  have hn : ∀ b, ρ b = none := fun b => hn b (Nat.zero_le _)
  refine ⟨u, S', ρ, rfl, ⟨⟨hb.os, hb.tape, hb.output, hb.size, fun k hk _ => hb.block k hk⟩, fun b o h => ?_, ?_, ?_, ?_⟩, fun b o h => ⟨hS b o h, hb.cell (cx.st b o h)⟩, fun b o h h' => ?_, hr, ?_, fun b hb => rfl, fun b _ => hn b⟩
  · rcases hS2 b o h with h | h
    · exact Nat.lt_of_lt_of_le (cx.st b o h) hb.size
    · exact h.2
  · intro b i q h; rw [hn] at h; exact absurd h (by simp)
  · intro b i q h; rw [hn] at h; exact absurd h (by simp)
  · intro b c i j q h; rw [hn] at h; exact absurd h (by simp)
  · rcases hS2 b o h with h | h
    · exact absurd h h'
    · exact .inr h.1
  · intro b blk h; exact absurd h (by simp)
theorem inv_int {k : IntKind} {n : Int} {v : Value} (h : VR E S w ρ (.int k n) v) : v = .int k n := by
  cases h with | int => rfl
theorem inv_1 {p : PV N} {args : Array Value} (h : VRs E S w ρ [p] args.toList) : ∃ v, args = #[v] ∧ VR E S w ρ p v := by
  obtain ⟨l⟩ := args
  cases h with | cons _ v _ _ h hs => cases hs; exact ⟨v, rfl, h⟩
/-- A row that came in, as the walks read it. -/
theorem row_in {α : Type} {d : Kd α} {c : TC} {inv : El N c → α} (hsz : d.sz = sizeE E c) {nl : Option TypeId} {l : List (El N c)} {v : Value} (hK : ∀ x ∈ l, ∀ cs, cs.length = sizeE E c → VRs E S w noRho (encE E c x) cs → d.K w (inv x) cs) (hl : l.length ≤ 9223372036854775807) (h : VR E S w ρ (.vsl nl c l) v) :
    ∃ A cap, v = .slice A l.length cap ∧ l.length ≤ cap ∧ d.C w A l.length (l.map inv) := by
  cases h with
  | vsl _ _ _ A cap vs h1 h2 h3 hA hcap hnl =>
    refine ⟨A, cap, rfl, hcap, by rw [List.length_map], hl, fun h0 => ?_⟩
    obtain ⟨b, o, rfl⟩ := hA h0
    refine ⟨_, rfl, fun j p hj => ?_⟩
    rw [List.getElem?_map] at hj
    obtain ⟨x, hx, rfl⟩ := Option.map_eq_some_iff.mp hj
    have hlt : j < l.length := (List.getElem?_eq_some_iff.mp hx).1
    refine ⟨vs j, (h1 j x hx).trans hsz.symm, hK x (List.mem_of_getElem? hx) _ (h1 j x hx) (h2 j x hx), fun i u hu => ?_⟩
    obtain ⟨b', o', e, _, hc, _⟩ := h3 j hlt i u hu
    injection e with e; injection e with e1 e2; subst e1 e2
    rw [hsz, Addr.add_mid]
    exact hc
theorem in_int {k : IntKind} {n : Int} {cs : List Value} (h : VRs E S w noRho [.int k n] cs) : (Kd.int k).K w n cs := by
  cases h with | cons _ v _ _ h hs => cases hs; cases h; rfl
/-- A row of whole numbers that came in. -/
theorem row_ints {k : IntKind} {nl : Option TypeId} {l : List Int} {v : Value} (hl : l.length ≤ 9223372036854775807) (h : VR E S w ρ (.vsl nl (.int k) l) v) : ∃ A cap, v = .slice A l.length cap ∧ l.length ≤ cap ∧ (Kd.int k).C w A l.length l := by
  obtain ⟨A, cap, e, h1, h2⟩ := row_in (d := Kd.int k) (c := .int k) (inv := fun n => n) rfl (fun x _ cs _ h => in_int h) hl h
  exact ⟨A, cap, e, h1, (congrArg (fun z : List Int => (Kd.int k).C w A l.length z) (List.map_id' l)).mp h2⟩
/-! ### what the maker made, as plain values -/
/-- The blocks that are new since a size. -/
def newS (base : Nat) (w : World) : Stab := fun b _ => base ≤ b ∧ b < w.heap.size
structure Bm {α : Type} (d : Kd α) (ps : α → List (PV N)) : Prop where
  bm : ∀ {w : World} {base : Nat} {ok : Nat → Prop} {x : α} {cs : List Value}, d.M w base ok x cs → VRs E (newS base w) w noRho (ps x) cs
theorem Bm.int (k : IntKind) : Bm (Kd.int k) (fun n => [.int k n]) := ⟨fun h => by
  obtain rfl : _ = [Value.int k _] := h
  exact .cons _ _ _ _ (.int _ _) .nil⟩
theorem Bm.bool : Bm Kd.bool (fun b => [.bool b]) := ⟨fun h => by
  obtain rfl : _ = [Value.bool _] := h
  exact .cons _ _ _ _ (.bool _) .nil⟩
theorem Bm.string : Bm Kd.string (fun s => [.str s.data.toList]) := ⟨fun h => by
  obtain rfl : _ = [Value.string _] := h
  exact .cons _ _ _ _ (.str _) .nil⟩
theorem Bm.pair {α β : Type} {a : Kd α} {b : Kd β} {p : α → List (PV N)} {q : β → List (PV N)} (h : Bm a p) (k : Bm b q) : Bm (Kd.pair a b) (fun x => p x.1 ++ q x.2) := ⟨fun hx => by
  obtain ⟨c0, c1, rfl, h0, h1⟩ := hx
  exact (h.bm h0).append (k.bm h1)⟩
theorem Bm.iso {α β : Type} {a : Kd α} {p : α → List (PV N)} (h : Bm a p) (f : β → α) : Bm (Kd.iso a f) (fun x => p (f x)) := ⟨fun hx => h.bm hx⟩
theorem Bm.row {α : Type} {d : Kd α} {ps : α → List (PV N)} (h : Bm d ps) (c : TC) (conv : α → El N c) (hps : ∀ x, encE E c (conv x) = ps x) (hsz : d.sz = sizeE E c) {e : Nat} {w : World} {base : Nat} {ok : Nat → Prop} {v : Value} {xs : List α} {ρ : Rho} (hr : d.R e w base ok v xs) : VR E (newS base w) w ρ (.vsl none c (xs.map conv)) v := by
  obtain ⟨-, inner, ⟨ho1, ho⟩, hi, hr⟩ := hr
  have fin : ∀ (A : Option Addr) (cap : Nat), v = .slice A xs.length cap → xs.length ≤ cap → (0 < xs.length → ∃ g, A = some ⟨g, 0, none⟩ ∧ base ≤ g ∧ g < w.heap.size ∧ ∀ q u, inner[q]? = some u → w.cell? ⟨g, q, none⟩ = some u) → VR E (newS base w) w ρ (.vsl none c (xs.map conv)) v := by
    rintro A cap rfl hcap hA
    have := VR.vsl (E := E) (S := newS base w) (w := w) (ρ := ρ) none c (xs.map conv) A cap (fun j => (inner.drop (j * d.sz)).take d.sz) (fun j x hx => ?_) (fun j x hx => ?_) (fun j hj q u hu => ?_) (fun h0 => ?_) (by rw [List.length_map]; exact hcap) (fun h => absurd rfl h)
    · rwa [List.length_map] at this
    · rw [List.getElem?_map] at hx
      obtain ⟨y, hy, rfl⟩ := Option.map_eq_some_iff.mp hx
      exact (d.K_len (d.K_of_M (hr j y hy))).trans hsz
    · rw [List.getElem?_map] at hx
      obtain ⟨y, hy, rfl⟩ := Option.map_eq_some_iff.mp hx
      rw [hps]
      exact h.bm (hr j y hy)
    · rw [List.length_map] at hj
      obtain ⟨g, rfl, hb, hlt, hc⟩ := hA (by omega)
      have hq : q < d.sz := by
        have := (List.getElem?_eq_some_iff.mp hu).1
        rw [List.length_take] at this; omega
      have hu2 : inner[j * d.sz + q]? = some u := by
        rw [List.getElem?_take_of_lt hq, List.getElem?_drop] at hu
        exact hu
      rw [← hsz]
      refine ⟨g, 0, rfl, ⟨hb, hlt⟩, ?_, ?_⟩
      · rw [Nat.zero_add]; exact hc _ u hu2
      · exact d.K_one (d.K_of_M (hr j _ (List.getElem?_eq_getElem hj))) u (List.mem_of_getElem? hu)
    · rw [List.length_map] at h0
      obtain ⟨g, rfl, _⟩ := hA h0
      exact ⟨g, 0, rfl⟩
  rcases ho with ⟨rfl, h0⟩ | ⟨g, cap, cur, rfl, hb, hh, hcap, hm, hs, ht⟩
  · refine fin none 0 (by rw [h0]) (by omega) (fun h => by omega)
  · refine fin _ cap rfl hcap (fun h => ⟨g, rfl, hb, (Array.getElem?_eq_some_iff.1 hh).1, fun q u hu => ?_⟩)
    rw [cell_of hh]
    have hq := (List.getElem?_eq_some_iff.mp hu).1
    rw [← ht] at hu
    rw [List.getElem?_take_of_lt (by omega)] at hu
    rw [← Array.getElem?_toList]
    exact hu
theorem Bm.slice {α : Type} {d : Kd α} {ps : α → List (PV N)} (h : Bm d ps) (e : Nat) (c : TC) (conv : α → El N c) (hps : ∀ x, encE E c (conv x) = ps x) (hsz : d.sz = sizeE E c) : Bm (Kd.slice e d) (fun l => [.vsl none c (l.map conv)]) := ⟨fun hx => by
  obtain ⟨v, rfl, hr⟩ := hx
  exact .cons _ _ _ _ (h.row c conv hps hsz hr) .nil⟩
theorem ints_row {k : IntKind} {e : Nat} {w : World} {base : Nat} {ok : Nat → Prop} {v : Value} {xs : List Int} {ρ : Rho} (hr : (Kd.int k).R e w base ok v xs) : VR E (newS base w) w ρ (.vsl none (.int k) xs) v := by
  have := (Bm.int k).row (.int k) (fun n : Int => n) (fun _ => rfl) rfl (ρ := ρ) hr
  exact (congrArg (fun z : List Int => VR E (newS base w) w ρ (.vsl none (.int k) z) v) (List.map_id' xs)).mp this
theorem Bm.ints (k : IntKind) (e : Nat) : Bm (Kd.slice e (Kd.int k)) (fun l => [.vsl none (.int k) l]) := ⟨fun hx => by
  obtain ⟨v, rfl, hr⟩ := hx
  exact .cons _ _ _ _ (ints_row hr) .nil⟩
theorem inv_str {s : List UInt8} {v : Value} (h : VR E S w ρ (.str s) v) : ∃ b : ByteArray, v = .string b ∧ s = b.data.toList := by
  cases h with | str b => exact ⟨b, rfl, rfl⟩
theorem inv_2 {p q : PV N} {args : Array Value} (h : VRs E S w ρ [p, q] args.toList) : ∃ v u, args = #[v, u] ∧ VR E S w ρ p v ∧ VR E S w ρ q u := by
  obtain ⟨l⟩ := args
  cases h with | cons _ v _ _ h hs => cases hs with | cons _ u _ _ h2 hs => cases hs; exact ⟨v, u, rfl, h, h2⟩
theorem vr_str (b : ByteArray) (s : List UInt8) (h : s = b.data.toList) : VR E S w ρ (.str s) (.string b) := h ▸ .str b
theorem res_err {n : Int} {k : IntKind} {t : TypeId} {v : Value} : ResR E S w' ρ [.int k n, .iface 0 .bad] (.tuple #[.int k n, .iface t v]) :=
  ⟨#[.int k n, .iface t v], rfl, .cons _ _ _ _ (.int _ _) (.cons _ _ _ _ (.iface _ _ _ _ (.bad _)) .nil)⟩
theorem res_fine {n : Int} {k : IntKind} : ResR E S w' ρ [.int k n, .nilif] (.tuple #[.int k n, .nilIface]) :=
  ⟨#[.int k n, .nilIface], rfl, .cons _ _ _ _ (.int _ _) (.cons _ _ _ _ .nilif .nil)⟩
theorem below_or {a : World} (h : w' = a ∨ ∃ t, w' = Lib.bytesWorld a 5 t) : Below a.heap.size a w' := by
  rcases h with rfl | ⟨t, rfl⟩
  · exact Below.refl _ _
  · exact Lib.bytesWorld_below _ _ _
theorem post_of {r : List (PV N)} {u : Value} (cx : Cx w (Xof ρ) S ρ w) (hn : ∀ b, ([] : Heap N).length ≤ b → ρ b = none) (hb : Below w.heap.size w w') (hr : ResR E S w' ρ r u) : CallPost E w S ρ (nbOf ([] : Heap N)) (r, []) (.returned u) w' := by
  have hn : ∀ b, ρ b = none := fun b => hn b (Nat.zero_le _)
  refine ⟨u, S, ρ, rfl, ⟨⟨hb.os, hb.tape, hb.output, hb.size, fun k hk _ => hb.block k hk⟩, fun b o h => Nat.lt_of_lt_of_le (cx.st b o h) hb.size, ?_, ?_, ?_⟩, fun b o h => ⟨h, hb.cell (cx.st b o h)⟩, fun b o h h' => absurd h h', hr, ?_, fun b hb => rfl, fun b _ => hn b⟩
  · intro b i q h; rw [hn] at h; exact absurd h (by simp)
  · intro b i q h; rw [hn] at h; exact absurd h (by simp)
  · intro b c i j q h; rw [hn] at h; exact absurd h (by simp)
  · intro b blk h; exact absurd h (by simp)
theorem join_ok {l : List (List UInt8)} {nl : Option TypeId} {v : Value} {b2 : ByteArray} (cx : Cx w (Xof ρ) S ρ w) (hfr : ∀ b, ([] : Heap N).length ≤ b → ρ b = none) (h1 : VR E S w ρ (.vsl nl .str l) v) (hc1 : l.length ≤ 140737488355328) (hc2 : (Lib.join l b2.data.toList).length ≤ 140737488355328) :
    Calls Tryd.prog 16 #[v, .string b2] w (CallPost E w S ρ (nbOf ([] : Heap N)) ([.str (Lib.join l b2.data.toList)], [])) := by
  have key : ∃ (A : Option Addr) (cap : Nat), v = .slice A l.length cap ∧ l.length ≤ cap ∧ (0 < l.length → ∃ b o, A = some ⟨b, o, none⟩) ∧ ∀ (b o : Nat), A = some ⟨b, o, none⟩ → ∀ j, j < l.length → S b (o + j) ∧ w.cell? ⟨b, o + j, none⟩ = some (.string ⟨(l.getD j []).toArray⟩) := by
    cases h1 with
    | vsl _ _ _ A cap vs hl hr hc hA hcap hnl =>
      refine ⟨A, cap, rfl, hcap, hA, fun b o e j hj => ?_⟩
      have hx : l[j]? = some (l.getD j []) := by simp [List.getD, List.getElem?_eq_getElem hj]
      have hr := hr j _ hx
      have hr : VRs E S w noRho [.str (l.getD j [])] (vs j) := hr
      cases hvs : vs j with
      | nil => rw [hvs] at hr; cases hr
      | cons u us =>
        rw [hvs] at hr
        cases hr with
        | cons _ _ _ _ h0 _ =>
          obtain ⟨x, rfl, hx⟩ := inv_str h0
          obtain ⟨b', o', e', g1, g2, -⟩ := hc j hj 0 (.string x) (by rw [hvs]; rfl)
          rw [e] at e'
          injection e' with e'; injection e' with e1 e2; subst e1 e2
          have es : o + (j * sizeE E .str + 0) = o + j := congrArg (o + ·) (Nat.mul_one j)
          rw [es] at g1 g2
          refine ⟨g1, ?_⟩
          rw [g2]
          obtain ⟨⟨q⟩⟩ := x
          have : l.getD j [] = q := hx
          rw [this]
  obtain ⟨A, cap, rfl, hcap, hA, hcell⟩ := key
  have hxs : (l.map fun s => (⟨s.toArray⟩ : ByteArray)).map (·.data.toList) = l := by
    rw [List.map_map]; exact List.map_id l
  by_cases h0 : 0 < l.length
  · obtain ⟨b, o, rfl⟩ := hA h0
    have hb : b < w.heap.size := cx.st _ _ (hcell b o rfl 0 h0).1
    have hJ := Tryd.strings_Join b o cap (l.map fun s => (⟨s.toArray⟩ : ByteArray)) b2 w (fun j x hx => by
      rw [List.getElem?_map] at hx
      obtain ⟨y, hy, rfl⟩ := Option.map_eq_some_iff.mp hx
      obtain ⟨hj, rfl⟩ := List.getElem?_eq_some_iff.mp hy
      rw [(hcell b o rfl j hj).2]
      simp [List.getD, List.getElem?_eq_getElem hj]) hb (by rw [List.length_map]; exact hc1) (by rw [List.length_map]; exact hcap) (by rw [hxs]; exact hc2)
    rw [List.length_map, hxs] at hJ
    refine hJ.mono ?_
    rintro e w' ⟨rfl, h⟩
    exact post_of cx hfr h (vr_str _ _ (by simp))
  · have hl : l = [] := List.length_eq_zero_iff.mp (by omega)
    subst hl
    refine (Tryd.strings_Join_none A cap b2 w).mono ?_
    rintro e w' ⟨rfl, rfl⟩
    exact post_of cx hfr (Below.refl _ _) (vr_str _ _ rfl)

theorem g0 : Tryd.prog.globalNamed "internal/strconv.uint64pow10" = some 0 := by kernel_rfl
theorem glob0 {X : Nat → Prop} (h : Glob glT w X) : Lib.TabIs Tryd.prog w "internal/strconv.uint64pow10" .u64 Lib.pow10Tab := by
  obtain ⟨o, h1, ⟨t, z, rfl⟩, -⟩ := h _ List.mem_cons_self
  unfold Lib.TabIs World.var?
  rw [g0, Option.bind_some, h1]
theorem globC {g : Nat} {p : Value → Prop} {X : Nat → Prop} (h : Glob glT w X) (hm : (g, cellIs p) ∈ glT) : ∃ v, w.cell? ⟨g, 0, none⟩ = some v ∧ p v := by
  obtain ⟨o, h1, ⟨cs, t, z, v, rfl, h2, h3⟩, -⟩ := h _ hm
  exact ⟨v, by rw [cell_of h1]; exact h2, h3⟩
theorem glob1 {X : Nat → Prop} (h : Glob glT w X) : ∃ m, w.cell? ⟨1, 0, none⟩ = some (.int .i64 m) := by
  obtain ⟨v, h1, m, rfl⟩ := globC (g := 1) (p := fun v => ∃ m, v = .int .i64 m) h (List.mem_cons_of_mem _ List.mem_cons_self)
  exact ⟨m, h1⟩
theorem glob2 {X : Nat → Prop} (h : Glob glT w X) : ∃ v, w.cell? ⟨2, 0, none⟩ = some v ∧ isErr v := globC (g := 2) (p := isErr) h (List.mem_cons_of_mem _ (List.mem_cons_of_mem _ List.mem_cons_self))
theorem glob3 {X : Nat → Prop} (h : Glob glT w X) : ∃ v, w.cell? ⟨3, 0, none⟩ = some v ∧ isErr v := globC (g := 3) (p := isErr) h (List.mem_cons_of_mem _ (List.mem_cons_of_mem _ (List.mem_cons_of_mem _ List.mem_cons_self)))
theorem i64ok_spec {n : Int} (h : i64ok n = true) : -9223372036854775808 ≤ n ∧ n ≤ 9223372036854775807 := by
  unfold i64ok at h
  rw [Bool.and_eq_true, decide_eq_true_eq, decide_eq_true_eq] at h
  exact h
/-- A row of strings that was just made. -/
theorem strs_new {l : List ByteArray} {ls : List (List UInt8)} {ρ : Rho} (hlen : ls.length = l.length) (hx : ∀ (j : Nat) (x : List UInt8), ls[j]? = some x → ∃ b : ByteArray, l[j]? = some b ∧ x = b.data.toList) : VR E (newS w.heap.size (w.alloc (.cells (l.map Value.string).toArray 9))) (w.alloc (.cells (l.map Value.string).toArray 9)) ρ (.vsl none .str ls) (.slice (some ⟨w.heap.size, 0, none⟩) l.length l.length) := by
  have hn : (w.alloc (.cells (l.map Value.string).toArray 9)).heap[w.heap.size]? = some (.cells (l.map Value.string).toArray 9 (0, 0)) := heap_alloc_new w _
  have := VR.vsl (E := E) (S := newS w.heap.size (w.alloc (.cells (l.map Value.string).toArray 9))) (w := w.alloc (.cells (l.map Value.string).toArray 9)) (ρ := ρ) none .str ls (some ⟨w.heap.size, 0, none⟩) l.length
    (fun j => [Value.string (l.getD j ByteArray.empty)]) (fun j x _ => rfl) (fun j x h => ?_) (fun j hj q v hq => ?_) (fun _ => ⟨_, _, rfl⟩) (Nat.le_of_eq hlen) (fun h => absurd rfl h)
  · have e : Value.slice (some ⟨w.heap.size, 0, none⟩) (List.length (α := El N .str) ls) l.length = Value.slice (some ⟨w.heap.size, 0, none⟩) l.length l.length := congrArg (fun n => Value.slice (some ⟨w.heap.size, 0, none⟩) n l.length) hlen
    exact e ▸ this
  · obtain ⟨b, h1, rfl⟩ := hx j x h
    have e : l.getD j ByteArray.empty = b := by simp [List.getD, h1]
    rw [e]
    exact .cons _ _ _ _ (.str b) .nil
  · have hj : j < l.length := Nat.lt_of_lt_of_eq hj hlen
    cases q with
    | succ q => simp at hq
    | zero =>
      have hq : Value.string (l.getD j ByteArray.empty) = v := by simpa using hq
      subst hq
      refine ⟨_, _, rfl, ⟨Nat.le_refl _, (Array.getElem?_eq_some_iff.1 hn).1⟩, ?_, rfl⟩
      have es : 0 + (j * sizeE E .str + 0) = j := by rw [Nat.zero_add]; exact Nat.mul_one j
      rw [es, cell_of hn]
      simp [List.getElem?_eq_getElem hj, List.getD]
theorem split_ok {s : ByteArray} {c : UInt8} (cx : Cx w (Xof ρ) S ρ w) (hfr : ∀ b, ([] : Heap N).length ≤ b → ρ b = none) (hg : Glob glT w (Xof ρ)) (hs : s.data.toList.length ≤ 4294967280) :
    Calls Tryd.prog 21 #[.string s, .string ⟨#[c]⟩] w (CallPost E w S ρ (nbOf ([] : Heap N)) ([.vsl none .str (Lib.split s.data.toList [c])], [])) := by
  obtain ⟨m, hm⟩ := glob1 hg
  have h1 : 1 ≤ (⟨#[c]⟩ : ByteArray).size := Nat.le_refl 1
  have hlen := Lib.splitB_all ⟨#[c]⟩ h1 0 _ s rfl
  have e : (Lib.splitB ⟨#[c]⟩ 0 (Lib.countB s ⟨#[c]⟩) s).map (·.data.toList) = Lib.split s.data.toList [c] := Lib.splitB_data _ _ _ _
  refine (Tryd.strings_Split s ⟨#[c]⟩ m w (by have : s.size = s.data.toList.length := rfl; omega) hm h1).mono ?_
  rintro en w' ⟨rfl, rfl⟩
  have hb : Below w.heap.size w (w.alloc (.cells ((Lib.splitB ⟨#[c]⟩ 0 (Lib.countB s ⟨#[c]⟩) s).map Value.string).toArray 9)) := (Below.refl _ w).alloc (Nat.le_refl _) _
  have hv := strs_new (w := w) (ρ := ρ) (l := Lib.splitB ⟨#[c]⟩ 0 (Lib.countB s ⟨#[c]⟩) s) (ls := Lib.split s.data.toList [c]) (by rw [← e, List.length_map]) (fun j x h => by
    rw [← e, List.getElem?_map] at h
    obtain ⟨b, h1, h2⟩ := Option.map_eq_some_iff.mp h
    exact ⟨b, h1, h2.symm⟩)
  rw [hlen] at hv
  exact post_ofS cx hfr hb (S' := fun b o => S b o ∨ newS w.heap.size (w.alloc (.cells ((Lib.splitB ⟨#[c]⟩ 0 (Lib.countB s ⟨#[c]⟩) s).map Value.string).toArray 9)) b o) (fun b o h => .inl h) (fun b o h => h) (VR.mono (fun b o h => ⟨.inr h, rfl⟩) (Rle.refl _) hv)
theorem repeat_ok {nl : Option TypeId} {x : Int} {v : Value} (cx : Cx w (Xof ρ) S ρ w) (hfr : ∀ b, ([] : Heap N).length ≤ b → ρ b = none) (hv : VR E S w ρ (.vsl nl (.int .i64) [x]) v) :
    Calls Tryd.prog 42 #[v, .int .i64 1] w (CallPost E w S ρ (nbOf ([] : Heap N)) ([.vsl none (.int .i64) [x]], [])) := by
  obtain ⟨A, cap, rfl, h1, h2⟩ := row_ints (l := [x]) (by simp) hv
  refine (PAll.slices_Repeat_int_int.calls A cap [x] 1 [x] w h2 h1 rfl).mono ?_
  rintro e w' ⟨v0, rfl, hR, bel⟩
  exact post_ofS cx hfr bel (S' := fun b o => S b o ∨ newS w.heap.size w' b o) (fun b o h => .inl h) (fun b o h => h) (VR.mono (fun b o h => ⟨.inr h, rfl⟩) (Rle.refl _) (ints_row hR))
/-! ### strings.Builder -/
theorem sizeB : ∃ j, Tryd.prog.info? 56 = some j ∧ j.size = 2 := Option.map_eq_some_iff.1 (by kernel_rfl : (Tryd.prog.info? 56).map (·.size) = some 2)
theorem liesB : liesAt Tryd.prog Tryd.prog.depth 56 (2 / Tryd.prog.cellsOf 56) 0 56 1 = true := by kernel_rfl
set_option maxHeartbeats 1000000 in
set_option maxRecDepth 100000 in
theorem copy_used (b : Nat) (w : World) (h0 : w.cell? ⟨b, 0, none⟩ = some (.pointer (some ⟨b, 0, none⟩))) :
    Calls Tryd.prog 30 #[.pointer (some ⟨b, 0, none⟩)] w fun e w' => e = .returned (.tuple #[]) ∧ w' = w := by
  obtain ⟨j, hj, _⟩ := sizeB
  go_enter Tryd.func30, Tryd.ntmps30
  go_wp2
  rw [Lib.run_neq_ptr_same w _ Tryd.underlying53 hj]
  go_wp2
  go_end0
  exact ⟨rfl, rfl⟩
set_option maxHeartbeats 1000000 in
set_option maxRecDepth 100000 in
theorem copy_fresh (b : Nat) (w : World) (h0 : w.cell? ⟨b, 0, none⟩ = some (.pointer none)) (hsh : w.shape? b = some (56, 2)) (hfz : w.frozen? ⟨b, 0, none⟩ = false) :
    Calls Tryd.prog 30 #[.pointer (some ⟨b, 0, none⟩)] w fun e w' => e = .returned (.tuple #[]) ∧ w' = w.setCell ⟨b, 0, none⟩ (.pointer (some ⟨b, 0, none⟩)) := by
  obtain ⟨j, hj, hjs⟩ := sizeB
  go_enter Tryd.func30, Tryd.ntmps30
  go_wp2
  rw [Lib.run_to_unsafe w ⟨b, 0, none⟩ Tryd.underlying53 Tryd.underlying92 hj (by rw [hjs]; decide) hsh (Nat.zero_lt_succ 1)]
  simp only [Result.andThen]
  rw [Oper.upon_value]
  go_wp2
  rw [run_callFunc_extern Tryd.func43 (by kernel_rfl) (by kernel_rfl) (by kernel_rfl) (e := Extern.AbiNoEscape.same) (by kernel_rfl)]
  rw [Lib.run_noEscape]
  simp only [Result.andThen]
  rw [Oper.upon_value]
  go_wp2
  rw [Lib.run_from_unsafe w ⟨b, 0, none⟩ Tryd.underlying92 Tryd.underlying53 hj hsh liesB]
  simp only [Result.andThen]
  rw [Oper.upon_value]
  go_wp2
  go_end0
  exact ⟨rfl, rfl⟩
set_option maxHeartbeats 1000000 in
set_option maxRecDepth 100000 in
/-- String, and the world behind it. -/
theorem string_run {P : Program} {σ : Shelf.Ren} (L : Lays.n169 P σ) (X : Builder.Extra P σ) (b g cap : Nat) (p : Value) (cur : Array Value) (l : List UInt8) (w : World) (h0 : l ≠ []) (hbk : w.heap[b]? = some (.cells #[p, .slice (some ⟨g, 0, none⟩) l.length cap] (σ.t 72) (0, 0)))
    (hg : w.heap[g]? = some (.cells cur (σ.t 5) (0, 0))) (hnc : l.length ≤ cap) (hcm : cap ≤ maxLen) (hcs : cur.size = cap) (hcell : ∀ (j : Nat) x, l[j]? = some x → cur[j]? = some (.int .u8 x.toNat)) :
    Calls P (σ.f 169) #[.pointer (some ⟨b, 0, none⟩)] w fun e w' => e = .returned (.string ⟨l.toArray⟩) ∧ w' = w.drew.freeze ⟨g, 0, none⟩ l.length := by
  have hl0 : l.length ≠ 0 := by simpa using h0
  have c1 : w.drew.cell? ⟨b, 1, none⟩ = some (.slice (some ⟨g, 0, none⟩) l.length cap) := by
    have : w.drew.heap[b]? = some (.cells #[p, .slice (some ⟨g, 0, none⟩) l.length cap] (σ.t 72) (0, 0)) := hbk
    rw [Lib.cell_of_heap this]; rfl
  have hSD : (Builtin.unsafeSliceData_ #[(σ.t 37)] (σ.t 127) #[.slice (some ⟨g, 0, none⟩) l.length cap]).run P w.drew = .ok (.pointer (some ⟨g, 0, none⟩)) w.drew := Lib.run_unsafeSliceData_row _ _ _ _ _ _ (by omega)
  have hg' : w.drew.heap[g]? = some (.cells cur (σ.t 5) (0, 0)) := hg
  have hUS : (Builtin.unsafeString_ #[(σ.t 127), (σ.t 3)] (σ.t 9) #[.pointer (some ⟨g, 0, none⟩), .int .i64 l.length]).run P w.drew = .ok (.string ⟨l.toArray⟩) (w.drew.freeze ⟨g, 0, none⟩ l.length) := by
    refine Lib.run_unsafeString_row w.drew (σ.t 127) (σ.t 3) (σ.t 9) (σ.t 5) L.t127 X.cellsByte g cur.size (by simp [World.shape?, hg']) l h0 (by omega) (by unfold maxLen at hcm; omega) (fun j x hx => ?_)
    have := hcell j x hx
    rw [Addr.add_lit, Nat.zero_add, cell_of hg']; exact this
  have mixed := L.mixed
  have t72 := L.t72; have a72 := L.a72; have z72 := L.z72; have v72 := L.v72; have u72 := run_underlying L.t72
  have t70 := L.t70; have a70 := L.a70; have z70 := L.z70; have v70 := L.v70; have u70 := run_underlying L.t70
  have t37 := L.t37; have a37 := L.a37; have z37 := L.z37; have v37 := L.v37; have u37 := run_underlying L.t37
  have t127 := L.t127; have a127 := L.a127; have z127 := L.z127; have v127 := L.v127; have u127 := run_underlying L.t127
  have t3 := L.t3; have a3 := L.a3; have z3 := L.z3; have v3 := L.v3; have u3 := run_underlying L.t3
  have t9 := L.t9; have a9 := L.a9; have z9 := L.z9; have v9 := L.v9; have u9 := run_underlying L.t9
  have t5 := X.t5; have a5 := X.a5; have z5 := X.z5; have v5 := X.v5; have u5 := run_underlying X.t5
  clear hcell hcm hcs hnc h0
  go_enter L.f169, Body.n169_ntmps σ
  go_wp2
  go_region_o
  all_goals (go_wp2; go_ret; exact ⟨rfl, rfl⟩)
theorem freeze_block (w : World) (g n k : Nat) (h : k ≠ g) : (w.drew.freeze ⟨g, 0, none⟩ n).heap[k]? = w.heap[k]? := by
  unfold World.freeze
  split
  · rfl
  · show (w.heap.modify g _)[k]? = _
    rw [Array.getElem?_modify, if_neg (fun e => h e.symm)]
theorem freeze_cell (w : World) (g n : Nat) (a : Addr) : (w.drew.freeze ⟨g, 0, none⟩ n).cell? a = w.cell? a := by
  unfold World.freeze
  split
  · rfl
  · show (match (w.heap.modify g _)[a.block]? with | some (.cells c _ _) => if a.spot.isSome then none else c[a.off]? | _ => none) = match w.heap[a.block]? with | some (.cells c _ _) => if a.spot.isSome then none else c[a.off]? | _ => none
    rw [Array.getElem?_modify]
    by_cases e : g = a.block
    · rw [if_pos e]
      cases w.heap[a.block]? with
      | none => rfl
      | some o => cases o <;> rfl
    · rw [if_neg e]
theorem freeze_size (w : World) (g n : Nat) : (w.drew.freeze ⟨g, 0, none⟩ n).heap.size = w.heap.size := by
  unfold World.freeze
  split
  · rfl
  · show (w.heap.modify g _).size = _
    rw [Array.size_modify]
theorem freeze_rest (w : World) (g n : Nat) : (w.drew.freeze ⟨g, 0, none⟩ n).os = w.os ∧ (w.drew.freeze ⟨g, 0, none⟩ n).tape = w.tape ∧ (w.drew.freeze ⟨g, 0, none⟩ n).output = w.output := by
  unfold World.freeze
  split <;> exact ⟨rfl, rfl, rfl⟩
theorem copy_ok {p : PV N} {l : List Int} {v : Value} (cx : Cx w (Xof ρ) S ρ w) (hp : p = .nilp ∨ p = .bptr 0 0) (hblk : ∀ b blk, ([some (.box 56 [p, .sl 1 0]), some (.row 0 0 5 (.int .u8) l)] : Heap N)[b]? = some (some blk) → BR E S ρ w b blk) (hfr : ∀ b, 2 ≤ b → ρ b = none) (hv : VR E S w ρ (.bptr 0 0) v) :
    Calls Tryd.prog 30 #[v] w (CallPost E w S ρ 1 ([], [some (.box 56 [.bptr 0 0, .sl 1 0]), some (.row 0 0 5 (.int .u8) l)])) := by
  cases hv with
  | bptr _ _ i q h hk hb =>
    have hB := hblk 0 _ rfl
    have hB1 := hblk 1 _ rfl
    obtain ⟨i', q', vs, g1, g2, g3, g4, g5, g6⟩ := hB
    rw [h] at g1; injection g1 with g1; subst g1
    rw [hb] at g3; injection g3 with g3; subst g3
    obtain ⟨vs⟩ := vs
    rcases g6 with _ | ⟨_, v0, _, _, k0, g6⟩; rcases g6 with _ | ⟨_, v1, _, _, k1, g6⟩; cases g6
    rcases hp with rfl | rfl
    · cases k0
      refine (copy_fresh q w (by rw [cell_of g5]; rfl) (by simp [World.shape?, g5]) (by simp [World.frozen?, g5])).mono ?_
      rintro e w' ⟨rfl, rfl⟩
      have hgr : w.grownBy (w.setCell ⟨q, 0, none⟩ (.pointer (some ⟨q, 0, none⟩))) i.base := ⟨rfl, rfl, rfl, by simp [World.setCell], fun k hk hne => by rw [hb] at hne; exact Below.heap_setCell _ _ _ _ (fun e => hne (by rw [e]))⟩
      have e0 : setRho ρ 0 i = ρ := by funext c'; by_cases e : c' = 0 <;> simp [setRho, e, h]
      have o := chg_out (E := E) (hp := [some (.box 56 [.nilp, .sl 1 0]), some (.row 0 0 5 (.int .u8) l)]) (tc := [(0, true), (1, true)]) (i' := i) (blk := .box 56 [.bptr 0 0, .sl 1 0]) cx h g4 hgr (.refl _) g4 (.inl rfl) (fun hc => by
        rw [e0]
        refine ⟨i, q, _, h, hk, hb, g4, Go.Vm.heap_setCell_same g5 _, ?_⟩
        exact .cons _ _ _ _ (.bptr 0 0 i q h hk hb) (.cons _ _ _ _ (VR.mono hc (Rle.refl _) k1) .nil)) (by simp) (by simp)
      rw [e0] at o
      exact ⟨.tuple #[], S, ρ, rfl, o.cx, o.st, o.new, ⟨#[], rfl, .nil⟩, fun b blk hb => o.br (hblk b) blk hb, fun _ _ => rfl, hfr⟩
    · obtain ⟨⟩ : v0 = .pointer (some ⟨q, 0, none⟩) := by
        cases k0 with
        | bptr _ _ i2 q2 a1 a2 a3 =>
          rw [h] at a1; injection a1 with a1; subst a1
          rw [hb] at a3; injection a3 with a3; subst a3; rfl
      refine (copy_used q w (by rw [cell_of g5]; rfl)).mono ?_
      rintro e w' ⟨rfl, rfl⟩
      exact ⟨.tuple #[], S, ρ, rfl, cx, fun b o h => ⟨h, rfl⟩, fun b o h h' => absurd h h', ⟨#[], rfl, .nil⟩, hblk, fun _ _ => rfl, hfr⟩
theorem string_ok {l : List Int} {v : Value} (cx : Cx w (Xof ρ) S ρ w) (hl : l.all byteOk = true) (h0 : l ≠ []) (hblk : ∀ b blk, ([some (.box 56 [.bptr 0 0, .sl 1 0]), some (.row 0 0 5 (.int .u8) l)] : Heap N)[b]? = some (some blk) → BR E S ρ w b blk) (hfr : ∀ b, 2 ≤ b → ρ b = none) (hv : VR E S w ρ (.bptr 0 0) v) :
    Calls Tryd.prog 18 #[v] w (CallPost E w S ρ 1 ([.str (strOf l)], [some (.box 56 [.bptr 0 0, .vsl none (.int .u8) l])])) := by
  cases hv with
  | bptr _ _ i q h hk hb =>
    have hB := hblk 0 _ rfl
    obtain ⟨j, r1, r2, r3, r4, r5, r6, r7, -⟩ := hblk 1 _ rfl
    have r7 := r7 (by omega)
    obtain ⟨i', q', vs, g1, g2, g3, g4, g5, g6⟩ := hB
    rw [h] at g1; injection g1 with g1; subst g1
    rw [hb] at g3; injection g3 with g3; subst g3
    obtain ⟨vs⟩ := vs
    rcases g6 with _ | ⟨_, v0, _, _, k0, g6⟩; rcases g6 with _ | ⟨_, v1, _, _, k1, g6⟩; cases g6
    obtain ⟨⟩ : v0 = .pointer (some ⟨q, 0, none⟩) := by
      cases k0 with
      | bptr _ _ i2 q2 a1 a2 a3 =>
        rw [h] at a1; injection a1 with a1; subst a1
        rw [hb] at a3; injection a3 with a3; subst a3; rfl
    obtain ⟨g, hg⟩ : ∃ g, j.base = some g := by
      cases hj : j.base with
      | none => exact absurd (r7.1 hj).1 h0
      | some g => exact ⟨g, rfl⟩
    obtain ⟨cur, c1, c2, c3, c4, c5, c6, -⟩ := r7.2 g hg
    have hv1 : v1 = .slice (some ⟨g, 0, none⟩) l.length j.cap := by
      cases k1 with
      | sl _ _ n cap j2 A a1 a2 a3 a4 =>
        rw [r1] at a1; injection a1 with a1; subst a1
        obtain ⟨rfl, rfl, rfl⟩ := a4 r4
        rw [hg, r6]; rfl
    subst hv1
    have hsz : cur.size = j.cap := by rw [c4]; exact Nat.mul_one _
    -- the bytes
    have hcell : ∀ (k : Nat) x, l[k]? = some x → cur[k]? = some (.int .u8 x) := fun k x hx => by
      have := c6 k x hx
      have hlt : k < cur.size := by have := (List.getElem?_eq_some_iff.mp hx).1; have : (List.length (α := Int) l) = List.length (α := El N (.int .u8)) l := rfl; omega
      have e : (cur.toList.drop (k * sizeE E (.int .u8))).take (sizeE E (.int .u8)) = [cur[k]] := by
        have e1 : k * sizeE E (.int .u8) = k := Nat.mul_one _
        have e2 : sizeE E (.int .u8) = 1 := rfl
        rw [e1, e2, List.drop_eq_getElem_cons (by simpa using hlt)]
        rfl
      rw [e] at this
      have this : VRs E S w noRho [.int .u8 x] [cur[k]] := this
      cases this with
      | cons _ _ _ _ hv _ =>
        rw [Array.getElem?_eq_getElem hlt]
        generalize cur[k] = u at hv
        cases hv
        rfl
    have hby : ∀ n ∈ l, 0 ≤ n ∧ n ≤ 255 := fun n hn => by
      have := List.all_eq_true.mp hl n hn
      unfold byteOk at this
      rw [Bool.and_eq_true, decide_eq_true_eq, decide_eq_true_eq] at this
      exact this
    have hlen : (strOf l).length = l.length := List.length_map _
    have hcell2 : ∀ (k : Nat) x, (strOf l)[k]? = some x → cur[k]? = some (.int .u8 x.toNat) := fun k x hx => by
      unfold strOf at hx
      rw [List.getElem?_map] at hx
      obtain ⟨n, hn, rfl⟩ := Option.map_eq_some_iff.mp hx
      obtain ⟨b1, b2⟩ := hby n (List.mem_of_getElem? hn)
      rw [hcell k n hn]
      have : (UInt8.ofNat n.toNat).toNat = n.toNat := by rw [UInt8.toNat_ofNat']; omega
      rw [this, Int.toNat_of_nonneg b1]
    have hlt : g < w.heap.size := (Array.getElem?_eq_some_iff.1 c1).1
    have hne : q ≠ g := fun e => absurd (cx.inj 0 1 i j q h r1 hb (by rw [e]; exact hg) (by omega) (by omega)) (by decide)
    have hne0 : strOf l ≠ [] := fun e => h0 (List.length_eq_zero_iff.mp (by rw [← hlen, e]; rfl))
    have hgS : ∀ o, ¬ S g o := (cx.own 1 j g r1 hg (by omega)).2.1 r3
    have hqS : ∀ o, ¬ S q o := (cx.own 0 i q h hb (by omega)).2.1 g4
    have hl2 : l.length ≤ j.cap := c2
    refine (string_run Tryd.lays169 Tryd.Builder_Extra_169 q g j.cap _ cur (strOf l) w hne0 (by rw [hlen]; exact g5) c1 (by rw [hlen]; exact hl2) c3 hsz hcell2).mono ?_
    rintro e w' ⟨rfl, rfl⟩
    generalize hw : w.drew.freeze ⟨g, 0, none⟩ (strOf l).length = w'
    have fb : ∀ k, k ≠ g → w'.heap[k]? = w.heap[k]? := fun k hk => by rw [← hw]; exact freeze_block w g _ k hk
    have fc : ∀ a, w'.cell? a = w.cell? a := fun a => by rw [← hw]; exact freeze_cell w g _ a
    have fs : w'.heap.size = w.heap.size := by rw [← hw]; exact freeze_size w g _
    obtain ⟨fo, ft, fu⟩ : w'.os = w.os ∧ w'.tape = w.tape ∧ w'.output = w.output := by rw [← hw]; exact freeze_rest w g _
    clear hw
    let ρ' : Rho := fun b => if b = 0 then ρ 0 else none
    have h' : ρ' 0 = some i := by show (if (0 : Nat) = 0 then ρ 0 else none) = _; rw [if_pos rfl]; exact h
    have hρ' : ∀ b k, ρ' b = some k → b = 0 ∧ k = i := fun b k hk => by
      have hk : (if b = 0 then ρ 0 else none) = some k := hk
      by_cases e : b = 0
      · rw [if_pos e, h] at hk; injection hk with hk; exact ⟨e, hk.symm⟩
      · rw [if_neg e] at hk; exact absurd hk (by simp)
    let S' : Stab := fun b o => S b o ∨ (b = g ∧ o < l.length)
    refine ⟨_, S', ρ', rfl, ⟨⟨fo, ft, fu, Nat.le_of_eq fs.symm, fun k hk hx => fb k (fun e => hx ⟨1, j, r1, by rw [e]; exact hg, by omega⟩)⟩, fun b o hh => ?_, fun b k p hk hp _ => ?_, fun b k p hk hp hm => ?_, fun b c k1 k2 p e1 e2 _ _ _ _ => ?_⟩, fun b o hh => ⟨.inl hh, fc _⟩, fun b o hh hn => ?_, ?_, fun b blk hh => ?_, fun b hb0 => ?_, fun b hb1 => ?_⟩
    · rw [fs]; rcases hh with hh | ⟨rfl, _⟩
      · exact cx.st b o hh
      · exact hlt
    · obtain ⟨rfl, rfl⟩ := hρ' b k hk
      rw [fs]; exact cx.lt 0 _ p h hp (by omega)
    · obtain ⟨rfl, rfl⟩ := hρ' b k hk
      obtain ⟨a1, a2, a3⟩ := cx.own 0 _ p h hp (by omega)
      rw [hb] at hp; injection hp with hp; subst hp
      exact ⟨a1, fun _ o hh => hh.elim (hqS o) (fun e => hne e.1), fun e1 => absurd e1 (by omega)⟩
    · rw [(hρ' b k1 e1).1, (hρ' c k2 e2).1]
    · rcases hh with hh | ⟨rfl, _⟩
      · exact absurd hh hn
      · exact .inl ⟨1, j, r1, hg, by omega⟩
    · exact vr_str ⟨(strOf l).toArray⟩ _ rfl
    · cases b with
      | succ b => exact absurd hh (by simp)
      | zero =>
        obtain rfl : PB.box 56 [.bptr 0 0, .vsl none (.int .u8) l] = blk := by simpa using hh
        refine ⟨i, q, _, h', hk, hb, g4, (fb q hne).trans g5, .cons _ _ _ _ (.bptr 0 0 i q h' hk hb) (.cons _ _ _ _ ?_ .nil)⟩
        refine VR.vsl (E := E) none (.int .u8) l (some ⟨g, 0, none⟩) j.cap (fun k => [Value.int .u8 ((l : List Int).getD k 0)]) (fun k x _ => rfl) (fun k x hx => ?_) (fun k hk2 p v hp => ?_) (fun _ => ⟨_, _, rfl⟩) hl2 (fun e => absurd rfl e)
        · have hx : (l : List Int)[k]? = some x := hx
          have e : (l : List Int).getD k 0 = x := by rw [List.getD_eq_getElem?_getD, hx]; rfl
          rw [e]
          exact .cons _ _ _ _ (.int _ _) .nil
        · have hk2 : k < (l : List Int).length := hk2
          cases p with
          | succ p => simp at hp
          | zero =>
            have hp : Value.int .u8 ((l : List Int).getD k 0) = v := by simpa using hp
            subst hp
            have es : 0 + (k * sizeE E (.int .u8) + 0) = k := by rw [Nat.zero_add]; exact Nat.mul_one k
            refine ⟨g, 0, rfl, .inr ⟨rfl, by rw [es]; exact hk2⟩, ?_, rfl⟩
            rw [es, fc, cell_of c1, hcell k _ (List.getElem?_eq_getElem hk2)]
            simp [List.getD, List.getElem?_eq_getElem hk2]
    · obtain rfl : b = 0 := by omega
      exact (h'.trans h.symm)
    · show (if b = 0 then ρ 0 else none) = none
      have hb1 : 1 ≤ b := hb1
      rw [if_neg (by omega)]
theorem extOK : ExtOK T := by
  intro f g hf pargs hp r hg S ρ w args cx hglob hargs hblk hfr
  have hf : extT f = some g := hf
  unfold extT at hf
  split at hf
  · -- strconv.Itoa
    obtain rfl := Option.some.inj hf
    unfold xItoa at hg
    split at hg
    · rename_i n
      obtain ⟨hn, hg⟩ := bif_true hg
      obtain rfl := Option.some.inj hg
      obtain ⟨hn1, hn2⟩ := i64ok_spec hn
      obtain ⟨v, rfl, h1⟩ := inv_1 hargs
      obtain rfl := inv_int h1
      refine (Tryd.strconv_Itoa n hn1 hn2 w (glob0 hglob)).mono ?_
      rintro e w' ⟨rfl, k, os, rfl⟩
      exact post_of cx hfr ⟨rfl, rfl, rfl, by simp [Sort.grow, World.drewN], fun k hk => by simp [Sort.grow, World.drewN, Array.getElem?_append_left hk]⟩ (vr_str _ _ (by simp))
    · exact absurd hg (by simp)
  · -- strings.Join
    obtain rfl := Option.some.inj hf
    unfold xJoin at hg
    split at hg
    · rename_i nl l sep
      obtain ⟨hc, hg⟩ := bif_true hg
      rw [Bool.and_eq_true, Nat.ble_eq, Nat.ble_eq] at hc
      obtain ⟨hc1, hc2⟩ := hc
      obtain rfl := Option.some.inj hg
      obtain ⟨v, u, rfl, h1, h2⟩ := inv_2 hargs
      obtain ⟨b2, rfl, rfl⟩ := inv_str h2
      exact join_ok (l := l) cx hfr h1 hc1 hc2
    · exact absurd hg (by simp)
  · -- Builder.String
    obtain rfl := Option.some.inj hf
    unfold xString at hg
    split at hg
    · rename_i l
      obtain ⟨hc, hg⟩ := bif_true hg
      rw [Bool.and_eq_true, Bool.not_eq_true'] at hc
      obtain rfl := Option.some.inj hg
      obtain ⟨v, rfl, h1⟩ := inv_1 hargs
      exact string_ok (l := l) cx hc.1 (fun e => by have h2 := hc.2; rw [show l = ([] : List Int) from e] at h2; exact absurd h2 (by show ¬ (true = false); decide)) hblk hfr h1
    · exact absurd hg (by simp)
  · -- strings.Split
    obtain rfl := Option.some.inj hf
    unfold xSplit at hg
    split at hg
    · rename_i s c
      obtain ⟨hc, hg⟩ := bif_true hg
      rw [Nat.ble_eq] at hc
      obtain rfl := Option.some.inj hg
      obtain ⟨v, u, rfl, h1, h2⟩ := inv_2 hargs
      obtain ⟨b, rfl, rfl⟩ := inv_str h1
      obtain ⟨b2, rfl, hb2⟩ := inv_str h2
      obtain rfl : b2 = ⟨#[c]⟩ := by
        obtain ⟨⟨l⟩⟩ := b2
        have : [c] = l := hb2
        rw [this]
      exact split_ok cx hfr hglob hc
    · exact absurd hg (by simp)
  · -- copyCheck
    obtain rfl := Option.some.inj hf
    unfold xCopy at hg
    split at hg
    · rename_i l
      obtain rfl := Option.some.inj hg
      obtain ⟨v, rfl, h1⟩ := inv_1 hargs
      exact copy_ok (l := l) cx (.inl rfl) hblk hfr h1
    · rename_i l
      obtain rfl := Option.some.inj hg
      obtain ⟨v, rfl, h1⟩ := inv_1 hargs
      exact copy_ok (l := l) cx (.inr rfl) hblk hfr h1
    · exact absurd hg (by simp)
  · -- strings.Cut
    obtain rfl := Option.some.inj hf
    unfold xCut at hg
    split at hg
    · rename_i s c
      obtain ⟨hc, hg⟩ := bif_true hg
      rw [Nat.ble_eq] at hc
      obtain rfl := Option.some.inj hg
      obtain ⟨v, u, rfl, h1, h2⟩ := inv_2 hargs
      obtain ⟨b, rfl, rfl⟩ := inv_str h1
      obtain ⟨b2, rfl, rfl⟩ := inv_str h2
      obtain ⟨m, hm⟩ := glob1 hglob
      refine (Tryd.strings_Cut b b2 m w (by have : b.size = b.data.toList.length := rfl; omega) hm).mono ?_
      rintro e w' ⟨rfl, n, rfl⟩
      exact post_of cx hfr ⟨rfl, rfl, rfl, Nat.le_refl _, fun _ _ => rfl⟩ ⟨_, rfl, .cons _ _ _ _ (vr_str _ _ (by simp)) (.cons _ _ _ _ (vr_str _ _ (by simp)) (.cons _ _ _ _ (.bool _) .nil))⟩
    · exact absurd hg (by simp)
  · -- strconv.Atoi
    obtain rfl := Option.some.inj hf
    unfold xAtoi at hg
    split at hg
    · rename_i s
      obtain ⟨hl, hg⟩ := bif_true hg
      rw [Nat.ble_eq] at hl
      obtain ⟨v, rfl, h1⟩ := inv_1 hargs
      obtain ⟨b, rfl, rfl⟩ := inv_str h1
      have hsz : b.size = b.data.toList.length := rfl
      split at hg
      · rename_i v hv
        obtain rfl := Option.some.inj hg
        refine (Tryd.strconv_Atoi_ok b (by omega) v hv w).mono ?_
        rintro e w' ⟨rfl, h⟩
        exact post_of cx hfr (below_or h) res_fine
      · rename_i hv
        obtain rfl := Option.some.inj hg
        obtain ⟨ev, g1, g2⟩ := glob3 hglob
        refine (Tryd.strconv_Atoi_range b (by omega) hv ev w g1 g2).mono ?_
        rintro e w' ⟨N, rfl, _, _, h⟩
        exact post_of cx hfr h res_err
      · rename_i hv1 hv2
        obtain rfl := Option.some.inj hg
        obtain ⟨ev, g1, g2⟩ := glob2 hglob
        refine (Tryd.strconv_Atoi_syntax b (by omega) hv1 hv2 ev w g1 g2).mono ?_
        rintro e w' ⟨N, rfl, _, _, h⟩
        exact post_of cx hfr h res_err
    · exact absurd hg (by simp)
  · -- slices.Repeat
    obtain rfl := Option.some.inj hf
    unfold xRepeat at hg
    split at hg
    · obtain rfl := Option.some.inj hg
      obtain ⟨v, u, rfl, h1, h2⟩ := inv_2 hargs
      obtain rfl := inv_int h2
      exact repeat_ok cx hfr h1
    · exact absurd hg (by simp)
  · exact absurd hf (by simp)
theorem inpOK : InpOK T := fun f q h => absurd h (by show inpT f ≠ some q; simp [inpT])
end
end Go.Proofs.YtojlhbckfkpjhaaDoor
