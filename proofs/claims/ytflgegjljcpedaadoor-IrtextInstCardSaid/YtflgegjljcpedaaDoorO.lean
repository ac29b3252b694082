import Derived.Test.YtflgegjljcpedaaDoorR
import Derived.Test.YtflgegjljcpedaaDoorS3
import Derived.Test.YtflgegjljcpedaaDoorWAll
set_option linter.all false
namespace Go.Vm
open Go Go.RowKit Go.Proofs.YtflgegjljcpedaaDoorW.PrintWords
section
variable {N : Nat → Type} {E : Enc N}
/-- What a kind's cells are as plain values. -/
structure Br {α : Type} (E : Enc N) (d : Kd α) (ps : α → List (PV N)) : Prop where
  br : ∀ {w : World} {x : α} {cs : List Value}, d.K w x cs → VRs E (oldS w) w noRho (ps x) cs
theorem Br.scalarInt (k : IntKind) : Br E (Kd.int k) (fun n => [.int k n]) := ⟨fun h => by
  obtain rfl : _ = [Value.int k _] := h
  exact .cons _ _ _ _ (.int _ _) .nil⟩
theorem Br.bool : Br E Kd.bool (fun b => [.bool b]) := ⟨fun h => by
  obtain rfl : _ = [Value.bool _] := h
  exact .cons _ _ _ _ (.bool _) .nil⟩
theorem Br.string : Br E Kd.string (fun s => [.str s.data.toList]) := ⟨fun h => by
  obtain rfl : _ = [Value.string _] := h
  exact .cons _ _ _ _ (.str _) .nil⟩
theorem Br.pair {α β : Type} {a : Kd α} {b : Kd β} {p : α → List (PV N)} {q : β → List (PV N)} (h : Br E a p) (k : Br E b q) : Br E (Kd.pair a b) (fun x => p x.1 ++ q x.2) := ⟨fun hx => by
  obtain ⟨c0, c1, rfl, h0, h1⟩ := hx
  exact (h.br h0).append (k.br h1)⟩
theorem Br.iso {α β : Type} {a : Kd α} {p : α → List (PV N)} (h : Br E a p) (f : β → α) : Br E (Kd.iso a f) (fun x => p (f x)) := ⟨fun hx => h.br hx⟩
/-- A row that the caller holds. -/
theorem Br.row {α : Type} {d : Kd α} {ps : α → List (PV N)} (h : Br E d ps) (c : TC) (conv : α → El N c) (hps : ∀ x, encE E c (conv x) = ps x) (hsz : d.sz = sizeE E c) (hpos : 0 < d.sz) {w : World} {ρ : Rho} {A : Option Addr} {cap : Nat} {l : List α} (hr : Kd.C d w A l.length l) (hc : l.length ≤ cap) :
    VR E (oldS w) w ρ (.vsl none c (l.map conv)) (.slice A l.length cap) := by
  obtain ⟨-, -, h1⟩ := hr
  have key : ∀ j (hj : j < l.length), ∃ cs, cs.length = sizeE E c ∧ VRs E (oldS w) w noRho (encE E c (conv l[j])) cs ∧ (∀ u ∈ cs, u.oneCell' = true) ∧ ∃ ad, A = some ad ∧ ∀ i u, cs[i]? = some u → w.cell? (ad.add (j * sizeE E c + i)) = some u := by
    intro j hj
    obtain ⟨ad, e, h2⟩ := h1 (by omega)
    obtain ⟨cs, h3, h4, h5⟩ := h2 j _ (List.getElem?_eq_getElem hj)
    rw [hsz] at h3 h5
    exact ⟨cs, h3, by rw [hps]; exact h.br h4, d.K_one h4, ad, e, h5⟩
  have hA : 0 < l.length → ∃ b o, A = some ⟨b, o, none⟩ := fun hj => by
    obtain ⟨cs, h2, -, -, ad, e, h4⟩ := key 0 hj
    have hcell := h4 0 cs[0] (List.getElem?_eq_getElem (by omega))
    obtain ⟨b, o, sp⟩ := ad
    rw [show 0 * sizeE E c + 0 = 0 by omega] at hcell
    have h0 : sp = none := by simpa [Addr.add] using (cell_lt hcell).2
    subst h0
    exact ⟨b, o, e⟩
  let vs : Nat → List Value := fun j => if hj : j < l.length then (key j hj).choose else []
  have hvs : ∀ j (hj : j < l.length), vs j = (key j hj).choose := fun j hj => dif_pos hj
  have at_ : ∀ (j : Nat) x, (l.map conv)[j]? = some x → ∃ hj : j < l.length, x = conv l[j] := fun j x hx => by
    obtain ⟨y, hy, rfl⟩ := by simpa using hx
    obtain ⟨hj, rfl⟩ := List.getElem?_eq_some_iff.mp hy
    exact ⟨hj, rfl⟩
  have := VR.vsl (E := E) (S := oldS w) (w := w) (ρ := ρ) none c (l.map conv) A cap vs (fun j x hx => by
    obtain ⟨hj, rfl⟩ := at_ j x hx
    rw [hvs j hj]; exact (key j hj).choose_spec.1) (fun j x hx => by
    obtain ⟨hj, rfl⟩ := at_ j x hx
    rw [hvs j hj]; exact (key j hj).choose_spec.2.1) (fun j hj i u hu => by
    rw [List.length_map] at hj
    rw [hvs j hj] at hu
    obtain ⟨k1, ad, e, h4⟩ := (key j hj).choose_spec.2.2
    have hcell := h4 i u hu
    obtain ⟨b, o, e'⟩ := hA (by omega)
    rw [e', Option.some.injEq] at e
    subst e
    rw [Addr.add_mid] at hcell
    exact ⟨b, o, e', (cell_lt hcell).1, hcell, k1 u (List.mem_of_getElem? hu)⟩) (by rw [List.length_map]; exact hA) (by rw [List.length_map]; exact hc) (fun h => absurd rfl h)
  rwa [List.length_map] at this
theorem Br.slice {α : Type} {d : Kd α} {ps : α → List (PV N)} (h : Br E d ps) (e : Nat) (c : TC) (conv : α → El N c) (hps : ∀ x, encE E c (conv x) = ps x) (hsz : d.sz = sizeE E c) (hpos : 0 < d.sz) : Br E (Kd.slice e d) (fun l => [.vsl none c (l.map conv)]) := ⟨fun hx => by
  obtain ⟨A, cap, rfl, hl, hr⟩ := hx
  exact .cons _ _ _ _ (h.row c conv hps hsz hpos hr hl) .nil⟩
end
end Go.Vm
namespace Go.Proofs.YtflgegjljcpedaaDoor
open Go Go.RowKit Go.Vm Go.ChangeShapes Go.WideShapes Go.ChangeAt Go.Proofs.YtflgegjljcpedaaDoorW.PrintWords
structure R30 where
  f0 : Int
  f1 : Int
  f2 : List Int
  f3 : Int
  f4 : Int
structure R100 where
  f0 : Int
  f1 : List Int
structure R38 where
  f0 : Int
  f1 : Int
  f2 : List R100
  f3 : List Int
structure R40 where
  f0 : List Int
  f1 : List R30
  f2 : R38
  f3 : Int
  f4 : Int
  f5 : Int
structure R53 where
  f0 : ByteArray
  f1 : Int
  f2 : Int
  f3 : Int
  f4 : Int
structure R55 where
  f0 : ByteArray
  f1 : Int
  f2 : Bool
structure R27 where
  f0 : ByteArray
  f1 : List Int
  f2 : List R53
  f3 : List R55
  f4 : List Int
  f5 : List R40
def Wi (v : Int) : Prop := (Lit.int .i64 v).wf = true
def Wu (v : Int) : Prop := (Lit.int .u64 v).wf = true
def Ws (s : ByteArray) : Prop := s.size ≤ 140737488351232
def Bd {α : Type} (l : List α) (B : Nat) (P : α → Prop) : Prop := l.length ≤ maxLen ∧ l.length * B ≤ 140737488351232 ∧ ∀ y ∈ l, P y
theorem wf_i {n : Int} (h : Wi n) : inR n := by
  unfold Wi Lit.wf at h
  rw [Bool.and_eq_true] at h
  have h1 := of_decide_eq_true h.1
  have h2 := of_decide_eq_true h.2
  have e1 : IntKind.i64.min = -9223372036854775808 := rfl
  have e2 : IntKind.i64.max = 9223372036854775807 := rfl
  unfold inR
  omega
theorem wf_u {n : Int} (h : Wu n) : 0 ≤ n ∧ n < 18446744073709551616 := by
  unfold Wu Lit.wf at h
  rw [Bool.and_eq_true] at h
  have h1 := of_decide_eq_true h.1
  have h2 := of_decide_eq_true h.2
  have e1 : IntKind.u64.min = 0 := rfl
  have e2 : IntKind.u64.max = 18446744073709551615 := rfl
  omega
theorem opensI : Opens Tryd.prog 3 (Kd.int .i64) Wi := Opens.int Tryd.underlying3
theorem opensU : Opens Tryd.prog 28 (Kd.int .u64) Wu := Opens.int Tryd.underlying28
theorem Br.ints (k : IntKind) (e : Nat) : Br E (Kd.slice e (Kd.int k)) (fun l => [.vsl none (.int k) l]) := ⟨fun {w} {x} {cs} hx => by
  have := ((Br.scalarInt (E := E) k).slice e (.int k) (fun n : Int => n) (fun _ => rfl) rfl Nat.zero_lt_one).br hx
  exact (congrArg (fun z : List Int => VRs E (oldS w) w noRho [.vsl none (.int k) z] cs) (List.map_id' x)).mp this⟩
def k30 : Kd R30 := Kd.iso (Kd.pair (Kd.int .i64) (Kd.pair (Kd.int .i64) (Kd.pair (Kd.slice 3 (Kd.int .i64)) (Kd.pair (Kd.int .u64) (Kd.int .i64))))) (fun x : R30 => (x.f0, x.f1, x.f2, x.f3, x.f4))
def W30 (x : R30) : Prop := Wi x.f0 ∧ Wi x.f1 ∧ Bd x.f2 8 Wi ∧ Wu x.f3 ∧ Wi x.f4
theorem opens30 : Opens Tryd.prog 30 k30 W30 := Opens.struct Tryd.underlying30 rfl (OpensF.cons opensI rfl rfl (by kernel_rfl) (o2 := 1) (by kernel_rfl) (OpensF.cons opensI rfl rfl (by kernel_rfl) (o2 := 2) (by kernel_rfl) (OpensF.cons (Opens.slice opensI Tryd.underlying22 (by kernel_rfl) (B := 8) (by kernel_rfl)) rfl rfl (by kernel_rfl) (o2 := 3) (by kernel_rfl) (OpensF.cons opensU rfl rfl (by kernel_rfl) (o2 := 4) (by kernel_rfl) (OpensF.one opensI rfl rfl (by kernel_rfl)))))) (by kernel_rfl) (fun x => ⟨x.1, x.2.1, x.2.2.1, x.2.2.2.1, x.2.2.2.2⟩) (fun _ => rfl)
def j30 (x : R30) : S30 := ⟨x.f0, x.f1, x.f2, x.f3, x.f4⟩
theorem br30 : Br E k30 (fun x => encE E (.named 30) (j30 x)) := ((Br.scalarInt .i64).pair ((Br.scalarInt .i64).pair ((Br.ints .i64 3).pair ((Br.scalarInt .u64).pair (Br.scalarInt .i64))))).iso _
def k100 : Kd R100 := Kd.iso (Kd.pair (Kd.int .i64) (Kd.slice 3 (Kd.int .i64))) (fun x : R100 => (x.f0, x.f1))
def W100 (x : R100) : Prop := Wi x.f0 ∧ Bd x.f1 8 Wi
theorem opens100 : Opens Tryd.prog 100 k100 W100 := Opens.struct Tryd.underlying100 rfl (OpensF.cons opensI rfl rfl (by kernel_rfl) (o2 := 1) (by kernel_rfl) (OpensF.one (Opens.slice opensI Tryd.underlying22 (by kernel_rfl) (B := 8) (by kernel_rfl)) rfl rfl (by kernel_rfl))) (by kernel_rfl) (fun x => ⟨x.1, x.2⟩) (fun _ => rfl)
def j100 (x : R100) : S100 := ⟨x.f0, x.f1⟩
theorem br100 : Br E k100 (fun x => encE E (.named 100) (j100 x)) := ((Br.scalarInt .i64).pair (Br.ints .i64 3)).iso _
def k38 : Kd R38 := Kd.iso (Kd.pair (Kd.int .i64) (Kd.pair (Kd.int .i64) (Kd.pair (Kd.slice 100 k100) (Kd.slice 3 (Kd.int .i64))))) (fun x : R38 => (x.f0, x.f1, x.f2, x.f3))
def W38 (x : R38) : Prop := Wi x.f0 ∧ Wi x.f1 ∧ Bd x.f2 32 W100 ∧ Bd x.f3 8 Wi
theorem opens38 : Opens Tryd.prog 38 k38 W38 := Opens.struct Tryd.underlying38 rfl (OpensF.cons opensI rfl rfl (by kernel_rfl) (o2 := 1) (by kernel_rfl) (OpensF.cons opensI rfl rfl (by kernel_rfl) (o2 := 2) (by kernel_rfl) (OpensF.cons (Opens.slice opens100 Tryd.underlying36 (by kernel_rfl) (B := 32) (by kernel_rfl)) rfl rfl (by kernel_rfl) (o2 := 3) (by kernel_rfl) (OpensF.one (Opens.slice opensI Tryd.underlying22 (by kernel_rfl) (B := 8) (by kernel_rfl)) rfl rfl (by kernel_rfl))))) (by kernel_rfl) (fun x => ⟨x.1, x.2.1, x.2.2.1, x.2.2.2⟩) (fun _ => rfl)
theorem br38 : Br E k38 (fun x => [.int .i64 x.f0, .int .i64 x.f1, .vsl none (.named 100) (x.f2.map j100), .vsl none (.int .i64) x.f3]) := ((Br.scalarInt .i64).pair ((Br.scalarInt .i64).pair ((br100.slice 100 (.named 100) j100 (fun _ => rfl) rfl (by decide)).pair (Br.ints .i64 3)))).iso _
def k40 : Kd R40 := Kd.iso (Kd.pair (Kd.slice 3 (Kd.int .i64)) (Kd.pair (Kd.slice 30 k30) (Kd.pair k38 (Kd.pair (Kd.int .i64) (Kd.pair (Kd.int .i64) (Kd.int .i64)))))) (fun x : R40 => (x.f0, x.f1, x.f2, x.f3, x.f4, x.f5))
def W40 (x : R40) : Prop := Bd x.f0 8 Wi ∧ Bd x.f1 56 W30 ∧ W38 x.f2 ∧ Wi x.f3 ∧ Wi x.f4 ∧ Wi x.f5
theorem opens40 : Opens Tryd.prog 40 k40 W40 := Opens.struct Tryd.underlying40 rfl (OpensF.cons (Opens.slice opensI Tryd.underlying22 (by kernel_rfl) (B := 8) (by kernel_rfl)) rfl rfl (by kernel_rfl) (o2 := 1) (by kernel_rfl) (OpensF.cons (Opens.slice opens30 Tryd.underlying35 (by kernel_rfl) (B := 56) (by kernel_rfl)) rfl rfl (by kernel_rfl) (o2 := 2) (by kernel_rfl) (OpensF.cons opens38 rfl rfl (by kernel_rfl) (o2 := 6) (by kernel_rfl) (OpensF.cons opensI rfl rfl (by kernel_rfl) (o2 := 7) (by kernel_rfl) (OpensF.cons opensI rfl rfl (by kernel_rfl) (o2 := 8) (by kernel_rfl) (OpensF.one opensI rfl rfl (by kernel_rfl))))))) (by kernel_rfl) (fun x => ⟨x.1, x.2.1, x.2.2.1, x.2.2.2.1, x.2.2.2.2.1, x.2.2.2.2.2⟩) (fun _ => rfl)
def j40 (x : R40) : S40 := ⟨x.f0, x.f1.map j30, x.f2.f0, x.f2.f1, x.f2.f2.map j100, x.f2.f3, x.f3, x.f4, x.f5⟩
theorem br40 : Br E k40 (fun x => encE E (.named 40) (j40 x)) := ((Br.ints .i64 3).pair ((br30.slice 30 (.named 30) j30 (fun _ => rfl) rfl (by decide)).pair (br38.pair ((Br.scalarInt .i64).pair ((Br.scalarInt .i64).pair (Br.scalarInt .i64)))))).iso _
def k53 : Kd R53 := Kd.iso (Kd.pair Kd.string (Kd.pair (Kd.int .i64) (Kd.pair (Kd.int .i64) (Kd.pair (Kd.int .i64) (Kd.int .i64))))) (fun x : R53 => (x.f0, x.f1, x.f2, x.f3, x.f4))
def W53 (x : R53) : Prop := Ws x.f0 ∧ Wi x.f1 ∧ Wi x.f2 ∧ Wi x.f3 ∧ Wi x.f4
theorem opens53 : Opens Tryd.prog 53 k53 W53 := Opens.struct Tryd.underlying53 rfl (OpensF.cons (Opens.string Tryd.underlying9) rfl rfl (by kernel_rfl) (o2 := 1) (by kernel_rfl) (OpensF.cons opensI rfl rfl (by kernel_rfl) (o2 := 2) (by kernel_rfl) (OpensF.cons opensI rfl rfl (by kernel_rfl) (o2 := 3) (by kernel_rfl) (OpensF.cons opensI rfl rfl (by kernel_rfl) (o2 := 4) (by kernel_rfl) (OpensF.one opensI rfl rfl (by kernel_rfl)))))) (by kernel_rfl) (fun x => ⟨x.1, x.2.1, x.2.2.1, x.2.2.2.1, x.2.2.2.2⟩) (fun _ => rfl)
def j53 (x : R53) : S53 := ⟨x.f0.data.toList, x.f1, x.f2, x.f3, x.f4⟩
theorem br53 : Br E k53 (fun x => encE E (.named 53) (j53 x)) := (Br.string.pair ((Br.scalarInt .i64).pair ((Br.scalarInt .i64).pair ((Br.scalarInt .i64).pair (Br.scalarInt .i64))))).iso _
def k55 : Kd R55 := Kd.iso (Kd.pair Kd.string (Kd.pair (Kd.int .i64) Kd.bool)) (fun x : R55 => (x.f0, x.f1, x.f2))
def W55 (x : R55) : Prop := Ws x.f0 ∧ Wi x.f1 ∧ True
theorem opens55 : Opens Tryd.prog 55 k55 W55 := Opens.struct Tryd.underlying55 rfl (OpensF.cons (Opens.string Tryd.underlying9) rfl rfl (by kernel_rfl) (o2 := 1) (by kernel_rfl) (OpensF.cons opensI rfl rfl (by kernel_rfl) (o2 := 2) (by kernel_rfl) (OpensF.one (Opens.bool Tryd.underlying4) rfl rfl (by kernel_rfl)))) (by kernel_rfl) (fun x => ⟨x.1, x.2.1, x.2.2⟩) (fun _ => rfl)
def j55 (x : R55) : S55 := ⟨x.f0.data.toList, x.f1, x.f2⟩
theorem br55 : Br E k55 (fun x => encE E (.named 55) (j55 x)) := (Br.string.pair ((Br.scalarInt .i64).pair Br.bool)).iso _
def k27 : Kd R27 := Kd.iso (Kd.pair Kd.string (Kd.pair (Kd.slice 3 (Kd.int .i64)) (Kd.pair (Kd.slice 53 k53) (Kd.pair (Kd.slice 55 k55) (Kd.pair (Kd.slice 3 (Kd.int .i64)) (Kd.slice 40 k40)))))) (fun x : R27 => (x.f0, x.f1, x.f2, x.f3, x.f4, x.f5))
def W27 (x : R27) : Prop := Ws x.f0 ∧ Bd x.f1 8 Wi ∧ Bd x.f2 48 W53 ∧ Bd x.f3 32 W55 ∧ Bd x.f4 8 Wi ∧ Bd x.f5 136 W40
theorem opens27 : Opens Tryd.prog 27 k27 W27 := Opens.struct Tryd.underlying27 rfl (OpensF.cons (Opens.string Tryd.underlying9) rfl rfl (by kernel_rfl) (o2 := 1) (by kernel_rfl) (OpensF.cons (Opens.slice opensI Tryd.underlying22 (by kernel_rfl) (B := 8) (by kernel_rfl)) rfl rfl (by kernel_rfl) (o2 := 2) (by kernel_rfl) (OpensF.cons (Opens.slice opens53 Tryd.underlying23 (by kernel_rfl) (B := 48) (by kernel_rfl)) rfl rfl (by kernel_rfl) (o2 := 3) (by kernel_rfl) (OpensF.cons (Opens.slice opens55 Tryd.underlying24 (by kernel_rfl) (B := 32) (by kernel_rfl)) rfl rfl (by kernel_rfl) (o2 := 4) (by kernel_rfl) (OpensF.cons (Opens.slice opensI Tryd.underlying22 (by kernel_rfl) (B := 8) (by kernel_rfl)) rfl rfl (by kernel_rfl) (o2 := 5) (by kernel_rfl) (OpensF.one (Opens.slice opens40 Tryd.underlying25 (by kernel_rfl) (B := 136) (by kernel_rfl)) rfl rfl (by kernel_rfl))))))) (by kernel_rfl) (fun x => ⟨x.1, x.2.1, x.2.2.1, x.2.2.2.1, x.2.2.2.2.1, x.2.2.2.2.2⟩) (fun _ => rfl)
theorem br27 : Br E k27 (fun x => [.str x.f0.data.toList, .vsl none (.int .i64) x.f1, .vsl none (.named 53) (x.f2.map j53), .vsl none (.named 55) (x.f3.map j55), .vsl none (.int .i64) x.f4, .vsl none (.named 40) (x.f5.map j40)]) := (Br.string.pair ((Br.ints .i64 3).pair ((br53.slice 53 (.named 53) j53 (fun _ => rfl) rfl (by decide)).pair ((br55.slice 55 (.named 55) j55 (fun _ => rfl) rfl (by decide)).pair ((Br.ints .i64 3).pair (br40.slice 40 (.named 40) j40 (fun _ => rfl) rfl (by decide))))))).iso _
theorem wts_each {H : Type} {P : Program} {ts : List TypeId} {ds : List (DataW H)} (h : (DataW.weightsEach P ts ds).all (· ≤ reachBytes) = true) {j : Nat} {t : TypeId} {d : DataW H} (ht : ts[j]? = some t) (hd : ds[j]? = some d) : Wts P t d := by
  intro n hn
  have := List.all_eq_true.1 h n (DataW.weights_mem_each ht hd n hn)
  simpa using this
/-- A function that came in. -/
theorem func_in {H : Type} {enc : TypeId × Value → H} {w : World} {spare : Nat → Bool} {held : Bool} {v : Value} {y : DataW H} {ps : List MemPlace} (h : DataW.Trod enc Tryd.prog w 0 spare held 27 v y ps) (hw : Wts Tryd.prog 27 y) :
    ∃ (n : List UInt8) (ws : List Int) (ar : List S53) (st : List S55) (rt : List Int) (bl : List S40), VR E (oldS w) w noRho (.agg [.str n, .vsl none (.int .i64) ws, .vsl none (.named 53) ar, .vsl none (.named 55) st, .vsl none (.int .i64) rt, .vsl none (.named 40) bl]) v ∧
      (∀ a ∈ ar, a.f0.length ≤ 140737488351232) ∧ (∀ a ∈ st, a.f0.length ≤ 140737488351232) ∧ bl.length < 4000000000000 := by
  obtain ⟨x, hK, h0, h1, h2, h3, h4, h5⟩ := Opens.arg opens27 h hw
  refine ⟨x.f0.data.toList, x.f1, (x.f2.map j53 : List S53), (x.f3.map j55 : List S55), x.f4, (x.f5.map j40 : List S40), ?_, fun a ha => ?_, fun a ha => ?_, ?_⟩
  · have h2 := br27.br hK
    generalize hc : v.cells.toList = cs at h2
    rcases h2 with _ | ⟨_, v0, _, _, g0, h2⟩; rcases h2 with _ | ⟨_, v1, _, _, g1, h2⟩; rcases h2 with _ | ⟨_, v2, _, _, g2, h2⟩; rcases h2 with _ | ⟨_, v3, _, _, g3, h2⟩; rcases h2 with _ | ⟨_, v4, _, _, g4, h2⟩; rcases h2 with _ | ⟨_, v5, _, _, g5, h2⟩; cases h2
    obtain rfl := agg_of_cells hc
    exact .agg _ _ (.cons _ _ _ _ g0 (.cons _ _ _ _ g1 (.cons _ _ _ _ g2 (.cons _ _ _ _ g3 (.cons _ _ _ _ g4 (.cons _ _ _ _ g5 .nil))))))
  · obtain ⟨z, hz, rfl⟩ := List.mem_map.mp ha
    exact (h2.2.2 z hz).1
  · obtain ⟨z, hz, rfl⟩ := List.mem_map.mp ha
    exact (h3.2.2 z hz).1
  · have e : List.length (α := S40) (x.f5.map j40) = x.f5.length := List.length_map _
    have := h5.2.1
    exact Nat.lt_of_le_of_lt (Nat.le_of_eq e) (by omega)
/-- An instruction that came in. -/
theorem inst_in {H : Type} {enc : TypeId × Value → H} {w : World} {spare : Nat → Bool} {held : Bool} {v : Value} {y : DataW H} {ps : List MemPlace} (h : DataW.Trod enc Tryd.prog w 0 spare held 30 v y ps) (hw : Wts Tryd.prog 30 y) :
    ∃ (op d : Int) (args : List Int) (num mem : Int), VR E (oldS w) w noRho (.agg [.int .i64 op, .int .i64 d, .vsl none (.int .i64) args, .int .u64 num, .int .i64 mem]) v ∧ d ≤ 9223372036854775807 ∧ (∀ x ∈ args, x ≤ 9223372036854775807) ∧ 0 ≤ num ∧ num < 18446744073709551616 := by
  obtain ⟨x, hK, h0, h1, h2, h3, h4⟩ := Opens.arg opens30 h hw
  refine ⟨x.f0, x.f1, x.f2, x.f3, x.f4, ?_, (wf_i h1).2, fun a ha => (wf_i (h2.2.2 a ha)).2, (wf_u h3).1, (wf_u h3).2⟩
  have h2 := br30.br hK
  replace h2 : VRs E (oldS w) w noRho [.int .i64 x.f0, .int .i64 x.f1, .vsl none (.int .i64) x.f2, .int .u64 x.f3, .int .i64 x.f4] v.cells.toList := h2
  generalize hc : v.cells.toList = cs at h2
  rcases h2 with _ | ⟨_, v0, _, _, g0, h2⟩; rcases h2 with _ | ⟨_, v1, _, _, g1, h2⟩; rcases h2 with _ | ⟨_, v2, _, _, g2, h2⟩; rcases h2 with _ | ⟨_, v3, _, _, g3, h2⟩; rcases h2 with _ | ⟨_, v4, _, _, g4, h2⟩; cases h2
  obtain rfl := agg_of_cells hc
  exact .agg _ _ (.cons _ _ _ _ g0 (.cons _ _ _ _ g1 (.cons _ _ _ _ g2 (.cons _ _ _ _ g3 (.cons _ _ _ _ g4 .nil)))))
theorem mem_len {ar : List S53} {st : List S55} (h1 : ∀ a ∈ ar, a.f0.length ≤ 140737488351232) (h2 : ∀ a ∈ st, a.f0.length ≤ 140737488351232) (op mem : Int) : (memF ar st op mem).length ≤ 140737488351232 := by
  have one : ([63] : List UInt8).length ≤ 140737488351232 := by decide
  unfold memF
  split
  · split
    · rename_i c
      have hlt : mem.toNat < ar.length := by omega
      rw [List.getD_eq_getElem?_getD, List.getElem?_eq_getElem hlt]
      exact h1 _ (List.getElem_mem hlt)
    · exact one
  · split
    · rename_i c
      have hlt : mem.toNat < st.length := by omega
      rw [List.getD_eq_getElem?_getD, List.getElem?_eq_getElem hlt]
      exact h2 _ (List.getElem_mem hlt)
    · exact one
end Go.Proofs.YtflgegjljcpedaaDoor
