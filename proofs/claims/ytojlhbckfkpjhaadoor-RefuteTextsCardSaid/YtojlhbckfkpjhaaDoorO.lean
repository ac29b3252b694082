import Derived.Test.YtojlhbckfkpjhaaDoorR
import Derived.Test.YtojlhbckfkpjhaaDoorS8
import Derived.Test.YtojlhbckfkpjhaaDoorWAll
set_option linter.all false
namespace Go.Vm
open Go Go.RowKit Go.Proofs.YtojlhbckfkpjhaaDoorW.PrintWords
section
variable {N : Nat → Type} {E : Enc N}
/-- What a kind's cells are as plain values. -/
structure Br {α : Type} (E : Enc N) (d : Kd α) (ps : α → List (PV N)) : Prop where
  br : ∀ {w : World} {x : α} {cs : List Value}, d.K w x cs → VRs E (oldS w) w noRho (ps x) cs
theorem Br.scalarInt (k : IntKind) : Br E (Kd.int k) (fun n => [.int k n]) := ⟨fun h => by
  obtain rfl : _ = [Value.int k _] := h
  exact .cons _ _ _ _ (.int _ _) .nil⟩
theorem Br.bool : Br E Kd.bool (fun b => [.bool b]) := ⟨fun h => by
  obtain rfl : _ = [Value.bool _] := h
  exact .cons _ _ _ _ (.bool _) .nil⟩
theorem Br.string : Br E Kd.string (fun s => [.str s.data.toList]) := ⟨fun h => by
  obtain rfl : _ = [Value.string _] := h
  exact .cons _ _ _ _ (.str _) .nil⟩
theorem Br.pair {α β : Type} {a : Kd α} {b : Kd β} {p : α → List (PV N)} {q : β → List (PV N)} (h : Br E a p) (k : Br E b q) : Br E (Kd.pair a b) (fun x => p x.1 ++ q x.2) := ⟨fun hx => by
  obtain ⟨c0, c1, rfl, h0, h1⟩ := hx
  exact (h.br h0).append (k.br h1)⟩
theorem Br.iso {α β : Type} {a : Kd α} {p : α → List (PV N)} (h : Br E a p) (f : β → α) : Br E (Kd.iso a f) (fun x => p (f x)) := ⟨fun hx => h.br hx⟩
/-- A row that the caller holds. -/
theorem Br.row {α : Type} {d : Kd α} {ps : α → List (PV N)} (h : Br E d ps) (c : TC) (conv : α → El N c) (hps : ∀ x, encE E c (conv x) = ps x) (hsz : d.sz = sizeE E c) (hpos : 0 < d.sz) {w : World} {ρ : Rho} {A : Option Addr} {cap : Nat} {l : List α} (hr : Kd.C d w A l.length l) (hc : l.length ≤ cap) :
    VR E (oldS w) w ρ (.vsl none c (l.map conv)) (.slice A l.length cap) := by
  obtain ⟨-, -, h1⟩ := hr
  have key : ∀ j (hj : j < l.length), ∃ cs, cs.length = sizeE E c ∧ VRs E (oldS w) w noRho (encE E c (conv l[j])) cs ∧ (∀ u ∈ cs, u.oneCell' = true) ∧ ∃ ad, A = some ad ∧ ∀ i u, cs[i]? = some u → w.cell? (ad.add (j * sizeE E c + i)) = some u := by
    intro j hj
    obtain ⟨ad, e, h2⟩ := h1 (by omega)
    obtain ⟨cs, h3, h4, h5⟩ := h2 j _ (List.getElem?_eq_getElem hj)
    rw [hsz] at h3 h5
    exact ⟨cs, h3, by rw [hps]; exact h.br h4, d.K_one h4, ad, e, h5⟩
  have hA : 0 < l.length → ∃ b o, A = some ⟨b, o, none⟩ := fun hj => by
    obtain ⟨cs, h2, -, -, ad, e, h4⟩ := key 0 hj
    have hcell := h4 0 cs[0] (List.getElem?_eq_getElem (by omega))
    obtain ⟨b, o, sp⟩ := ad
    rw [show 0 * sizeE E c + 0 = 0 by omega] at hcell
    have h0 : sp = none := by simpa [Addr.add] using (cell_lt hcell).2
    subst h0
    exact ⟨b, o, e⟩
  let vs : Nat → List Value := fun j => if hj : j < l.length then (key j hj).choose else []
  have hvs : ∀ j (hj : j < l.length), vs j = (key j hj).choose := fun j hj => dif_pos hj
  have at_ : ∀ (j : Nat) x, (l.map conv)[j]? = some x → ∃ hj : j < l.length, x = conv l[j] := fun j x hx => by
    obtain ⟨y, hy, rfl⟩ := by simpa using hx
    obtain ⟨hj, rfl⟩ := List.getElem?_eq_some_iff.mp hy
    exact ⟨hj, rfl⟩
  have := VR.vsl (E := E) (S := oldS w) (w := w) (ρ := ρ) none c (l.map conv) A cap vs (fun j x hx => by
    obtain ⟨hj, rfl⟩ := at_ j x hx
    rw [hvs j hj]; exact (key j hj).choose_spec.1) (fun j x hx => by
    obtain ⟨hj, rfl⟩ := at_ j x hx
    rw [hvs j hj]; exact (key j hj).choose_spec.2.1) (fun j hj i u hu => by
    rw [List.length_map] at hj
    rw [hvs j hj] at hu
    obtain ⟨k1, ad, e, h4⟩ := (key j hj).choose_spec.2.2
    have hcell := h4 i u hu
    obtain ⟨b, o, e'⟩ := hA (by omega)
    rw [e', Option.some.injEq] at e
    subst e
    rw [Addr.add_mid] at hcell
    exact ⟨b, o, e', (cell_lt hcell).1, hcell, k1 u (List.mem_of_getElem? hu)⟩) (by rw [List.length_map]; exact hA) (by rw [List.length_map]; exact hc) (fun h => absurd rfl h)
  rwa [List.length_map] at this
theorem Br.slice {α : Type} {d : Kd α} {ps : α → List (PV N)} (h : Br E d ps) (e : Nat) (c : TC) (conv : α → El N c) (hps : ∀ x, encE E c (conv x) = ps x) (hsz : d.sz = sizeE E c) (hpos : 0 < d.sz) : Br E (Kd.slice e d) (fun l => [.vsl none c (l.map conv)]) := ⟨fun hx => by
  obtain ⟨A, cap, rfl, hl, hr⟩ := hx
  exact .cons _ _ _ _ (h.row c conv hps hsz hpos hr hl) .nil⟩
end
end Go.Vm
namespace Go.Proofs.YtojlhbckfkpjhaaDoor
open Go Go.RowKit Go.Vm Go.ChangeShapes Go.WideShapes Go.ChangeAt Go.Proofs.YtojlhbckfkpjhaaDoorW.PrintWords
/-- A node and a refutation, as they read. -/
structure RN where
  f0 : Int
  f1 : Int
  f2 : List Int
  f3 : List Int
  f4 : Int
  f5 : Int
  f6 : Int
structure RF where
  f0 : Int
  f1 : List RN
def kRN : Kd RN := Kd.iso (Kd.pair (Kd.int .i64) (Kd.pair (Kd.int .i64) (Kd.pair (Kd.slice 3 (Kd.int .i64)) (Kd.pair (Kd.slice 3 (Kd.int .i64)) (Kd.pair (Kd.int .i64) (Kd.pair (Kd.int .i64) (Kd.int .i64))))))) (fun x : RN => (x.f0, x.f1, x.f2, x.f3, x.f4, x.f5, x.f6))
def kRF : Kd RF := Kd.iso (Kd.pair (Kd.int .i64) (Kd.slice 37 kRN)) (fun x : RF => (x.f0, x.f1))
def Wi (v : Int) : Prop := (Lit.int .i64 v).wf = true
theorem wf_in {n : Int} (h : Wi n) : inR n := by
  unfold Wi Lit.wf at h
  rw [Bool.and_eq_true] at h
  have h1 := of_decide_eq_true h.1
  have h2 := of_decide_eq_true h.2
  have e1 : IntKind.i64.min = -9223372036854775808 := rfl
  have e2 : IntKind.i64.max = 9223372036854775807 := rfl
  unfold inR
  omega
def Bd {α : Type} (l : List α) (B : Nat) (P : α → Prop) : Prop := l.length ≤ maxLen ∧ l.length * B ≤ 140737488351232 ∧ ∀ y ∈ l, P y
def WRN (x : RN) : Prop := Wi x.f0 ∧ Wi x.f1 ∧ Bd x.f2 8 Wi ∧ Bd x.f3 8 Wi ∧ Wi x.f4 ∧ Wi x.f5 ∧ Wi x.f6
theorem opensI : Opens Tryd.prog 3 (Kd.int .i64) Wi := Opens.int Tryd.underlying3
theorem opensIs : Opens Tryd.prog 35 (Kd.slice 3 (Kd.int .i64)) (fun l => Bd l 8 Wi) := Opens.slice opensI Tryd.underlying35 (by kernel_rfl) (B := 8) (by kernel_rfl)
theorem opensRN : Opens Tryd.prog 37 kRN WRN := Opens.struct Tryd.underlying37 rfl (OpensF.cons opensI rfl rfl (by kernel_rfl) (o2 := 1) (by kernel_rfl) (OpensF.cons opensI rfl rfl (by kernel_rfl) (o2 := 2) (by kernel_rfl) (OpensF.cons opensIs rfl rfl (by kernel_rfl) (o2 := 3) (by kernel_rfl) (OpensF.cons opensIs rfl rfl (by kernel_rfl) (o2 := 4) (by kernel_rfl) (OpensF.cons opensI rfl rfl (by kernel_rfl) (o2 := 5) (by kernel_rfl) (OpensF.cons opensI rfl rfl (by kernel_rfl) (o2 := 6) (by kernel_rfl) (OpensF.one opensI rfl rfl (by kernel_rfl)))))))) (by kernel_rfl) (fun x => ⟨x.1, x.2.1, x.2.2.1, x.2.2.2.1, x.2.2.2.2.1, x.2.2.2.2.2.1, x.2.2.2.2.2.2⟩) (fun _ => rfl)
theorem opensRF : Opens Tryd.prog 24 kRF (fun x => Wi x.f0 ∧ Bd x.f1 88 WRN) := Opens.struct Tryd.underlying24 rfl (OpensF.cons opensI rfl rfl (by kernel_rfl) (o2 := 1) (by kernel_rfl) (OpensF.one (Opens.slice opensRN Tryd.underlying22 (by kernel_rfl) (B := 88) (by kernel_rfl)) rfl rfl (by kernel_rfl))) (by kernel_rfl) (fun x => ⟨x.1, x.2⟩) (fun _ => rfl)
def jRN (x : RN) : S37 := ⟨x.f0, x.f1, x.f2, x.f3, x.f4, x.f5, x.f6⟩
theorem Br.ints (k : IntKind) (e : Nat) : Br E (Kd.slice e (Kd.int k)) (fun l => [.vsl none (.int k) l]) := ⟨fun {w} {x} {cs} hx => by
  have := ((Br.scalarInt (E := E) k).slice e (.int k) (fun n : Int => n) (fun _ => rfl) rfl Nat.zero_lt_one).br hx
  exact (congrArg (fun z : List Int => VRs E (oldS w) w noRho [.vsl none (.int k) z] cs) (List.map_id' x)).mp this⟩
theorem brRN : Br E kRN (fun x => encE E (.named 37) (jRN x)) := ((Br.scalarInt .i64).pair ((Br.scalarInt .i64).pair ((Br.ints .i64 3).pair ((Br.ints .i64 3).pair ((Br.scalarInt .i64).pair ((Br.scalarInt .i64).pair (Br.scalarInt .i64))))))).iso _
theorem brRF : Br E kRF (fun x => [.int .i64 x.f0, .vsl none (.named 37) (x.f1.map jRN)]) := ((Br.scalarInt .i64).pair (brRN.slice 37 (.named 37) jRN (fun _ => rfl) rfl (by decide))).iso _
theorem wts_each {H : Type} {P : Program} {ts : List TypeId} {ds : List (DataW H)} (h : (DataW.weightsEach P ts ds).all (· ≤ reachBytes) = true) {j : Nat} {t : TypeId} {d : DataW H} (ht : ts[j]? = some t) (hd : ds[j]? = some d) : Wts P t d := by
  intro n hn
  have := List.all_eq_true.1 h n (DataW.weights_mem_each ht hd n hn)
  simpa using this
/-- A refutation that came in. -/
theorem ref_in {H : Type} {enc : TypeId × Value → H} {w : World} {spare : Nat → Bool} {held : Bool} {v : Value} {y : DataW H} {ps : List MemPlace} (h : DataW.Trod enc Tryd.prog w 0 spare held 24 v y ps) (hw : Wts Tryd.prog 24 y) :
    ∃ ii t, VR E (oldS w) w noRho (.agg [.int .i64 ii, .vsl none (.named 37) t]) v ∧ inR ii ∧ (∀ n ∈ t, ROk n) ∧ t.length < 4000000000000 := by
  obtain ⟨x, hK, hi, hl, hB, ht⟩ := Opens.arg opensRF h hw
  refine ⟨x.f0, (x.f1.map jRN : List S37), ?_, wf_in hi, fun n hn => ?_, ?_⟩
  · have h2 := brRF.br hK
    generalize hc : v.cells.toList = cs at h2
    rcases h2 with _ | ⟨_, v0, _, _, g0, h2⟩; rcases h2 with _ | ⟨_, v1, _, _, g1, h2⟩; cases h2
    obtain rfl := agg_of_cells hc
    exact .agg _ _ (.cons _ _ _ _ g0 (.cons _ _ _ _ g1 .nil))
  · obtain ⟨z, hz, rfl⟩ := List.mem_map.mp hn
    obtain ⟨-, q1, q2, q3, q4, q5, q6⟩ := ht z hz
    exact ⟨wf_in q1, fun u hu => wf_in (q2.2.2 u hu), fun u hu => wf_in (q3.2.2 u hu), wf_in q4, wf_in q5, wf_in q6⟩
  · have e : List.length (α := S37) (x.f1.map jRN) = x.f1.length := List.length_map _
    exact Nat.lt_of_le_of_lt (Nat.le_of_eq e) (by omega)
end Go.Proofs.YtojlhbckfkpjhaaDoor
