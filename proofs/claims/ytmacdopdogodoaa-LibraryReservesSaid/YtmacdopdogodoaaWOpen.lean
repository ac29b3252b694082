/- What an argument reads as, told by the printed words' kinds: integers, bools, strings, slices, structs, arrays of two. -/
import Derived.Test.YtmacdopdogodoaaWWords
import Derived.ProofKit
import Derived.OpenShut
import Derived.SizedLaws
import Derived.Deep.Slices
set_option linter.unusedVariables false
namespace Go.Proofs.YtmacdopdogodoaaW.PrintWords

/-- No weight of what is read is beyond the reach. -/
def Wts {H : Type} (P : Program) (t : TypeId) (d : DataW H) : Prop := ∀ n ∈ d.weights P t, n ≤ reachBytes

/-- A value of type t is of the kind d, whatever it reads as; Wf: what is known of its numbers and sizes. -/
structure Opens (P : Program) (t : TypeId) {α : Type} (d : Kd α) (Wf : α → Prop) : Prop where
  out : ∀ {H : Type} (enc : TypeId × Value → H) (w : World) (spare : Nat → Bool) (held : Bool) (fuel : Nat) (cs : List Value) (y : DataW H × List MemPlace),
    DataW.trod enc P w 0 spare held fuel t cs = some y → Wts P t y.1 → ∃ x, d.K w x cs ∧ Wf x

theorem Opens.int {P : Program} {t : TypeId} {k : IntKind} (ht : P.underlying t = some (.int k)) : Opens P t (Kd.int k) (fun x => (Lit.int k x).wf = true) := ⟨by
  intro H enc w spare held fuel cs y h _
  obtain ⟨n, rfl, _, wn⟩ := DataW.trod_int ht h
  exact ⟨n, rfl, wn⟩⟩
theorem Opens.bool {P : Program} {t : TypeId} (ht : P.underlying t = some .bool) : Opens P t Kd.bool (fun _ => True) := ⟨by
  intro H enc w spare held fuel cs y h _
  obtain ⟨n, rfl, _⟩ := DataW.trod_bool ht h
  exact ⟨n, rfl, trivial⟩⟩
theorem Opens.string {P : Program} {t : TypeId} (ht : P.underlying t = some .string) : Opens P t Kd.string (fun x => x.size ≤ 140737488351232) := ⟨by
  intro H enc w spare held fuel cs y h hw
  obtain ⟨s, rfl, rfl, _⟩ := DataW.trod_string ht h
  refine ⟨s, rfl, ?_⟩
  have h1 := hw s.data.toList.length (by simp [DataW.weights])
  rw [Array.length_toList] at h1
  exact h1⟩

theorem choose_list {α : Type} (p : Nat → α → Prop) : ∀ n, (∀ i, i < n → ∃ x, p i x) → ∃ xs : List α, xs.length = n ∧ ∀ i x, xs[i]? = some x → p i x
  | 0, _ => ⟨[], rfl, fun i x h => by simp at h⟩
  | n + 1, h => by
    obtain ⟨xs, hl, hx⟩ := choose_list p n (fun i hi => h i (by omega))
    obtain ⟨x, px⟩ := h n (by omega)
    refine ⟨xs ++ [x], by simp [hl], fun i u hu => ?_⟩
    rcases Nat.lt_or_ge i n with hi | hi
    · rw [List.getElem?_append_left (by omega)] at hu
      exact hx i u hu
    · have : i = n := by
        have := (List.getElem?_eq_some_iff.1 hu).1
        simp [hl] at this
        omega
      subst this
      rw [List.getElem?_append_right (by omega), hl] at hu
      simp at hu
      subst hu
      exact px
theorem cells_at {w : World} {base : Nat} {a : Addr} {n : Nat} {cs : List Value} (h : w.cells? base a n = some cs) : ∀ j u, cs[j]? = some u → w.cell? (a.add j) = some u := by
  unfold World.cells? at h
  split at h
  · intro j u hu
    have hl := mapM_some_length h
    have hj : j < cs.length := (List.getElem?_eq_some_iff.1 hu).1
    have hj2 : j < n := by simpa [hl] using hj
    have := mapM_some_get h j j (by simp [hj2])
    rw [this, hu]
  · cases h
theorem weightsAll_mem {H : Type} {P : Program} {e : TypeId} : ∀ {l : List (DataW H)} {d : DataW H}, d ∈ l → ∀ n ∈ d.weights P e, n ∈ DataW.weightsAll P e l
  | d0 :: l, d, hd, n, hn => by
    simp only [DataW.weightsAll, List.mem_append]
    rcases List.mem_cons.1 hd with rfl | hd
    · exact Or.inl hn
    · exact Or.inr (weightsAll_mem hd n hn)
  | [], _, hd, _, _ => by cases hd
theorem Opens.slice {P : Program} {t e : TypeId} {α : Type} {d : Kd α} {Wf : α → Prop} (he : Opens P e d Wf) (ht : P.underlying t = some (.slice e)) (hc : P.cellsOf e = d.sz) {B : Nat} (hB : P.bytesOf e = B) :
    Opens P t (Kd.slice e d) (fun xs => xs.length ≤ maxLen ∧ xs.length * B ≤ 140737488351232 ∧ ∀ x ∈ xs, Wf x) := ⟨by
  intro H enc w spare held fuel cs y h hw
  rcases Deep.open_slice ht h with ⟨rfl, rfl⟩ | ⟨a, len, cap, m, n, D, Pl, rfl, _, hl, hm, hmm, rfl, hel⟩
  · exact ⟨[], ⟨none, 0, rfl, Nat.le_refl _, rfl, by simp, fun h => absurd h (by simp)⟩, by simp, by simp, by simp⟩
  · have hlm : len ≤ m := by rw [hmm]; split <;> omega
    have hwE : ∀ i, i < len → Wts P e (D i) := by
      intro i hi z hz
      refine hw z ?_
      simp only [DataW.weights, ht, List.mem_cons, List.mem_append]
      exact Or.inr (Or.inl (weightsAll_mem (List.mem_map.2 ⟨i, by simpa using hi, rfl⟩) z hz))
    obtain ⟨xs, hxl, hx⟩ := choose_list (fun i x => ∃ cs', w.cells? 0 (a.add (i * P.cellsOf e)) (P.cellsOf e) = some cs' ∧ d.K w x cs' ∧ Wf x) len (fun i hi => by
      obtain ⟨cs', h1, h2⟩ := hel i (by omega)
      obtain ⟨x, hK, hW⟩ := he.out enc w spare held n cs' (D i, Pl i) h2 (hwE i hi)
      exact ⟨x, cs', h1, hK, hW⟩)
    have hsz := hw ((len + (m - len)) * P.bytesOf e) (by simp [DataW.weights, ht])
    rw [hB] at hsz
    refine ⟨xs, ⟨some a, cap, by rw [hxl], by omega, rfl, by rw [hxl]; exact Nat.le_trans hl hm, fun _ => ⟨a, rfl, fun j p hp => ?_⟩⟩, by rw [hxl]; exact Nat.le_trans hl hm, ?_, fun x hxm => ?_⟩
    · obtain ⟨cs', h1, hK, _⟩ := hx j p hp
      refine ⟨cs', d.K_len hK, hK, fun i u hu => ?_⟩
      rw [← hc, ← Addr.add_add]
      exact cells_at h1 i u hu
    · rw [hxl]
      exact Nat.le_trans (Nat.mul_le_mul_right _ (by omega)) hsz
    · obtain ⟨j, hj⟩ := List.getElem?_of_mem hxm
      obtain ⟨_, _, _, hW⟩ := hx j x hj
      exact hW⟩

/-- Fields that lie in line, from cell o on. -/
structure OpensF (P : Program) (fs : List Field) (o : Nat) {α : Type} (d : Kd α) (Wf : α → Prop) : Prop where
  out : ∀ {H : Type} (enc : TypeId × Value → H) (w : World) (spare : Nat → Bool) (held : Bool) (n : Nat) (cs : List Value) (xs : List (DataW H × List MemPlace)),
    xs.length = fs.length → (∀ (i : Nat) (f : Field), fs[i]? = some f → DataW.trod enc P w 0 spare held n f.type ((cs.drop f.offset).take (P.cellsOf f.type)) = xs[i]?) → cs.length = o + d.sz →
    (∀ (i : Nat) (f : Field) (y : DataW H × List MemPlace), fs[i]? = some f → xs[i]? = some y → Wts P f.type y.1) → ∃ x, d.K w x (cs.drop o) ∧ Wf x
theorem OpensF.one {P : Program} {f : Field} {α : Type} {d : Kd α} {Wf : α → Prop} {t : TypeId} {o : Nat} (h : Opens P t d Wf) (hf : f.type = t) (ho : f.offset = o) (hc : P.cellsOf t = d.sz) : OpensF P [f] o d Wf := ⟨by
  subst hf ho
  intro H enc w spare held n cs xs hl hx hcs hw
  have h0 := hx 0 f rfl
  have hlt : 0 < xs.length := by rw [hl]; simp
  rw [List.getElem?_eq_getElem hlt] at h0
  rw [List.take_of_length_le (by rw [List.length_drop]; omega)] at h0
  exact h.out enc w spare held n _ _ h0 (hw 0 f _ rfl (List.getElem?_eq_getElem hlt))⟩
theorem OpensF.cons {P : Program} {f : Field} {fs : List Field} {α β : Type} {d : Kd α} {d2 : Kd β} {Wf : α → Prop} {Wf2 : β → Prop} {t : TypeId} {o o2 : Nat} (h : Opens P t d Wf) (hf : f.type = t) (ho : f.offset = o) (hc : P.cellsOf t = d.sz) (h2 : o2 = o + d.sz) (r : OpensF P fs o2 d2 Wf2) :
    OpensF P (f :: fs) o (Kd.pair d d2) (fun x => Wf x.1 ∧ Wf2 x.2) := ⟨by
  subst hf ho h2
  intro H enc w spare held n cs xs hl hx hcs hw
  cases xs with
  | nil => simp at hl
  | cons x0 xs =>
    have hcs' : cs.length = f.offset + d.sz + d2.sz := by rw [hcs]; show _ + (d.sz + d2.sz) = _; omega
    have h0 := hx 0 f rfl
    obtain ⟨a, ha, wa⟩ := h.out enc w spare held n _ x0 h0 (hw 0 f x0 rfl rfl)
    obtain ⟨b, hb, wb⟩ := r.out enc w spare held n cs xs (by simpa using hl) (fun i g hg => by simpa using hx (i + 1) g (by simpa using hg)) hcs' (fun i g y hg hy => hw (i + 1) g y (by simpa using hg) (by simpa using hy))
    refine ⟨(a, b), ⟨_, _, ?_, ha, hb⟩, wa, wb⟩
    rw [hc, ← List.drop_drop]
    exact (List.take_append_drop _ _).symm⟩
theorem Opens.struct {P : Program} {t : TypeId} {fs : Array Field} {l : List Field} {α β : Type} {d : Kd α} {f : β → α} {Wf : α → Prop} (ht : P.underlying t = some (.struct fs)) (hl : fs.toList = l) (h : OpensF P l 0 d Wf) (hc : P.cellsOf t = d.sz) (g : α → β) (hg : ∀ x, f (g x) = x) :
    Opens P t (Kd.iso d f) (fun x => Wf (f x)) := ⟨by
  subst hl
  intro H enc w spare held fuel cs y hy hw
  obtain ⟨xs, n, rfl, rfl, hcs, hxl, hx⟩ := DataW.trod_struct ht hy
  obtain ⟨x, hK, hW⟩ := h.out enc w spare held n cs xs (by simpa using hxl) (fun i f hf => hx i f (by simpa using hf)) (by rw [hcs, hc]; omega) (fun i f y hf hy z hz => by
    refine hw z ?_
    simp only [DataW.weights, ht]
    exact DataW.weights_mem_each (j := i) (t := f.type) (d := y.1) (by simp at hf ⊢; exact ⟨f, hf, rfl⟩) (by simp [hy]) z hz)
  refine ⟨g x, ?_, by rw [hg]; exact hW⟩
  show d.K w (f (g x)) cs
  rw [hg]
  simpa using hK⟩
theorem Opens.array2 {P : Program} {t e : TypeId} {α : Type} {d : Kd α} {Wf : α → Prop} (h : Opens P e d Wf) (ht : P.underlying t = some (.array 2 e)) (hc : P.cellsOf e = d.sz) (hc2 : P.cellsOf t = d.sz + d.sz) {β : Type} {f : β → α × α} (g : α × α → β) (hg : ∀ x, f (g x) = x) :
    Opens P t (Kd.iso (Kd.pair d d) f) (fun x => Wf (f x).1 ∧ Wf (f x).2) := ⟨by
  intro H enc w spare held fuel cs y hy hw
  obtain ⟨xs, n, rfl, rfl, hcs, hxl, hx⟩ := DataW.trod_array ht hy
  match xs, hxl with
  | [x0, x1], _ =>
    have hwE : ∀ y ∈ [x0, x1], Wts P e y.1 := by
      intro y hm z hz
      refine hw z ?_
      simp only [DataW.weights, ht]
      exact weightsAll_mem (List.mem_map.2 ⟨y, hm, rfl⟩) z hz
    have h0 := hx 0 (by omega)
    have h1 := hx 1 (by omega)
    simp only [Nat.zero_mul, Nat.one_mul, List.drop_zero] at h0 h1
    rw [List.take_of_length_le (by rw [List.length_drop, hcs, hc2, hc]; omega)] at h1
    obtain ⟨a, ha, wa⟩ := h.out enc w spare held n _ x0 h0 (hwE x0 (by simp))
    obtain ⟨b, hb, wb⟩ := h.out enc w spare held n _ x1 h1 (hwE x1 (by simp))
    refine ⟨g (a, b), ?_, by rw [hg]; exact ⟨wa, wb⟩⟩
    show (Kd.pair d d).K w (f (g (a, b))) cs
    rw [hg]
    exact ⟨_, _, (List.take_append_drop _ _).symm, ha, hb⟩⟩

/-- A value of two cells or more is told by its cells. -/
theorem agg_of_cells {v : Value} {c0 c1 : Value} {r : List Value} (h : v.cells.toList = c0 :: c1 :: r) : v = .agg (c0 :: c1 :: r).toArray := by
  cases v <;> simp_all [Value.cells]
  rw [← h]
theorem wts_each {H : Type} {P : Program} {ts : List TypeId} {ds : List (DataW H)} (h : (DataW.weightsEach P ts ds).all (· ≤ reachBytes) = true) {j : Nat} {t : TypeId} {d : DataW H} (ht : ts[j]? = some t) (hd : ds[j]? = some d) : Wts P t d := by
  intro n hn
  have := List.all_eq_true.1 h n (DataW.weights_mem_each ht hd n hn)
  simpa using this
theorem Opens.arg {P : Program} {t : TypeId} {α : Type} {d : Kd α} {Wf : α → Prop} (o : Opens P t d Wf) {H : Type} {enc : TypeId × Value → H} {w : World} {spare : Nat → Bool} {held : Bool} {v : Value} {y : DataW H} {ps : List MemPlace}
    (h : DataW.Trod enc P w 0 spare held t v y ps) (hw : Wts P t y) : ∃ x, d.K w x v.cells.toList ∧ Wf x := by
  obtain ⟨fuel, hf⟩ := h
  exact o.out enc w spare held fuel _ _ hf hw
end Go.Proofs.YtmacdopdogodoaaW.PrintWords
