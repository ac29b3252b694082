/- What the laws of chapter 34 share: well-formed flows of a size that is looked at, slots and walks. -/
import Derived.Test.YtpmlbbglekaidaaF33
import Derived.Test.YtpmlbbglekaidaaF7
import Derived.Test.YtpmlbbglekaidaaF27
namespace Go.Proofs.Ytpmlbbglekaidaa.Pure
open Go.RowKit Go.Proofs.Ytpmlbbglekaidaa.PAll Go.Proofs.YtpmlbbglekaidaaW.PrintWords Go.Proofs.YtpmlbbglekaidaaW.PrintLast
set_option linter.unusedVariables false
set_option linter.unusedSimpArgs false

/-! ### well-formed flows: the program's Valid and the document's are one -/
theorem w64 {x : Int} (h : -9223372036854775808 ≤ x) (h' : x ≤ 9223372036854775807) : wrap64 x = x := by
  unfold wrap64
  omega
/-- p holds at i, i + 1, .. (d numbers). -/
def upto (p : Int → Bool) : Nat → Int → Bool
  | 0, _ => true
  | d + 1, i => p i && upto p d (i + 1)
theorem upto_iff (p : Int → Bool) (d : Nat) : ∀ i : Int, upto p d i = true ↔ ∀ j : Int, i ≤ j → j < i + d → p j = true := by
  induction d with
  | zero => intro i; exact ⟨fun _ j h1 h2 => absurd h1 (by omega), fun _ => rfl⟩
  | succ d ih =>
    intro i
    simp only [upto, Bool.and_eq_true, ih]
    constructor
    · rintro ⟨h1, h2⟩ j hj hj'
      by_cases e : j = i
      · rw [e]; exact h1
      · exact h2 j (by omega) (by omega)
    · intro h
      exact ⟨h i (by omega) (by omega), fun j hj hj' => h j (by omega) (by omega)⟩
def arcOk (n p : Int) (lp : Bool) (a : S48) : Bool := decide (0 ≤ a.f0 ∧ a.f0 ≤ n + p ∧ 0 ≤ a.f1 ∧ a.f1 ≤ n + p + 1 ∧ 0 ≤ a.f2 ∧ a.f2 ≤ 4096 ∧ 0 ≤ a.f3 ∧ a.f3 ≤ (if lp = true then 256 else 0))
def resOk (r : S50) : Bool := decide (1 ≤ r.f0 ∧ r.f0 ≤ 4 ∧ 1 ≤ r.f3 ∧ r.f3 ≤ 1024)
def needOk (R : Int) (x : S52) : Bool := decide (x.f0 = -1 ∧ x.f1 = 0 ∨ 0 ≤ x.f0 ∧ x.f0 ≤ R - 1 ∧ 1 ≤ x.f1 ∧ x.f1 ≤ 256)
def fr1 (l : List S48) (N v : Int) : Bool := decide ((rd_T48 l v).f0 = N ∧ (rd_T48 l v).f1 = (if v = N then N + 1 else v) ∧ (rd_T48 l v).f2 = 0 ∧ (rd_T48 l v).f3 = 0)
def fr2 (l : List S48) (ne : List S52) (n N v : Int) : Bool := decide ((rd_T48 l (N + 1 + v)).f0 = v ∧ (rd_T48 l (N + 1 + v)).f1 = N + 1 ∧ (rd_T48 l (N + 1 + v)).f3 = 0 ∧ (v < n → mx 1 (rd_T52 ne v).f1 ≤ (rd_T48 l (N + 1 + v)).f2))
section
variable {n p : Int} {lp : Bool} {ar : List S48} {rs : List S50} {ne : List S52}
theorem btw (a lo hi : Int) : dataflow_between.f a lo hi = some (decide (lo ≤ a ∧ a ≤ hi)) := by
  unfold dataflow_between.f
  by_cases h : a ≥ lo
  · rw [if_pos h]; simp [show lo ≤ a from h]
  · rw [if_neg h]; simp [show ¬ lo ≤ a from h]
theorem src (h0 : 0 ≤ n) (h1 : n ≤ 4096) (h2 : 0 ≤ p) (h3 : p ≤ 4094) : dataflow_Source.f n p lp ar rs ne = some (n + p) := by
  unfold dataflow_Source.f; rw [w64 (by omega) (by omega)]
theorem end_ (h0 : 0 ≤ n) (h1 : n ≤ 4096) (h2 : 0 ≤ p) (h3 : p ≤ 4094) : dataflow_End.f n p lp ar rs ne = some (n + p + 1) := by
  unfold dataflow_End.f; rw [w64 (x := n + p) (by omega) (by omega), w64 (by omega) (by omega)]
/-- The program's first loop. -/
theorem prog_arcs (h0 : 0 ≤ n) (h1 : n ≤ 4096) (h2 : 0 ≤ p) (h3 : p ≤ 4094) (hl : ar.length ≤ 1000) {r : Bool}
    (hr : Ev (fun k => dataflow_Valid.l1 k rs (rs.length : Int) 0 n p lp ar rs ne) r) (d : Nat) : ∀ i : Int, 0 ≤ i → i + d = ar.length →
    Ev (fun k => dataflow_Valid.l0 k (if lp = true then 256 else 0) ar (ar.length : Int) i n p lp ar rs ne) (upto (fun j => arcOk n p lp (rd_T48 ar j)) d i && r) := by
  induction d with
  | zero =>
    intro i i0 hi
    rw [upto, Bool.true_and]
    refine Ev.step (fun k => ?_) hr
    simp only [dataflow_Valid.l0]
    rw [if_neg (by omega)]
  | succ d ih =>
    intro i i0 hi
    have hj : ∀ k, dataflow_Valid.l0 (k + 1) (if lp = true then 256 else 0) ar (ar.length : Int) i n p lp ar rs ne = dataflow_Valid.j3 k (if lp = true then 256 else 0) ar (ar.length : Int) i (!arcOk n p lp (rd_T48 ar i)) n p lp ar rs ne := by
      intro k
      simp only [dataflow_Valid.l0]
      rw [if_pos (by omega), if_pos i0, if_pos (by omega), src h0 h1 h2 h3, end_ h0 h1 h2 h3]
      simp only [btw, Option.bind_some]
      unfold arcOk
      by_cases a0 : 0 ≤ (rd_T48 ar i).f0 ∧ (rd_T48 ar i).f0 ≤ n + p
      · by_cases a1 : 0 ≤ (rd_T48 ar i).f1 ∧ (rd_T48 ar i).f1 ≤ n + p + 1
        · by_cases a2 : 0 ≤ (rd_T48 ar i).f2 ∧ (rd_T48 ar i).f2 ≤ 4096
          · simp [a0, a1, a2]
          · have e : ¬ (0 ≤ (rd_T48 ar i).f0 ∧ (rd_T48 ar i).f0 ≤ n + p ∧ 0 ≤ (rd_T48 ar i).f1 ∧ (rd_T48 ar i).f1 ≤ n + p + 1 ∧ 0 ≤ (rd_T48 ar i).f2 ∧ (rd_T48 ar i).f2 ≤ 4096 ∧ 0 ≤ (rd_T48 ar i).f3 ∧ (rd_T48 ar i).f3 ≤ (if lp = true then 256 else 0)) := fun h => a2 ⟨h.2.2.2.2.1, h.2.2.2.2.2.1⟩
            rw [decide_eq_false e]
            simp [a0, a1, a2]
        · have e : ¬ (0 ≤ (rd_T48 ar i).f0 ∧ (rd_T48 ar i).f0 ≤ n + p ∧ 0 ≤ (rd_T48 ar i).f1 ∧ (rd_T48 ar i).f1 ≤ n + p + 1 ∧ 0 ≤ (rd_T48 ar i).f2 ∧ (rd_T48 ar i).f2 ≤ 4096 ∧ 0 ≤ (rd_T48 ar i).f3 ∧ (rd_T48 ar i).f3 ≤ (if lp = true then 256 else 0)) := fun h => a1 ⟨h.2.2.1, h.2.2.2.1⟩
          rw [decide_eq_false e]
          simp [a0, a1]
      · have e : ¬ (0 ≤ (rd_T48 ar i).f0 ∧ (rd_T48 ar i).f0 ≤ n + p ∧ 0 ≤ (rd_T48 ar i).f1 ∧ (rd_T48 ar i).f1 ≤ n + p + 1 ∧ 0 ≤ (rd_T48 ar i).f2 ∧ (rd_T48 ar i).f2 ≤ 4096 ∧ 0 ≤ (rd_T48 ar i).f3 ∧ (rd_T48 ar i).f3 ≤ (if lp = true then 256 else 0)) := fun h => a0 ⟨h.1, h.2.1⟩
        rw [decide_eq_false e]
        simp [a0]
    by_cases ha : arcOk n p lp (rd_T48 ar i) = true
    · rw [upto, ha, Bool.true_and]
      refine Ev.step hj (Ev.step (fun k => ?_) (ih (i + 1) (by omega) (by omega)))
      rw [ha]
      simp only [dataflow_Valid.j3]
      rw [if_neg (by simp), w64 (by omega) (by omega)]
    · rw [Bool.not_eq_true] at ha
      rw [upto, ha, Bool.false_and, Bool.false_and]
      refine Ev.step hj (Ev.step (f := fun _ => some false) (fun k => ?_) (Ev.now _))
      rw [ha]
      simp only [dataflow_Valid.j3]
      rw [if_pos (by simp)]
/-- .. and its second. -/
theorem prog_res (hl : rs.length ≤ 1000) {r : Bool}
    (hr : Ev (fun k => dataflow_Valid.l2 k ne (ne.length : Int) 0 n p lp ar rs ne) r) (d : Nat) : ∀ i : Int, 0 ≤ i → i + d = rs.length →
    Ev (fun k => dataflow_Valid.l1 k rs (rs.length : Int) i n p lp ar rs ne) (upto (fun j => resOk (rd_T50 rs j)) d i && r) := by
  induction d with
  | zero =>
    intro i i0 hi
    rw [upto, Bool.true_and]
    refine Ev.step (fun k => ?_) hr
    simp only [dataflow_Valid.l1]
    rw [if_neg (by omega)]
  | succ d ih =>
    intro i i0 hi
    have hj : ∀ k, dataflow_Valid.l1 (k + 1) rs (rs.length : Int) i n p lp ar rs ne = dataflow_Valid.j5 k rs (rs.length : Int) i (!resOk (rd_T50 rs i)) n p lp ar rs ne := by
      intro k
      simp only [dataflow_Valid.l1]
      rw [if_pos (by omega), if_pos i0, if_pos (by omega)]
      simp only [btw, Option.bind_some]
      unfold resOk
      by_cases a0 : 1 ≤ (rd_T50 rs i).f0 ∧ (rd_T50 rs i).f0 ≤ 4
      · simp [a0]
      · have e : ¬ (1 ≤ (rd_T50 rs i).f0 ∧ (rd_T50 rs i).f0 ≤ 4 ∧ 1 ≤ (rd_T50 rs i).f3 ∧ (rd_T50 rs i).f3 ≤ 1024) := fun h => a0 ⟨h.1, h.2.1⟩
        rw [decide_eq_false e]
        simp [a0]
    by_cases ha : resOk (rd_T50 rs i) = true
    · rw [upto, ha, Bool.true_and]
      refine Ev.step hj (Ev.step (fun k => ?_) (ih (i + 1) (by omega) (by omega)))
      rw [ha]
      simp only [dataflow_Valid.j5]
      rw [if_neg (by simp), w64 (by omega) (by omega)]
    · rw [Bool.not_eq_true] at ha
      rw [upto, ha, Bool.false_and, Bool.false_and]
      refine Ev.step hj (Ev.step (f := fun _ => some false) (fun k => ?_) (Ev.now _))
      rw [ha]
      simp only [dataflow_Valid.j5]
      rw [if_pos (by simp)]
/-- .. and its third. -/
theorem prog_needs (hl : ne.length ≤ 1000) (hl2 : rs.length ≤ 1000) {r : Bool}
    (hr : Ev (fun k => (dataflow_framed.f k n p lp ar rs ne).bind fun t => some t) r) (d : Nat) : ∀ i : Int, 0 ≤ i → i + d = ne.length →
    Ev (fun k => dataflow_Valid.l2 k ne (ne.length : Int) i n p lp ar rs ne) (upto (fun j => needOk (rs.length : Int) (rd_T52 ne j)) d i && r) := by
  induction d with
  | zero =>
    intro i i0 hi
    rw [upto, Bool.true_and]
    refine Ev.step (fun k => ?_) hr
    simp only [dataflow_Valid.l2]
    rw [if_neg (by omega)]
  | succ d ih =>
    intro i i0 hi
    have next : Ev (fun k => dataflow_Valid.l2 k ne (ne.length : Int) (wrap64 (i + 1)) n p lp ar rs ne) (upto (fun j => needOk (rs.length : Int) (rd_T52 ne j)) d (i + 1) && r) := by
      rw [w64 (by omega) (by omega)]
      exact ih (i + 1) (by omega) (by omega)
    rw [upto]
    by_cases a0 : (rd_T52 ne i).f0 = -1 ∧ (rd_T52 ne i).f1 = 0
    · have e : needOk (rs.length : Int) (rd_T52 ne i) = true := decide_eq_true (.inl a0)
      rw [e, Bool.true_and]
      have hj : ∀ k, dataflow_Valid.l2 (k + 1) ne (ne.length : Int) i n p lp ar rs ne = dataflow_Valid.j7 k ne (ne.length : Int) i true n p lp ar rs ne (rd_T52 ne i).f0 (rd_T52 ne i).f1 := by
        intro k
        simp only [dataflow_Valid.l2]
        rw [if_pos (by omega), if_pos i0, if_pos (by omega), if_pos a0.1, show ((rd_T52 ne i).f1 == 0) = true from beq_iff_eq.mpr a0.2]
      refine Ev.step hj (Ev.step (fun k => ?_) next)
      simp only [dataflow_Valid.j7]
      rw [if_pos trivial]
    · have hj : ∀ k, dataflow_Valid.l2 (k + 1) ne (ne.length : Int) i n p lp ar rs ne = dataflow_Valid.j7 k ne (ne.length : Int) i false n p lp ar rs ne (rd_T52 ne i).f0 (rd_T52 ne i).f1 := by
        intro k
        simp only [dataflow_Valid.l2]
        rw [if_pos (by omega), if_pos i0, if_pos (by omega)]
        by_cases b0 : (rd_T52 ne i).f0 = -1
        · rw [if_pos b0, show ((rd_T52 ne i).f1 == 0) = false from beq_eq_false_iff_ne.mpr (fun h => a0 ⟨b0, h⟩)]
        · rw [if_neg b0]
      have hj2 : ∀ k, dataflow_Valid.j7 (k + 1) ne (ne.length : Int) i false n p lp ar rs ne (rd_T52 ne i).f0 (rd_T52 ne i).f1 = dataflow_Valid.j8 k ne (ne.length : Int) i (!needOk (rs.length : Int) (rd_T52 ne i)) n p lp ar rs ne := by
        intro k
        simp only [dataflow_Valid.j7]
        rw [if_neg (by simp), w64 (x := (rs.length : Int) - 1) (by omega) (by omega)]
        simp only [btw, Option.bind_some]
        unfold needOk
        by_cases b0 : 0 ≤ (rd_T52 ne i).f0 ∧ (rd_T52 ne i).f0 ≤ (rs.length : Int) - 1
        · simp [b0, a0]
        · have e : ¬ ((rd_T52 ne i).f0 = -1 ∧ (rd_T52 ne i).f1 = 0 ∨ 0 ≤ (rd_T52 ne i).f0 ∧ (rd_T52 ne i).f0 ≤ (rs.length : Int) - 1 ∧ 1 ≤ (rd_T52 ne i).f1 ∧ (rd_T52 ne i).f1 ≤ 256) := fun h => h.elim a0 (fun h => b0 ⟨h.1, h.2.1⟩)
          rw [decide_eq_false e]
          simp [b0]
      by_cases ha : needOk (rs.length : Int) (rd_T52 ne i) = true
      · rw [ha, Bool.true_and]
        refine Ev.step hj (Ev.step hj2 (Ev.step (fun k => ?_) next))
        rw [ha]
        simp only [dataflow_Valid.j8]
        rw [if_neg (by simp)]
      · rw [Bool.not_eq_true] at ha
        rw [ha, Bool.false_and, Bool.false_and]
        refine Ev.step hj (Ev.step hj2 (Ev.step (f := fun _ => some false) (fun k => ?_) (Ev.now _)))
        rw [ha]
        simp only [dataflow_Valid.j8]
        rw [if_pos (by simp)]
/-- .. and the frame: its first part, .. -/
theorem prog_fr1 (h0 : 0 ≤ n) (h1 : n ≤ 4096) (h2 : 0 ≤ p) (h3 : p ≤ 4094) (hl : ar.length ≤ 1000) (hN : n + p + 1 ≤ ar.length) {r : Bool}
    (hr : Ev (fun k => dataflow_framed.l1 k (n + p) (n + p) 0 n p lp ar rs ne) r) (d : Nat) : ∀ i : Int, 0 ≤ i → i + d = n + p + 1 →
    Ev (fun k => dataflow_framed.l0 k (n + p) (n + p + 1) i n p lp ar rs ne) (upto (fun j => fr1 ar (n + p) j) d i && r) := by
  induction d with
  | zero =>
    intro i i0 hi
    rw [upto, Bool.true_and]
    refine Ev.step (fun k => ?_) hr
    simp only [dataflow_framed.l0]
    rw [if_neg (by omega)]
  | succ d ih =>
    intro i i0 hi
    have hj : ∀ k, dataflow_framed.l0 (k + 1) (n + p) (n + p + 1) i n p lp ar rs ne = dataflow_framed.j1 k (n + p) i (if i = n + p then n + p + 1 else i) (n + p + 1) i n p lp ar rs ne := by
      intro k
      simp only [dataflow_framed.l0]
      rw [if_pos (by omega), end_ h0 h1 h2 h3]
      simp only [Option.bind_some]
      split <;> rfl
    have hc : ∀ q : Int, (!((rd_T48 ar i).f0 == n + p) || (!((rd_T48 ar i).f1 == q) || (!((rd_T48 ar i).f2 == 0) || !((rd_T48 ar i).f3 == 0)))) = !decide ((rd_T48 ar i).f0 = n + p ∧ (rd_T48 ar i).f1 = q ∧ (rd_T48 ar i).f2 = 0 ∧ (rd_T48 ar i).f3 = 0) := by
      intro q
      rw [Bool.eq_iff_iff]
      simp
    have hj1 : ∀ k, dataflow_framed.j1 (k + 1) (n + p) i (if i = n + p then n + p + 1 else i) (n + p + 1) i n p lp ar rs ne = if (!fr1 ar (n + p) i) = true then some false else dataflow_framed.l0 k (n + p) (n + p + 1) (i + 1) n p lp ar rs ne := by
      intro k
      simp only [dataflow_framed.j1]
      rw [if_pos i0, if_pos (by omega), hc, w64 (by omega) (by omega)]
      rfl
    by_cases ha : fr1 ar (n + p) i = true
    · rw [upto, ha, Bool.true_and]
      refine Ev.step hj (Ev.step (fun k => ?_) (ih (i + 1) (by omega) (by omega)))
      rw [hj1, ha]
      rfl
    · rw [Bool.not_eq_true] at ha
      rw [upto, ha, Bool.false_and, Bool.false_and]
      refine Ev.step hj (Ev.step (f := fun _ => some false) (fun k => ?_) (Ev.now _))
      rw [hj1, ha]
      rfl
/-- .. and its second. -/
theorem prog_fr2 (h0 : 0 ≤ n) (h1 : n ≤ 4096) (h2 : 0 ≤ p) (h3 : p ≤ 4094) (hl : ar.length ≤ 1000) (hN : 2 * (n + p) + 1 ≤ ar.length) (hne : (ne.length : Int) = n) (d : Nat) : ∀ i : Int, 0 ≤ i → i + d = n + p →
    Ev (fun k => dataflow_framed.l1 k (n + p) (n + p) i n p lp ar rs ne) (upto (fun j => fr2 ar ne n (n + p) j) d i) := by
  induction d with
  | zero =>
    intro i i0 hi
    rw [upto]
    refine Ev.step (f := fun _ => some true) (fun k => ?_) (Ev.now _)
    simp only [dataflow_framed.l1]
    rw [if_neg (by omega)]
  | succ d ih =>
    intro i i0 hi
    have wi : wrap64 (wrap64 (n + p + 1) + i) = n + p + 1 + i := by rw [w64 (x := n + p + 1) (by omega) (by omega), w64 (by omega) (by omega)]
    have hj : ∀ k, dataflow_framed.l1 (k + 1) (n + p) (n + p) i n p lp ar rs ne = dataflow_framed.j3 k (n + p) (n + p) i (!fr2 ar ne n (n + p) i) n p lp ar rs ne := by
      intro k
      simp only [dataflow_framed.l1]
      rw [if_pos (by omega), wi, if_pos (by omega), if_pos (by omega), end_ h0 h1 h2 h3]
      simp only [Option.bind_some]
      unfold fr2
      by_cases a0 : (rd_T48 ar (n + p + 1 + i)).f0 = i
      · by_cases a1 : (rd_T48 ar (n + p + 1 + i)).f1 = n + p + 1
        · by_cases a2 : (rd_T48 ar (n + p + 1 + i)).f3 = 0
          · by_cases a3 : i < n
            · rw [if_pos a0, if_pos a1, if_pos a2, if_pos a3, if_pos i0, if_pos (by omega)]
              congr 1
              rw [Bool.eq_iff_iff]
              simp [a0, a1, a2, a3]
            · rw [if_pos a0, if_pos a1, if_pos a2, if_neg a3]
              simp [a0, a1, a2, a3]
          · rw [if_pos a0, if_pos a1, if_neg a2]
            simp [a2]
        · rw [if_pos a0, if_neg a1]
          simp [a1]
      · rw [if_neg a0]
        simp [a0]
    by_cases ha : fr2 ar ne n (n + p) i = true
    · rw [upto, ha, Bool.true_and]
      refine Ev.step hj (Ev.step (fun k => ?_) (ih (i + 1) (by omega) (by omega)))
      rw [ha]
      simp only [dataflow_framed.j3]
      rw [if_neg (by simp), w64 (by omega) (by omega)]
    · rw [Bool.not_eq_true] at ha
      rw [upto, ha, Bool.false_and]
      refine Ev.step hj (Ev.step (f := fun _ => some false) (fun k => ?_) (Ev.now _))
      rw [ha]
      simp only [dataflow_framed.j3]
      rw [if_pos (by simp)]
end
section
variable {n p : Int} {lp : Bool} {ar : List S48} {rs : List S50} {ne : List S52}
/-- A flow is well formed. -/
def VF (n p : Int) (lp : Bool) (ar : List S48) (rs : List S50) (ne : List S52) : Bool :=
  decide (0 ≤ n ∧ n ≤ 4096 ∧ 0 ≤ p ∧ p ≤ 4094 ∧ (ne.length : Int) = n) && (upto (fun j => arcOk n p lp (rd_T48 ar j)) ar.length 0 && (upto (fun j => resOk (rd_T50 rs j)) rs.length 0 && (upto (fun j => needOk (rs.length : Int) (rd_T52 ne j)) ne.length 0 && (decide (2 * (n + p) + 1 ≤ ar.length) && (upto (fun j => fr1 ar (n + p) j) (n + p + 1).toNat 0 && upto (fun j => fr2 ar ne n (n + p) j) (n + p).toNat 0)))))
theorem prog_valid (hl : ar.length ≤ 1000) (hl2 : rs.length ≤ 1000) (hl3 : ne.length ≤ 1000) : Ev (fun k => dataflow_Valid.f k n p lp ar rs ne) (VF n p lp ar rs ne) := by
  unfold VF
  by_cases hb : 0 ≤ n ∧ n ≤ 4096 ∧ 0 ≤ p ∧ p ≤ 4094 ∧ (ne.length : Int) = n
  · rw [decide_eq_true hb, Bool.true_and]
    obtain ⟨h0, h1, h2, h3, h4⟩ := hb
    have hfr : Ev (fun k => (dataflow_framed.f k n p lp ar rs ne).bind fun t => some t) (decide (2 * (n + p) + 1 ≤ (ar.length : Int)) && (upto (fun j => fr1 ar (n + p) j) (n + p + 1).toNat 0 && upto (fun j => fr2 ar ne n (n + p) j) (n + p).toNat 0)) := by
      refine Ev.bind ?_ (Ev.now _)
      have wN : wrap64 (wrap64 (2 * (n + p)) + 1) = 2 * (n + p) + 1 := by rw [w64 (x := 2 * (n + p)) (by omega) (by omega), w64 (by omega) (by omega)]
      by_cases hN : 2 * (n + p) + 1 ≤ (ar.length : Int)
      · rw [decide_eq_true hN, Bool.true_and]
        refine Ev.congr (fun k => ?_) (prog_fr1 (lp := lp) (rs := rs) h0 h1 h2 h3 hl (by omega) (prog_fr2 h0 h1 h2 h3 hl hN h4 (n + p).toNat 0 (Int.le_refl _) (by omega)) (n + p + 1).toNat 0 (Int.le_refl _) (by omega))
        unfold dataflow_framed.f
        rw [src h0 h1 h2 h3]
        simp only [Option.bind_some]
        rw [wN, if_neg (by omega), w64 (x := n + p + 1) (by omega) (by omega)]
      · rw [decide_eq_false hN, Bool.false_and]
        refine Ev.congr (fun k => ?_) (Ev.now _)
        unfold dataflow_framed.f
        rw [src h0 h1 h2 h3]
        simp only [Option.bind_some]
        rw [wN, if_pos (by omega)]
    have h := prog_arcs (rs := rs) (ne := ne) h0 h1 h2 h3 hl (prog_res (ar := ar) (ne := ne) (p := p) (n := n) (lp := lp) hl2 (prog_needs hl3 hl2 hfr ne.length 0 (Int.le_refl _) (by omega)) rs.length 0 (Int.le_refl _) (by omega)) ar.length 0 (Int.le_refl _) (by omega)
    have hj : Ev (fun k => dataflow_Valid.j0 k false n p lp ar rs ne) _ := Ev.step (f := fun k => dataflow_Valid.j1 k (if lp = true then 256 else 0) n p lp ar rs ne) (fun k => by simp only [dataflow_Valid.j0]; cases lp <;> simp) (Ev.step (fun k => by simp only [dataflow_Valid.j1]) h)
    refine Ev.congr (fun k => ?_) hj
    unfold dataflow_Valid.f
    simp only [btw, Option.bind_some]
    rw [if_pos (by simp; omega), if_pos (by simp; omega), show ((ne.length : Int) != n) = false by simp [h4]]
  · rw [decide_eq_false hb, Bool.false_and]
    have hj : Ev (fun k => dataflow_Valid.j0 k true n p lp ar rs ne) false := Ev.step (f := fun _ => some false) (fun k => by simp only [dataflow_Valid.j0]; rw [if_pos trivial]) (Ev.now _)
    refine Ev.congr (fun k => ?_) hj
    unfold dataflow_Valid.f
    simp only [btw, Option.bind_some]
    by_cases a0 : 0 ≤ n ∧ n ≤ 4096
    · by_cases a1 : 0 ≤ p ∧ p ≤ 4094
      · rw [if_pos (by simpa using a0), if_pos (by simpa using a1), show ((ne.length : Int) != n) = true by simp; intro h; exact hb ⟨a0.1, a0.2, a1.1, a1.2, h⟩]
      · rw [if_pos (by simpa using a0), if_neg (by simpa using a1)]
    · rw [if_neg (by simpa using a0)]
end

/-! ### flows of a size that is looked at -/
def smA (a : S48) : Bool := decide (a.f2 ≤ 60 ∧ a.f3 ≤ 20)
def fwA (a : S48) : Bool := decide (a.f2 ≤ 12 ∧ a.f3 ≤ 6)
def smN (x : S52) : Bool := decide (x.f1 ≤ 20)
def fwT (t : S54) : Bool := decide (t.f2.length ≤ 100 ∧ t.f3.length ≤ 40)
section
variable {n p : Int} {lp : Bool} {ar : List S48} {rs : List S50} {ne : List S52}
theorem small_ne (hl : ne.length ≤ 140737488355328) (a b : Int) (d : Nat) : ∀ i : Int, 0 ≤ i → i + d = ne.length →
    Ev (fun k => jacquardref28_Small.l1 k a b (ne.length : Int) i n p lp ar rs ne) (upto (fun j => smN (rd_T52 ne j)) d i && decide (n ≤ a ∧ p ≤ b ∧ ar.length ≤ 90 ∧ rs.length ≤ 6)) := by
  induction d with
  | zero =>
    intro i i0 hi
    rw [upto, Bool.true_and]
    refine Ev.step (f := fun _ => some (decide (n ≤ a ∧ p ≤ b ∧ ar.length ≤ 90 ∧ rs.length ≤ 6))) (fun k => ?_) (Ev.now _)
    simp only [jacquardref28_Small.l1]
    rw [if_neg (by omega)]
    repeat' split
    all_goals (congr 1; rw [Bool.eq_iff_iff]; simp <;> omega)
  | succ d ih =>
    intro i i0 hi
    by_cases ha : (rd_T52 ne i).f1 > 20
    · rw [upto, show smN (rd_T52 ne i) = false from decide_eq_false (by omega), Bool.false_and, Bool.false_and]
      refine Ev.step (f := fun _ => some false) (fun k => ?_) (Ev.now _)
      simp only [jacquardref28_Small.l1]
      rw [if_pos (by omega), if_pos i0, if_pos (by omega), if_pos ha]
    · rw [upto, show smN (rd_T52 ne i) = true from decide_eq_true (by omega), Bool.true_and]
      refine Ev.step (fun k => ?_) (ih (i + 1) (by omega) (by omega))
      simp only [jacquardref28_Small.l1]
      rw [if_pos (by omega), if_pos i0, if_pos (by omega), if_neg ha, w64 (by omega) (by omega)]
theorem small_ar (hl : ar.length ≤ 140737488355328) (a b : Int) {r : Bool} (hr : Ev (fun k => jacquardref28_Small.l1 k a b (ne.length : Int) 0 n p lp ar rs ne) r) (d : Nat) : ∀ i : Int, 0 ≤ i → i + d = ar.length →
    Ev (fun k => jacquardref28_Small.l0 k a b (ar.length : Int) i n p lp ar rs ne) (upto (fun j => smA (rd_T48 ar j)) d i && r) := by
  induction d with
  | zero =>
    intro i i0 hi
    rw [upto, Bool.true_and]
    refine Ev.step (fun k => ?_) hr
    simp only [jacquardref28_Small.l0]
    rw [if_neg (by omega)]
  | succ d ih =>
    intro i i0 hi
    have hj : ∀ k, jacquardref28_Small.l0 (k + 1) a b (ar.length : Int) i n p lp ar rs ne = jacquardref28_Small.j1 k a b (ar.length : Int) i (!smA (rd_T48 ar i)) n p lp ar rs ne := by
      intro k
      simp only [jacquardref28_Small.l0]
      rw [if_pos (by omega), if_pos i0, if_pos (by omega)]
      unfold smA
      repeat' split
      all_goals (congr 1; rw [Bool.eq_iff_iff]; simp <;> omega)
    by_cases ha : smA (rd_T48 ar i) = true
    · rw [upto, ha, Bool.true_and]
      refine Ev.step hj (Ev.step (fun k => ?_) (ih (i + 1) (by omega) (by omega)))
      rw [ha]
      simp only [jacquardref28_Small.j1]
      rw [if_neg (by simp), w64 (by omega) (by omega)]
    · rw [Bool.not_eq_true] at ha
      rw [upto, ha, Bool.false_and, Bool.false_and]
      refine Ev.step hj (Ev.step (f := fun _ => some false) (fun k => ?_) (Ev.now _))
      rw [ha]
      simp only [jacquardref28_Small.j1]
      rw [if_pos (by simp)]
theorem tree_few (t : List S54) (hl : t.length ≤ 140737488355328) (m : Int) (d : Nat) : ∀ i : Int, 0 ≤ i → i + d = t.length →
    Ev (fun k => jacquardref34_Few.l0 k t m (t.length : Int) i) (upto (fun j => fwT (rd_T54 t j)) d i && decide ((t.length : Int) ≤ m)) := by
  induction d with
  | zero =>
    intro i i0 hi
    rw [upto, Bool.true_and]
    refine Ev.step (f := fun _ => some (decide ((t.length : Int) ≤ m))) (fun k => ?_) (Ev.now _)
    simp only [jacquardref34_Few.l0]
    rw [if_neg (by omega)]
  | succ d ih =>
    intro i i0 hi
    have hj : ∀ k, jacquardref34_Few.l0 (k + 1) t m (t.length : Int) i = jacquardref34_Few.j1 k t m (t.length : Int) i (!fwT (rd_T54 t i)) := by
      intro k
      simp only [jacquardref34_Few.l0]
      rw [if_pos (by omega), if_pos i0, if_pos (by omega)]
      unfold fwT
      repeat' split
      all_goals (congr 1; rw [Bool.eq_iff_iff]; simp <;> omega)
    by_cases ha : fwT (rd_T54 t i) = true
    · rw [upto, ha, Bool.true_and]
      refine Ev.step hj (Ev.step (fun k => ?_) (ih (i + 1) (by omega) (by omega)))
      rw [ha]
      simp only [jacquardref34_Few.j1]
      rw [if_neg (by simp), w64 (by omega) (by omega)]
    · rw [Bool.not_eq_true] at ha
      rw [upto, ha, Bool.false_and, Bool.false_and]
      refine Ev.step hj (Ev.step (f := fun _ => some false) (fun k => ?_) (Ev.now _))
      rw [ha]
      simp only [jacquardref34_Few.j1]
      rw [if_pos (by simp)]
/-- few: what it says, and that it ends. -/
def FW (n p : Int) (ar : List S48) (rs : List S50) (ne : List S52) (t : List S54) : Bool :=
  upto (fun j => fwA (rd_T48 ar j)) ar.length 0 && (((upto (fun j => smA (rd_T48 ar j)) ar.length 0 && (upto (fun j => smN (rd_T52 ne j)) ne.length 0 && decide (n ≤ 8 ∧ p ≤ 4 ∧ ar.length ≤ 90 ∧ rs.length ≤ 6))) && decide (ne.length ≤ 20)) && (upto (fun j => fwT (rd_T54 t j)) t.length 0 && decide ((t.length : Int) ≤ 300)))
theorem few_loop (hl : ar.length ≤ 140737488355328) (t : List S54) {r : Bool} (hr : Ev (fun k => (jacquardref28_Small.f k n p lp ar rs ne 8 4).bind fun t244 => (if t244 = true then (if (ne.length : Int) ≤ 20 then ((jacquardref34_Few.f k t 300).bind fun t245 => (some t245)) else (some false)) else (some false))) r) (d : Nat) : ∀ i : Int, 0 ≤ i → i + d = ar.length →
    Ev (fun k => jacquardlaw34_few.l0 k t (ar.length : Int) i n p lp ar rs ne) (upto (fun j => fwA (rd_T48 ar j)) d i && r) := by
  induction d with
  | zero =>
    intro i i0 hi
    rw [upto, Bool.true_and]
    refine Ev.step (fun k => ?_) hr
    simp only [jacquardlaw34_few.l0]
    rw [if_neg (by omega)]
  | succ d ih =>
    intro i i0 hi
    have hj : ∀ k, jacquardlaw34_few.l0 (k + 1) t (ar.length : Int) i n p lp ar rs ne = jacquardlaw34_few.j1 k t (ar.length : Int) i (!fwA (rd_T48 ar i)) n p lp ar rs ne := by
      intro k
      simp only [jacquardlaw34_few.l0]
      rw [if_pos (by omega), if_pos i0, if_pos (by omega)]
      unfold fwA
      repeat' split
      all_goals (congr 1; rw [Bool.eq_iff_iff]; simp <;> omega)
    by_cases ha : fwA (rd_T48 ar i) = true
    · rw [upto, ha, Bool.true_and]
      refine Ev.step hj (Ev.step (fun k => ?_) (ih (i + 1) (by omega) (by omega)))
      rw [ha]
      simp only [jacquardlaw34_few.j1]
      rw [if_neg (by simp), w64 (by omega) (by omega)]
    · rw [Bool.not_eq_true] at ha
      rw [upto, ha, Bool.false_and, Bool.false_and]
      refine Ev.step hj (Ev.step (f := fun _ => some false) (fun k => ?_) (Ev.now _))
      rw [ha]
      simp only [jacquardlaw34_few.j1]
      rw [if_pos (by simp)]
theorem few_ok (hl : ar.length ≤ 140737488355328) (hl3 : ne.length ≤ 140737488355328) (t : List S54) (hl4 : t.length ≤ 140737488355328) : Ev (fun k => jacquardlaw34_few.f k n p lp ar rs ne t) (FW n p ar rs ne t) := by
  refine Ev.congr (fun k => ?_) (few_loop (n := n) (p := p) hl t (Ev.bind (small_ar (rs := rs) (lp := lp) (n := n) (p := p) hl 8 4 (small_ne hl3 8 4 ne.length 0 (Int.le_refl _) (by omega)) ar.length 0 (Int.le_refl _) (by omega)) ?_) ar.length 0 (Int.le_refl _) (by omega))
  · unfold jacquardlaw34_few.f
    rfl
  · by_cases hs : (upto (fun j => smA (rd_T48 ar j)) ar.length 0 && (upto (fun j => smN (rd_T52 ne j)) ne.length 0 && decide (n ≤ 8 ∧ p ≤ 4 ∧ ar.length ≤ 90 ∧ rs.length ≤ 6))) = true
    · rw [hs, Bool.true_and]
      by_cases h20 : ne.length ≤ 20
      · rw [decide_eq_true h20, Bool.true_and]
        refine Ev.congr (fun k => ?_) (Ev.bind (tree_few t hl4 300 t.length 0 (Int.le_refl _) (by omega)) (Ev.now _))
        rw [if_pos rfl, if_pos (by omega)]
        rfl
      · rw [decide_eq_false h20, Bool.false_and]
        refine Ev.congr (fun k => ?_) (Ev.now _)
        rw [if_pos rfl, if_neg (by omega)]
    · rw [Bool.not_eq_true] at hs
      rw [hs, Bool.false_and, Bool.false_and]
      refine Ev.congr (fun k => ?_) (Ev.now _)
      rw [if_neg Bool.false_ne_true]
end

/-! ### flows that are looked at, slots, walks -/
/-- A well-formed flow of a size that is looked at. -/
structure FO (n p : Int) (ar : List S48) (rs : List S50) (ne : List S52) : Prop where
  n0 : 0 ≤ n
  n8 : n ≤ 8
  p0 : 0 ≤ p
  p4 : p ≤ 4
  la : ar.length ≤ 90
  lr : rs.length ≤ 6
  ln : (ne.length : Int) = n
  arc : ∀ j : Int, 0 ≤ j → j < ar.length → 0 ≤ (rd_T48 ar j).f0 ∧ (rd_T48 ar j).f0 ≤ n + p ∧ 0 ≤ (rd_T48 ar j).f1 ∧ (rd_T48 ar j).f1 ≤ n + p + 1 ∧ 0 ≤ (rd_T48 ar j).f2 ∧ (rd_T48 ar j).f2 ≤ 12 ∧ 0 ≤ (rd_T48 ar j).f3 ∧ (rd_T48 ar j).f3 ≤ 6
  res : ∀ j : Int, 0 ≤ j → j < rs.length → 1 ≤ (rd_T50 rs j).f3 ∧ (rd_T50 rs j).f3 ≤ 1024
  need : ∀ j : Int, 0 ≤ j → j < n → (rd_T52 ne j).f0 = -1 ∧ (rd_T52 ne j).f1 = 0 ∨ 0 ≤ (rd_T52 ne j).f0 ∧ (rd_T52 ne j).f0 < rs.length ∧ 1 ≤ (rd_T52 ne j).f1 ∧ (rd_T52 ne j).f1 ≤ 20
theorem FO.of {n p : Int} {lp : Bool} {ar : List S48} {rs : List S50} {ne : List S52} {t : List S54} (h : VF n p lp ar rs ne = true) (h' : FW n p ar rs ne t = true) : FO n p ar rs ne := by
  simp only [VF, Bool.and_eq_true, decide_eq_true_eq, upto_iff] at h
  simp only [FW, Bool.and_eq_true, decide_eq_true_eq, upto_iff] at h'
  obtain ⟨⟨a0, a1, a2, a3, a4⟩, b, c, d, -⟩ := h
  obtain ⟨e, ⟨⟨e2, e3, f1, f2, f3, f4⟩, f5⟩, -⟩ := h'
  refine ⟨a0, f1, a2, f2, f3, f4, a4, fun j j0 j1 => ?_, fun j j0 j1 => ?_, fun j j0 j1 => ?_⟩
  · have h1 := b j j0 (by omega)
    have h2 := e j j0 (by omega)
    simp only [arcOk, fwA, decide_eq_true_eq] at h1 h2
    omega
  · have h1 := c j j0 (by omega)
    simp only [resOk, decide_eq_true_eq] at h1
    omega
  · have h1 := d j j0 (by omega)
    have h2 := e3 j j0 (by omega)
    simp only [needOk, smN, decide_eq_true_eq] at h1 h2
    omega
section
variable {n p : Int} {lp : Bool} {ar : List S48} {rs : List S50} {ne : List S52}
theorem FO.src (F : FO n p ar rs ne) : dataflow_Source.f n p lp ar rs ne = some (n + p) := Pure.src F.n0 (by have := F.n8; omega) F.p0 (by have := F.p4; omega)
def slotV (n p ii : Int) (sl : List Int) (v : Int) : Int × Bool := if v = n + p then (0, true) else if v < n ∧ v < sl.length ∧ 0 ≤ rd sl v then ((rd sl v).tmod ii, true) else (0, false)
theorem slot_ok (F : FO n p ar rs ne) {ii : Int} (hii : 1 ≤ ii) (sl : List Int) {v : Int} (v0 : 0 ≤ v) : Ev (fun k => refute_slot.f k n p lp ar rs ne ii sl v) (slotV n p ii sl v) := by
  unfold slotV
  by_cases e : v = n + p
  · rw [if_pos e]
    refine Ev.congr (fun k => ?_) (Ev.now _)
    unfold refute_slot.f
    rw [F.src]
    simp only [Option.bind_some]
    rw [if_pos e]
  rw [if_neg e]
  have hf : ∀ b : Bool, Ev (fun k => refute_slot.j0 k ii sl v b) (if b = true ∧ v < sl.length then ((rd sl v).tmod ii, true) else (0, false)) ∨ (b = true ∧ ¬ v < sl.length) := by
    intro b
    by_cases hb : b = true
    · by_cases hv : v < sl.length
      · refine .inl (Ev.step (f := fun _ => some ((rd sl v).tmod ii, true)) (fun k => ?_) ?_)
        · simp only [refute_slot.j0]
          rw [if_pos hb, if_pos v0, if_pos hv, if_neg (by omega)]
        · rw [if_pos ⟨hb, hv⟩]; exact Ev.now _
      · exact .inr ⟨hb, hv⟩
    · refine .inl (Ev.step (f := fun _ => some (0, false)) (fun k => ?_) ?_)
      · simp only [refute_slot.j0]
        rw [if_neg hb]
      · rw [if_neg (fun h => hb h.1)]; exact Ev.now _
  have h0 := (hf false).resolve_right (fun h => absurd h.1 Bool.false_ne_true)
  rw [if_neg (fun h => absurd h.1 Bool.false_ne_true)] at h0
  have un : ∀ k, refute_slot.f k n p lp ar rs ne ii sl v = if v < n then (if v < (sl.length : Int) then (refute_slot.j0 k ii sl v (decide ((rd sl v) ≥ 0))) else (refute_slot.j0 k ii sl v false)) else (refute_slot.j0 k ii sl v false) := by
    intro k
    unfold refute_slot.f
    rw [F.src]
    simp only [Option.bind_some]
    rw [if_neg e, if_pos v0]
  by_cases a : v < n
  · by_cases b : v < sl.length
    · have h1 := (hf (decide (rd sl v ≥ 0))).resolve_right (fun h => h.2 b)
      refine Ev.congr (fun k => (un k).trans ((if_pos a).trans (if_pos b))) ?_
      by_cases c : 0 ≤ rd sl v
      · rw [if_pos ⟨a, b, c⟩]
        rw [if_pos ⟨decide_eq_true c, b⟩] at h1
        exact h1
      · rw [if_neg (fun h => c h.2.2)]
        rw [if_neg (fun h => c (of_decide_eq_true h.1))] at h1
        exact h1
    · rw [if_neg (fun h => b h.2.1)]
      exact Ev.congr (fun k => (un k).trans ((if_pos a).trans (if_neg b))) h0
  · rw [if_neg (fun h => a h.1)]
    exact Ev.congr (fun k => (un k).trans (if_neg a)) h0
/-- The arc behind arc i of a walk. -/
def nx (w : List Int) (i : Int) : Int := rd w ((i + 1).tmod w.length)
def badW (ar : List S48) (w : List Int) (i : Int) : Bool := decide (rd w i < 0 ∨ rd w i ≥ ar.length ∨ nx w i < 0 ∨ nx w i ≥ ar.length ∨ (rd_T48 ar (rd w i)).f1 ≠ (rd_T48 ar (nx w i)).f0)
def fixW (n p ii : Int) (ar : List S48) (sl w : List Int) (i : Int) : Bool := (slotV n p ii sl (rd_T48 ar (rd w i)).f0).2
/-- What a walk adds up to from step i on. -/
def smW (n p ii : Int) (ar : List S48) (sl w : List Int) (first : Int) : Nat → Int → Int → Int
  | 0, _, x => x
  | d + 1, i, x =>
    let a := rd_T48 ar (rd w i)
    let s := slotV n p ii sl a.f1
    let y := x + (a.f2 - ii * a.f3)
    smW n p ii ar sl w first d (i + 1) (if s.2 = true then y + ((s.1 - first - y).tmod ii + ii).tmod ii else y)
def walkV (n p ii : Int) (ar : List S48) (sl w : List Int) : Int × Bool :=
  if w.length = 0 then (0, false) else
  if upto (fun i => !badW ar w i) w.length 0 = false then (0, false) else
  let s := slotV n p ii sl (rd_T48 ar (rd w 0)).f0
  if upto (fun i => !fixW n p ii ar sl w i) w.length 0 = false ∧ s.2 = false then (0, false) else (smW n p ii ar sl w s.1 w.length 0 0, true)
theorem slotV_lt {ii : Int} (hii : 1 ≤ ii) (hi : ii ≤ 256) (sl : List Int) (v : Int) : 0 ≤ (slotV n p ii sl v).1 ∧ (slotV n p ii sl v).1 < ii := by
  unfold slotV
  by_cases e : v = n + p
  · rw [if_pos e]; exact ⟨Int.le_refl _, by show (0 : Int) < ii; omega⟩
  · rw [if_neg e]
    by_cases a : v < n ∧ v < sl.length ∧ 0 ≤ rd sl v
    · rw [if_pos a]; exact ⟨Int.tmod_nonneg _ a.2.2, Int.tmod_lt_of_pos _ (by omega)⟩
    · rw [if_neg a]; exact ⟨Int.le_refl _, by show (0 : Int) < ii; omega⟩
theorem mulB {ii d : Int} (h1 : 1 ≤ ii) (h2 : ii ≤ 256) (h3 : 0 ≤ d) (h4 : d ≤ 6) : 0 ≤ ii * d ∧ ii * d ≤ 1536 :=
  ⟨Int.mul_nonneg (by omega) h3, Int.le_trans (Int.mul_le_mul h2 h4 h3 (by omega)) (by omega)⟩
theorem tmodB {x ii : Int} (h1 : 1 ≤ ii) : -ii < x.tmod ii ∧ x.tmod ii < ii := by
  have a := Int.tmod_lt_of_pos x (show 0 < ii by omega)
  refine ⟨?_, a⟩
  by_cases h : 0 ≤ x
  · have := Int.tmod_nonneg ii h; omega
  · have := Int.tmod_lt_of_pos (-x) (show 0 < ii by omega)
    rw [Int.neg_tmod] at this
    omega
theorem walk_sum (F : FO n p ar rs ne) {ii : Int} (hii : 1 ≤ ii) (hi : ii ≤ 256) (sl w : List Int) (hw : w.length ≤ 40) (hb : upto (fun i => !badW ar w i) w.length 0 = true) {first : Int} (f0 : 0 ≤ first) (f1 : first < ii) (d : Nat) : ∀ i x : Int, 0 ≤ i → i + d = w.length → -(i * 10000) ≤ x → x ≤ i * 10000 →
    Ev (fun k => refute_walk.l1 k ii sl x first w (w.length : Int) i n p lp ar rs ne) (smW n p ii ar sl w first d i x, true) := by
  induction d with
  | zero =>
    intro i x i0 hid x0 x1
    refine Ev.step (f := fun _ => some (x, true)) (fun k => ?_) (Ev.now _)
    simp only [refute_walk.l1]
    rw [if_neg (by omega)]
  | succ d ih =>
    intro i x i0 hid x0 x1
    have hbi := (upto_iff _ _ _).mp hb i i0 (by omega)
    simp only [badW, Bool.not_eq_true', decide_eq_false_iff_not] at hbi
    have r0 : 0 ≤ rd w i := by omega
    have r1 : rd w i < ar.length := by omega
    have A := F.arc _ r0 r1
    have hs := slot_ok (lp := lp) F hii sl (v := (rd_T48 ar (rd w i)).f1) A.2.2.1
    have sl_ := slotV_lt (n := n) (p := p) hii hi sl (rd_T48 ar (rd w i)).f1
    have mB := mulB hii hi A.2.2.2.2.2.2.1 A.2.2.2.2.2.2.2
    have w1 : wrap64 (ii * (rd_T48 ar (rd w i)).f3) = ii * (rd_T48 ar (rd w i)).f3 := w64 (by omega) (by omega)
    have w2 : wrap64 ((rd_T48 ar (rd w i)).f2 - ii * (rd_T48 ar (rd w i)).f3) = (rd_T48 ar (rd w i)).f2 - ii * (rd_T48 ar (rd w i)).f3 := w64 (by omega) (by omega)
    have w3 : wrap64 (x + ((rd_T48 ar (rd w i)).f2 - ii * (rd_T48 ar (rd w i)).f3)) = x + ((rd_T48 ar (rd w i)).f2 - ii * (rd_T48 ar (rd w i)).f3) := w64 (by omega) (by omega)
    rw [smW]
    generalize hS : slotV n p ii sl (rd_T48 ar (rd w i)).f1 = S at hs sl_ ⊢
    generalize hy : x + ((rd_T48 ar (rd w i)).f2 - ii * (rd_T48 ar (rd w i)).f3) = y at w3 ⊢
    have hj : ∀ k, refute_walk.l1 (k + 1) ii sl x first w (w.length : Int) i n p lp ar rs ne = (refute_slot.f k n p lp ar rs ne ii sl ((rd_T48 ar (rd w i)).f1)).bind fun bt => (if bt.2 = true then (refute_walk.l1 k ii sl (wrap64 (y + (Int.tmod (wrap64 ((Int.tmod (wrap64 ((wrap64 (bt.1 - first)) - y)) ii) + ii)) ii))) first w (w.length : Int) (i + 1) n p lp ar rs ne) else (refute_walk.l1 k ii sl y first w (w.length : Int) (i + 1) n p lp ar rs ne)) := by
      intro k
      simp only [refute_walk.l1]
      rw [if_pos (by omega), if_pos i0, if_pos (by omega), if_pos r0, if_pos r1, w1, w2, hy, w3, w64 (x := i + 1) (by omega) (by omega)]
      simp only [if_neg (show ¬ ii = 0 by omega)]
    refine Ev.step hj (Ev.bind hs ?_)
    by_cases hb2 : S.2 = true
    · have t1 := tmodB (x := S.1 - first - y) hii
      have t2 := tmodB (x := (S.1 - first - y).tmod ii + ii) hii
      refine Ev.congr (fun k => if_pos hb2) ?_
      rw [if_pos hb2, w64 (x := S.1 - first) (by omega) (by omega), w64 (x := S.1 - first - y) (by omega) (by omega), w64 (x := (S.1 - first - y).tmod ii + ii) (by omega) (by omega), w64 (x := y + ((S.1 - first - y).tmod ii + ii).tmod ii) (by omega) (by omega)]
      exact ih _ _ (by omega) (by omega) (by omega) (by omega)
    · refine Ev.congr (fun k => if_neg hb2) ?_
      rw [if_neg hb2]
      exact ih _ _ (by omega) (by omega) (by omega) (by omega)
theorem walk_end (F : FO n p ar rs ne) {ii : Int} (hii : 1 ≤ ii) (hi : ii ≤ 256) (sl w : List Int) (hw : w.length ≤ 40) (h0 : w.length ≠ 0) (hb : upto (fun i => !badW ar w i) w.length 0 = true) (b : Bool) :
    Ev (fun k => refute_walk.l0 k ii sl w 0 b w (w.length : Int) (w.length : Int) n p lp ar rs ne) (if b = true ∧ (slotV n p ii sl (rd_T48 ar (rd w 0)).f0).2 = false then (0, false) else (smW n p ii ar sl w (slotV n p ii sl (rd_T48 ar (rd w 0)).f0).1 w.length 0 0, true)) := by
  have hbi := (upto_iff _ _ _).mp hb 0 (Int.le_refl _) (by omega)
  simp only [badW, Bool.not_eq_true', decide_eq_false_iff_not] at hbi
  have r0 : 0 ≤ rd w 0 := by omega
  have r1 : rd w 0 < ar.length := by omega
  have A := F.arc _ r0 r1
  have hs := slot_ok (lp := lp) F hii sl (v := (rd_T48 ar (rd w 0)).f0) A.1
  have sl_ := slotV_lt (n := n) (p := p) hii hi sl (rd_T48 ar (rd w 0)).f0
  have hsum := walk_sum (lp := lp) F hii hi sl w hw hb sl_.1 sl_.2 w.length 0 0 (Int.le_refl _) (by omega) (by omega) (by omega)
  generalize hS : slotV n p ii sl (rd_T48 ar (rd w 0)).f0 = S at hs hsum ⊢
  have hj2 : ∀ c : Bool, Ev (fun k => refute_walk.j2 k ii sl w 0 S.1 c n p lp ar rs ne) (if c = true then (0, false) else (smW n p ii ar sl w S.1 w.length 0 0, true)) := by
    intro c
    by_cases hc : c = true
    · rw [if_pos hc]
      refine Ev.step (f := fun _ => some (0, false)) (fun k => ?_) (Ev.now _)
      simp only [refute_walk.j2]
      rw [if_pos hc]
    · rw [if_neg hc]
      refine Ev.step (fun k => ?_) hsum
      simp only [refute_walk.j2]
      rw [if_neg hc]
  have hj : ∀ k, refute_walk.l0 (k + 1) ii sl w 0 b w (w.length : Int) (w.length : Int) n p lp ar rs ne = (refute_slot.f k n p lp ar rs ne ii sl ((rd_T48 ar (rd w 0)).f0)).bind fun bt => (if b = true then (refute_walk.j2 k ii sl w 0 bt.1 (!bt.2) n p lp ar rs ne) else (refute_walk.j2 k ii sl w 0 bt.1 false n p lp ar rs ne)) := by
    intro k
    simp only [refute_walk.l0]
    rw [if_neg (by omega), if_pos (by omega), if_pos r0, if_pos r1]
  refine Ev.step hj (Ev.bind hs ?_)
  by_cases hb1 : b = true
  · refine Ev.congr (fun k => if_pos hb1) ?_
    have := hj2 (!S.2)
    simp only [hb1, true_and]
    cases h2 : S.2
    · rw [h2] at this; exact this
    · rw [h2] at this; exact this
  · refine Ev.congr (fun k => if_neg hb1) ?_
    rw [if_neg (fun h => hb1 h.1)]
    exact hj2 false
theorem walk_loop (F : FO n p ar rs ne) {ii : Int} (hii : 1 ≤ ii) (hi : ii ≤ 256) (sl w : List Int) (hw : w.length ≤ 40) (h0 : w.length ≠ 0) (d : Nat) : ∀ (i : Int) (b : Bool), 0 ≤ i → i + d = w.length → upto (fun j => !badW ar w j) i.toNat 0 = true → (b = true ↔ upto (fun j => !fixW n p ii ar sl w j) i.toNat 0 = false) →
    Ev (fun k => refute_walk.l0 k ii sl w 0 b w (w.length : Int) i n p lp ar rs ne) (walkV n p ii ar sl w) := by
  induction d with
  | zero =>
    intro i b i0 hid hb hs
    have e : i = w.length := by omega
    subst e
    rw [Int.toNat_natCast] at hb hs
    have := walk_end (lp := lp) F hii hi sl w hw h0 hb b
    unfold walkV
    rw [if_neg h0, if_neg (by rw [hb]; simp)]
    (try dsimp only)
    simp only [hs] at this
    exact this
  | succ d ih =>
    intro i b i0 hid hb hs
    have tm : (i + 1).tmod w.length = if i + 1 = w.length then 0 else i + 1 := by
      by_cases e : i + 1 = w.length
      · rw [if_pos e, e, Int.tmod_self]
      · rw [if_neg e, Int.tmod_eq_of_lt (by omega) (by omega)]
    have t0 : 0 ≤ (i + 1).tmod w.length := by rw [tm]; split <;> omega
    have t1 : (i + 1).tmod w.length < w.length := by rw [tm]; split <;> omega
    have hj : ∀ k, refute_walk.l0 (k + 1) ii sl w 0 b w (w.length : Int) i n p lp ar rs ne = refute_walk.j1 k ii sl w 0 b (rd w i) w (w.length : Int) i (badW ar w i) n p lp ar rs ne := by
      intro k
      simp only [refute_walk.l0]
      rw [if_pos (by omega), if_pos i0, if_pos (by omega), if_neg (by omega), w64 (x := i + 1) (by omega) (by omega), if_pos t0, if_pos t1]
      unfold badW nx
      repeat' split
      all_goals first | omega | (congr 1; rw [Bool.eq_iff_iff]; simp <;> omega)
    have up : ∀ (q : Int → Bool), upto q (i + 1).toNat 0 = (upto q i.toNat 0 && q i) := by
      intro q
      rw [Bool.eq_iff_iff, Bool.and_eq_true, upto_iff, upto_iff]
      constructor
      · intro h
        exact ⟨fun j j0 j1 => h j j0 (by omega), h i i0 (by omega)⟩
      · rintro ⟨h, h'⟩ j j0 j1
        by_cases e : j = i
        · rw [e]; exact h'
        · exact h j j0 (by omega)
    by_cases ha : badW ar w i = true
    · have hz : walkV n p ii ar sl w = (0, false) := by
        unfold walkV
        rw [if_neg h0, if_pos]
        rw [← Bool.not_eq_true, upto_iff]
        intro h
        have := h i i0 (by omega)
        rw [ha] at this
        exact absurd this (by simp)
      rw [hz]
      refine Ev.step hj (Ev.step (f := fun _ => some (0, false)) (fun k => ?_) (Ev.now _))
      simp only [refute_walk.j1]
      rw [if_pos ha]
    · have hbi := ha
      rw [Bool.not_eq_true] at ha
      simp only [badW, decide_eq_true_eq] at hbi
      have r0 : 0 ≤ rd w i := by omega
      have r1 : rd w i < ar.length := by omega
      have hsl := slot_ok (lp := lp) F hii sl (v := (rd_T48 ar (rd w i)).f0) (F.arc _ r0 r1).1
      refine Ev.step hj (Ev.step (f := fun k => (refute_slot.f k n p lp ar rs ne ii sl ((rd_T48 ar (rd w i)).f0)).bind fun bt => (if b = true then (refute_walk.l0 k ii sl w 0 true w (w.length : Int) (i + 1) n p lp ar rs ne) else (refute_walk.l0 k ii sl w 0 bt.2 w (w.length : Int) (i + 1) n p lp ar rs ne))) (fun k => ?_) (Ev.bind hsl ?_))
      · rw [ha]
        simp only [refute_walk.j1]
        rw [if_neg Bool.false_ne_true, if_pos r0, if_pos r1, w64 (x := i + 1) (by omega) (by omega)]
      · have hfx : fixW n p ii ar sl w i = (slotV n p ii sl (rd_T48 ar (rd w i)).f0).2 := rfl
        by_cases hb1 : b = true
        · refine Ev.congr (fun k => if_pos hb1) (ih _ _ (by omega) (by omega) (by rw [up, hb, ha]; rfl) ?_)
          rw [up, hs.mp hb1]
          simp
        · refine Ev.congr (fun k => if_neg hb1) (ih _ _ (by omega) (by omega) (by rw [up, hb, ha]; rfl) ?_)
          have : upto (fun j => !fixW n p ii ar sl w j) i.toNat 0 = true := by
            rw [← Bool.not_eq_false]; exact fun h => hb1 (hs.mpr h)
          rw [up, this, ← hfx, Bool.true_and]
          cases fixW n p ii ar sl w i <;> simp
theorem walk_ok (F : FO n p ar rs ne) {ii : Int} (hii : 1 ≤ ii) (hi : ii ≤ 256) (sl w : List Int) (hw : w.length ≤ 40) : Ev (fun k => refute_walk.f k n p lp ar rs ne ii sl w) (walkV n p ii ar sl w) := by
  by_cases h0 : w.length = 0
  · refine Ev.congr (fun k => ?_) (Ev.now _)
    unfold refute_walk.f walkV
    rw [if_pos (by omega), if_pos h0]
  · refine Ev.congr (fun k => ?_) (walk_loop (lp := lp) F hii hi sl w hw h0 w.length 0 false (Int.le_refl _) (by omega) rfl (by simp [upto]))
    unfold refute_walk.f
    rw [if_neg (by omega)]
end
theorem tmod2 {ii : Int} (h : 0 < ii) (z : Int) : (z.tmod ii + ii).tmod ii = z % ii := by
  have b := tmodB (x := z) (show 1 ≤ ii by omega)
  rw [Int.tmod_eq_emod_of_nonneg (by omega), Int.add_emod_right, Int.tmod_def, Int.sub_mul_emod_self_left]

end Go.Proofs.Ytpmlbbglekaidaa.Pure
