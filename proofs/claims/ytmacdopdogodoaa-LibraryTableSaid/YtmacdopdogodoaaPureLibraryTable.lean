/- The law LibraryTable holds: each operator has the unit of the reference at each width, others are refused; no condition. -/
import Derived.Test.YtmacdopdogodoaaPAllx8
import Derived.Test.YtmacdopdogodoaaPureC
namespace Go.Proofs.Ytmacdopdogodoaa.Pure
open Go.RowKit Go.Proofs.Ytmacdopdogodoaa.PAll Go.Proofs.YtmacdopdogodoaaW.PrintWords Go.Proofs.YtmacdopdogodoaaW.PrintLast
def same12 (n w : Nat) : Bool := match library_Of.f 12 (n : Int) (w : Int), jacquardref27_Of.f 80 (n : Int) (w : Int) with
  | some (a, b, c, d, e, f, g), some (a', b', c', d', e', f') => g == 0 && (a == a' && (b == b' && (c == c' && (d == d' && (e == e' && (f == f'))))))
  | _, _ => false
set_option maxRecDepth 100000 in
theorem sames : ∀ i : Fin 23, ∀ j : Fin 64, same12 (i.val + 2) (j.val + 1) = true := by decide +kernel
theorem LibraryTable : jacquardlaw27_LibraryTable.Pure := by
  intro n w hn hw
  refine Ev.rounds (g := fun k => jacquardlaw27_LibraryTable.f k n w) ?_
  refine Ev.bind awake_ok ?_
  simp only [if_true]
  have hhas : jacquardref27_Has.f n = some (decide (2 ≤ n ∧ n ≤ 24)) := by
    unfold jacquardref27_Has.f jacquardref01_IsBinary.f
    by_cases h1 : n ≥ 2
    · rw [if_pos h1]
      by_cases h2 : n ≤ 20
      · rw [decide_eq_true h2, decide_eq_true (show 2 ≤ n ∧ n ≤ 24 by omega)]
        rfl
      · rw [decide_eq_false h2]
        simp only [Option.bind_some]
        rw [if_neg Bool.false_ne_true, if_pos (show n ≥ 21 by omega)]
        congr 1
        simp only [decide_eq_decide]
        omega
    · rw [if_neg h1, decide_eq_false (show ¬ (2 ≤ n ∧ n ≤ 24) by omega)]
      simp only [Option.bind_some]
      rw [if_neg Bool.false_ne_true, if_neg (by omega)]
  have hright : jacquardref01_Right.f w = some (decide (1 ≤ w ∧ w ≤ 64)) := by
    unfold jacquardref01_Right.f
    by_cases h1 : w ≥ 1
    · rw [if_pos h1]
      congr 1
      simp only [decide_eq_decide]
      omega
    · rw [if_neg h1, decide_eq_false (show ¬ (1 ≤ w ∧ w ≤ 64) by omega)]
  rw [hhas, hright]
  simp only [Option.bind_some]
  by_cases h : 2 ≤ n ∧ n ≤ 24
  · rw [decide_eq_true h]
    simp only [if_true]
    by_cases h' : 1 ≤ w ∧ w ≤ 64
    · rw [decide_eq_true h']
      simp only [if_true]
      have hs := sames ⟨(n - 2).toNat, by omega⟩ ⟨(w - 1).toNat, by omega⟩
      have e1 : (((n - 2).toNat + 2 : Nat) : Int) = n := by omega
      have e2 : (((w - 1).toNat + 1 : Nat) : Int) = w := by omega
      unfold same12 at hs
      simp only [e1, e2] at hs
      split at hs
      · rename_i a b c d e f g a' b' c' d' e' f' h1 h2
        have hu : Ev (fun k => library_Of.f k n w) (a, b, c, d, e, f, g) := Ev.of (fun k => library_Of.mono _ _ k) h1
        have hv : Ev (fun k => jacquardref27_Of.f k n w) (a', b', c', d', e', f') := Ev.of (fun k => jacquardref27_Of.mono _ _ k) h2
        simp only [Bool.and_eq_true, beq_iff_eq] at hs
        obtain ⟨rfl, rfl, rfl, rfl, rfl, rfl, rfl⟩ := hs
        refine Ev.bind hu ?_
        simp only [if_true]
        refine Ev.bind hv ?_
        simp only [beq_self_eq_true, Bool.and_self]
        exact Ev.now _
      · cases hs
    · rw [decide_eq_false h']
      simp only [Bool.false_eq_true, if_false]
      refine Ev.bind (of_width n w (by omega) (by omega) (by omega)) ?_
      exact Ev.now _
  · rw [decide_eq_false h]
    simp only [Bool.false_eq_true, if_false]
    refine Ev.bind (of_arg n w (by omega)) ?_
    exact Ev.now _
end Go.Proofs.Ytmacdopdogodoaa.Pure
