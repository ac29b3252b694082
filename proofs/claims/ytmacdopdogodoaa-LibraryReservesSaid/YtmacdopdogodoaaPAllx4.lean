-- Written for this claim by a program of this session (wip/print2 in its repo), which runs a changed printer. Lean checks it.
import Derived.Test.YtmacdopdogodoaaPAllx0
import Derived.Test.YtmacdopdogodoaaPAllx3
import Derived.Test.YtmacdopdogodoaaPAllx4a
import Derived.Test.YtmacdopdogodoaaPAllx4b
namespace Go.Proofs.Ytmacdopdogodoaa.PAll
open Go.RowKit Go.Proofs.YtmacdopdogodoaaW.PrintWords Go.Proofs.YtmacdopdogodoaaW.PrintLast Go.Proofs.YtmacdopdogodoaaW.PrintMore
attribute [local go_sem] max2_int min2_int max_two min_two max_three min_three max_four min_four   -- for this text's walks alone
set_option linter.unusedVariables false
set_option linter.unusedSimpArgs false

set_option maxRecDepth 100000 in
theorem library_Of.calls (k : Nat) (a0 : Int) (a1 : Int) (r1 : Int) (r2 : Int) (r3 : Int) (r4 : Int) (r5 : Int) (r6 : Int) (r7 : Int) (w : World) (h : library_Of.f k a0 a1 = some (r1, r2, r3, r4, r5, r6, r7)) :
    Calls Try.prog 11 #[.int .i64 a0, .int .i64 a1] w fun e w' => e = .returned (.tuple #[.agg #[.int .i64 r1, .int .i64 r2, .int .i64 r3, .int .i64 r4, .int .i64 r5, .int .i64 r6], .int .i64 r7]) ∧ Below w.heap.size w w' := by
  have h8 : library_Of.f (k + 8) a0 a1 = some (r1, r2, r3, r4, r5, r6, r7) := at_rounds (fun k => library_Of.mono a0 a1 k) (Nat.le_add_right k 8) h
  clear h
  by_cases hA : a0 ≤ 1
  · have e : library_Of.f (k + 8) a0 a1 = some (0, 0, 0, 0, 0, 0, 1) := by
      simp only [library_Of.f]
      rw [if_pos hA]
      rfl
    rw [e] at h8
    simp only [Option.some.injEq, Prod.mk.injEq] at h8
    obtain ⟨rfl, rfl, rfl, rfl, rfl, rfl, rfl⟩ := h8
    exact library_Of.argLo a0 a1 (decide_eq_true hA) w
  by_cases hB : a0 ≥ 25
  · have e : library_Of.f (k + 8) a0 a1 = some (0, 0, 0, 0, 0, 0, 1) := by
      simp only [library_Of.f]
      rw [if_neg hA, decide_eq_true hB]
      rfl
    rw [e] at h8
    simp only [Option.some.injEq, Prod.mk.injEq] at h8
    obtain ⟨rfl, rfl, rfl, rfl, rfl, rfl, rfl⟩ := h8
    exact library_Of.argHi a0 a1 (decide_eq_false hA) (decide_eq_true hB) w
  have e0 : library_Of.f (k + 8) a0 a1 = if a1 < 1 then (library_Of.j1 (k + 7) a0 a1 true) else (library_Of.j1 (k + 7) a0 a1 (decide (a1 > 64))) := by
    simp only [library_Of.f]
    rw [if_neg hA, decide_eq_false hB]
    rfl
  rw [e0] at h8
  clear e0
  by_cases hC : a1 < 1
  · rw [if_pos hC] at h8
    have e : library_Of.j1 (k + 7) a0 a1 true = some (0, 0, 0, 0, 0, 0, 13) := rfl
    rw [e] at h8
    simp only [Option.some.injEq, Prod.mk.injEq] at h8
    obtain ⟨rfl, rfl, rfl, rfl, rfl, rfl, rfl⟩ := h8
    exact library_Of.widthLo a0 a1 (decide_eq_false hA) (decide_eq_false hB) (decide_eq_true hC) w
  rw [if_neg hC] at h8
  by_cases hD : a1 > 64
  · rw [decide_eq_true hD] at h8
    have e : library_Of.j1 (k + 7) a0 a1 true = some (0, 0, 0, 0, 0, 0, 13) := rfl
    rw [e] at h8
    simp only [Option.some.injEq, Prod.mk.injEq] at h8
    obtain ⟨rfl, rfl, rfl, rfl, rfl, rfl, rfl⟩ := h8
    exact library_Of.widthHi a0 a1 (decide_eq_false hA) (decide_eq_false hB) (decide_eq_false hC) (decide_eq_true hD) w
  rw [decide_eq_false hD] at h8
  have c1 := decide_eq_false hC
  have c2 := decide_eq_false hD
  have hn : a0 = 2 ∨ a0 = 3 ∨ a0 = 4 ∨ a0 = 5 ∨ a0 = 6 ∨ a0 = 7 ∨ a0 = 8 ∨ a0 = 9 ∨ a0 = 10 ∨ a0 = 11 ∨ a0 = 12 ∨ a0 = 13 ∨ a0 = 14 ∨ a0 = 15 ∨ a0 = 16 ∨ a0 = 17 ∨ a0 = 18 ∨ a0 = 19 ∨ a0 = 20 ∨ a0 = 21 ∨ a0 = 22 ∨ a0 = 23 ∨ a0 = 24 := by omega
  rcases hn with rfl | rfl | rfl | rfl | rfl | rfl | rfl | rfl | rfl | rfl | rfl | rfl | rfl | rfl | rfl | rfl | rfl | rfl | rfl | rfl | rfl | rfl | rfl
  · have e : library_Of.j1 (k + 7) 2 a1 false = (library_Levels.f (k + 6) a1).bind fun t104 => (library_Levels.f (k + 6) (wrap64 (a1 + 1))).bind fun t105 => some (0, a1, (wrap64 (40 + (wrap64 (40 * t104)))), 0, 0, (wrap64 ((wrap64 (3 * a1)) + (wrap64 ((wrap64 (3 * a1)) * t104)))), 0) := rfl
    rw [e] at h8
    obtain ⟨t104, ht, h8⟩ := Option.bind_eq_some_iff.1 h8
    obtain ⟨t105, hs, h8⟩ := Option.bind_eq_some_iff.1 h8
    simp only [Option.some.injEq, Prod.mk.injEq] at h8
    obtain ⟨rfl, rfl, rfl, rfl, rfl, rfl, rfl⟩ := h8
    exact library_Of.op2 (k + 6) a1 t104 t105 ht hs c1 c2 w
  · have e : library_Of.j1 (k + 7) 3 a1 false = (library_Levels.f (k + 6) a1).bind fun t104 => (library_Levels.f (k + 6) (wrap64 (a1 + 1))).bind fun t105 => some (0, a1, (wrap64 (50 + (wrap64 (40 * t104)))), 0, 0, (wrap64 ((wrap64 (4 * a1)) + (wrap64 ((wrap64 (3 * a1)) * t104)))), 0) := rfl
    rw [e] at h8
    obtain ⟨t104, ht, h8⟩ := Option.bind_eq_some_iff.1 h8
    obtain ⟨t105, hs, h8⟩ := Option.bind_eq_some_iff.1 h8
    simp only [Option.some.injEq, Prod.mk.injEq] at h8
    obtain ⟨rfl, rfl, rfl, rfl, rfl, rfl, rfl⟩ := h8
    exact library_Of.op3 (k + 6) a1 t104 t105 ht hs c1 c2 w
  · have e : library_Of.j1 (k + 7) 4 a1 false = (library_Levels.f (k + 6) a1).bind fun t104 => (library_Levels.f (k + 6) (wrap64 (a1 + 1))).bind fun t105 => some (1, a1, 0, (wrap64 (1 + (wrap64 (Int.tdiv (wrap64 (a1 + 15)) 16)))), 1, (wrap64 ((wrap64 (6 * a1)) * a1)), 0) := rfl
    rw [e] at h8
    obtain ⟨t104, ht, h8⟩ := Option.bind_eq_some_iff.1 h8
    obtain ⟨t105, hs, h8⟩ := Option.bind_eq_some_iff.1 h8
    simp only [Option.some.injEq, Prod.mk.injEq] at h8
    obtain ⟨rfl, rfl, rfl, rfl, rfl, rfl, rfl⟩ := h8
    exact library_Of.op4 (k + 6) a1 t104 t105 ht hs c1 c2 w
  · have e : library_Of.j1 (k + 7) 5 a1 false = (library_Levels.f (k + 6) a1).bind fun t104 => (library_Levels.f (k + 6) (wrap64 (a1 + 1))).bind fun t105 => some ((wrap64 ((wrap64 (2 + 5)) - 5)), a1, 0, (wrap64 (2 + (wrap64 (Int.tdiv (wrap64 (a1 + 7)) 8)))), (wrap64 (1 + (wrap64 (Int.tdiv (wrap64 (a1 + 15)) 16)))), (wrap64 ((wrap64 (8 * a1)) * a1)), 0) := rfl
    rw [e] at h8
    obtain ⟨t104, ht, h8⟩ := Option.bind_eq_some_iff.1 h8
    obtain ⟨t105, hs, h8⟩ := Option.bind_eq_some_iff.1 h8
    simp only [Option.some.injEq, Prod.mk.injEq] at h8
    obtain ⟨rfl, rfl, rfl, rfl, rfl, rfl, rfl⟩ := h8
    rw [show wrap64 ((wrap64 (2 + 5)) - 5) = 2 by decide +kernel]
    exact library_Of.op5 (k + 6) a1 t104 t105 ht hs c1 c2 w
  · have e : library_Of.j1 (k + 7) 6 a1 false = (library_Levels.f (k + 6) a1).bind fun t104 => (library_Levels.f (k + 6) (wrap64 (a1 + 1))).bind fun t105 => some ((wrap64 ((wrap64 (2 + 6)) - 5)), a1, 0, (wrap64 (2 + (wrap64 (Int.tdiv (wrap64 (a1 + 7)) 8)))), (wrap64 (1 + (wrap64 (Int.tdiv (wrap64 (a1 + 15)) 16)))), (wrap64 ((wrap64 (8 * a1)) * a1)), 0) := rfl
    rw [e] at h8
    obtain ⟨t104, ht, h8⟩ := Option.bind_eq_some_iff.1 h8
    obtain ⟨t105, hs, h8⟩ := Option.bind_eq_some_iff.1 h8
    simp only [Option.some.injEq, Prod.mk.injEq] at h8
    obtain ⟨rfl, rfl, rfl, rfl, rfl, rfl, rfl⟩ := h8
    rw [show wrap64 ((wrap64 (2 + 6)) - 5) = 3 by decide +kernel]
    exact library_Of.op6 (k + 6) a1 t104 t105 ht hs c1 c2 w
  · have e : library_Of.j1 (k + 7) 7 a1 false = (library_Levels.f (k + 6) a1).bind fun t104 => (library_Levels.f (k + 6) (wrap64 (a1 + 1))).bind fun t105 => some ((wrap64 ((wrap64 (2 + 7)) - 5)), a1, 0, (wrap64 (2 + (wrap64 (Int.tdiv (wrap64 (a1 + 7)) 8)))), (wrap64 (1 + (wrap64 (Int.tdiv (wrap64 (a1 + 15)) 16)))), (wrap64 ((wrap64 (8 * a1)) * a1)), 0) := rfl
    rw [e] at h8
    obtain ⟨t104, ht, h8⟩ := Option.bind_eq_some_iff.1 h8
    obtain ⟨t105, hs, h8⟩ := Option.bind_eq_some_iff.1 h8
    simp only [Option.some.injEq, Prod.mk.injEq] at h8
    obtain ⟨rfl, rfl, rfl, rfl, rfl, rfl, rfl⟩ := h8
    rw [show wrap64 ((wrap64 (2 + 7)) - 5) = 4 by decide +kernel]
    exact library_Of.op7 (k + 6) a1 t104 t105 ht hs c1 c2 w
  · have e : library_Of.j1 (k + 7) 8 a1 false = (library_Levels.f (k + 6) a1).bind fun t104 => (library_Levels.f (k + 6) (wrap64 (a1 + 1))).bind fun t105 => some ((wrap64 ((wrap64 (2 + 8)) - 5)), a1, 0, (wrap64 (2 + (wrap64 (Int.tdiv (wrap64 (a1 + 7)) 8)))), (wrap64 (1 + (wrap64 (Int.tdiv (wrap64 (a1 + 15)) 16)))), (wrap64 ((wrap64 (8 * a1)) * a1)), 0) := rfl
    rw [e] at h8
    obtain ⟨t104, ht, h8⟩ := Option.bind_eq_some_iff.1 h8
    obtain ⟨t105, hs, h8⟩ := Option.bind_eq_some_iff.1 h8
    simp only [Option.some.injEq, Prod.mk.injEq] at h8
    obtain ⟨rfl, rfl, rfl, rfl, rfl, rfl, rfl⟩ := h8
    rw [show wrap64 ((wrap64 (2 + 8)) - 5) = 5 by decide +kernel]
    exact library_Of.op8 (k + 6) a1 t104 t105 ht hs c1 c2 w
  · have e : library_Of.j1 (k + 7) 9 a1 false = (library_Levels.f (k + 6) a1).bind fun t104 => (library_Levels.f (k + 6) (wrap64 (a1 + 1))).bind fun t105 => some (0, a1, 20, 0, 0, a1, 0) := rfl
    rw [e] at h8
    obtain ⟨t104, ht, h8⟩ := Option.bind_eq_some_iff.1 h8
    obtain ⟨t105, hs, h8⟩ := Option.bind_eq_some_iff.1 h8
    simp only [Option.some.injEq, Prod.mk.injEq] at h8
    obtain ⟨rfl, rfl, rfl, rfl, rfl, rfl, rfl⟩ := h8
    exact library_Of.op9 (k + 6) a1 t104 t105 ht hs c1 c2 w
  · have e : library_Of.j1 (k + 7) 10 a1 false = (library_Levels.f (k + 6) a1).bind fun t104 => (library_Levels.f (k + 6) (wrap64 (a1 + 1))).bind fun t105 => some (0, a1, 20, 0, 0, a1, 0) := rfl
    rw [e] at h8
    obtain ⟨t104, ht, h8⟩ := Option.bind_eq_some_iff.1 h8
    obtain ⟨t105, hs, h8⟩ := Option.bind_eq_some_iff.1 h8
    simp only [Option.some.injEq, Prod.mk.injEq] at h8
    obtain ⟨rfl, rfl, rfl, rfl, rfl, rfl, rfl⟩ := h8
    exact library_Of.op10 (k + 6) a1 t104 t105 ht hs c1 c2 w
  · have e : library_Of.j1 (k + 7) 11 a1 false = (library_Levels.f (k + 6) a1).bind fun t104 => (library_Levels.f (k + 6) (wrap64 (a1 + 1))).bind fun t105 => some (0, a1, 20, 0, 0, a1, 0) := rfl
    rw [e] at h8
    obtain ⟨t104, ht, h8⟩ := Option.bind_eq_some_iff.1 h8
    obtain ⟨t105, hs, h8⟩ := Option.bind_eq_some_iff.1 h8
    simp only [Option.some.injEq, Prod.mk.injEq] at h8
    obtain ⟨rfl, rfl, rfl, rfl, rfl, rfl, rfl⟩ := h8
    exact library_Of.op11 (k + 6) a1 t104 t105 ht hs c1 c2 w
  · have e : library_Of.j1 (k + 7) 12 a1 false = (library_Levels.f (k + 6) a1).bind fun t104 => (library_Levels.f (k + 6) (wrap64 (a1 + 1))).bind fun t105 => some (0, a1, (wrap64 (30 + (wrap64 (40 * t104)))), 0, 0, (wrap64 ((wrap64 (2 * a1)) + (wrap64 ((wrap64 (3 * a1)) * t104)))), 0) := rfl
    rw [e] at h8
    obtain ⟨t104, ht, h8⟩ := Option.bind_eq_some_iff.1 h8
    obtain ⟨t105, hs, h8⟩ := Option.bind_eq_some_iff.1 h8
    simp only [Option.some.injEq, Prod.mk.injEq] at h8
    obtain ⟨rfl, rfl, rfl, rfl, rfl, rfl, rfl⟩ := h8
    exact library_Of.op12 (k + 6) a1 t104 t105 ht hs c1 c2 w
  · have e : library_Of.j1 (k + 7) 13 a1 false = (library_Levels.f (k + 6) a1).bind fun t104 => (library_Levels.f (k + 6) (wrap64 (a1 + 1))).bind fun t105 => some (0, a1, (wrap64 (30 + (wrap64 (40 * t104)))), 0, 0, (wrap64 ((wrap64 (2 * a1)) + (wrap64 ((wrap64 (3 * a1)) * t104)))), 0) := rfl
    rw [e] at h8
    obtain ⟨t104, ht, h8⟩ := Option.bind_eq_some_iff.1 h8
    obtain ⟨t105, hs, h8⟩ := Option.bind_eq_some_iff.1 h8
    simp only [Option.some.injEq, Prod.mk.injEq] at h8
    obtain ⟨rfl, rfl, rfl, rfl, rfl, rfl, rfl⟩ := h8
    exact library_Of.op13 (k + 6) a1 t104 t105 ht hs c1 c2 w
  · have e : library_Of.j1 (k + 7) 14 a1 false = (library_Levels.f (k + 6) a1).bind fun t104 => (library_Levels.f (k + 6) (wrap64 (a1 + 1))).bind fun t105 => some (0, a1, (wrap64 (50 + (wrap64 (40 * t104)))), 0, 0, (wrap64 ((wrap64 (4 * a1)) + (wrap64 ((wrap64 (3 * a1)) * t104)))), 0) := rfl
    rw [e] at h8
    obtain ⟨t104, ht, h8⟩ := Option.bind_eq_some_iff.1 h8
    obtain ⟨t105, hs, h8⟩ := Option.bind_eq_some_iff.1 h8
    simp only [Option.some.injEq, Prod.mk.injEq] at h8
    obtain ⟨rfl, rfl, rfl, rfl, rfl, rfl, rfl⟩ := h8
    exact library_Of.op14 (k + 6) a1 t104 t105 ht hs c1 c2 w
  · have e : library_Of.j1 (k + 7) 15 a1 false = (library_Levels.f (k + 6) a1).bind fun t104 => (library_Levels.f (k + 6) (wrap64 (a1 + 1))).bind fun t105 => some (0, a1, (wrap64 (30 + (wrap64 (20 * t104)))), 0, 0, (wrap64 (2 * a1)), 0) := rfl
    rw [e] at h8
    obtain ⟨t104, ht, h8⟩ := Option.bind_eq_some_iff.1 h8
    obtain ⟨t105, hs, h8⟩ := Option.bind_eq_some_iff.1 h8
    simp only [Option.some.injEq, Prod.mk.injEq] at h8
    obtain ⟨rfl, rfl, rfl, rfl, rfl, rfl, rfl⟩ := h8
    exact library_Of.op15 (k + 6) a1 t104 t105 ht hs c1 c2 w
  · have e : library_Of.j1 (k + 7) 16 a1 false = (library_Levels.f (k + 6) a1).bind fun t104 => (library_Levels.f (k + 6) (wrap64 (a1 + 1))).bind fun t105 => some (0, a1, (wrap64 (30 + (wrap64 (20 * t104)))), 0, 0, (wrap64 (2 * a1)), 0) := rfl
    rw [e] at h8
    obtain ⟨t104, ht, h8⟩ := Option.bind_eq_some_iff.1 h8
    obtain ⟨t105, hs, h8⟩ := Option.bind_eq_some_iff.1 h8
    simp only [Option.some.injEq, Prod.mk.injEq] at h8
    obtain ⟨rfl, rfl, rfl, rfl, rfl, rfl, rfl⟩ := h8
    exact library_Of.op16 (k + 6) a1 t104 t105 ht hs c1 c2 w
  · have e : library_Of.j1 (k + 7) 17 a1 false = (library_Levels.f (k + 6) a1).bind fun t104 => (library_Levels.f (k + 6) (wrap64 (a1 + 1))).bind fun t105 => some (0, a1, (wrap64 (40 + (wrap64 (40 * t105)))), 0, 0, (wrap64 ((wrap64 (4 * a1)) + (wrap64 ((wrap64 (3 * a1)) * t105)))), 0) := rfl
    rw [e] at h8
    obtain ⟨t104, ht, h8⟩ := Option.bind_eq_some_iff.1 h8
    obtain ⟨t105, hs, h8⟩ := Option.bind_eq_some_iff.1 h8
    simp only [Option.some.injEq, Prod.mk.injEq] at h8
    obtain ⟨rfl, rfl, rfl, rfl, rfl, rfl, rfl⟩ := h8
    exact library_Of.op17 (k + 6) a1 t104 t105 ht hs c1 c2 w
  · have e : library_Of.j1 (k + 7) 18 a1 false = (library_Levels.f (k + 6) a1).bind fun t104 => (library_Levels.f (k + 6) (wrap64 (a1 + 1))).bind fun t105 => some (0, a1, (wrap64 (40 + (wrap64 (40 * t105)))), 0, 0, (wrap64 ((wrap64 (4 * a1)) + (wrap64 ((wrap64 (3 * a1)) * t105)))), 0) := rfl
    rw [e] at h8
    obtain ⟨t104, ht, h8⟩ := Option.bind_eq_some_iff.1 h8
    obtain ⟨t105, hs, h8⟩ := Option.bind_eq_some_iff.1 h8
    simp only [Option.some.injEq, Prod.mk.injEq] at h8
    obtain ⟨rfl, rfl, rfl, rfl, rfl, rfl, rfl⟩ := h8
    exact library_Of.op18 (k + 6) a1 t104 t105 ht hs c1 c2 w
  · have e : library_Of.j1 (k + 7) 19 a1 false = (library_Levels.f (k + 6) a1).bind fun t104 => (library_Levels.f (k + 6) (wrap64 (a1 + 1))).bind fun t105 => some (0, a1, (wrap64 (50 + (wrap64 (40 * t105)))), 0, 0, (wrap64 ((wrap64 ((wrap64 (4 * a1)) + (wrap64 ((wrap64 (3 * a1)) * t105)))) + 2)), 0) := rfl
    rw [e] at h8
    obtain ⟨t104, ht, h8⟩ := Option.bind_eq_some_iff.1 h8
    obtain ⟨t105, hs, h8⟩ := Option.bind_eq_some_iff.1 h8
    simp only [Option.some.injEq, Prod.mk.injEq] at h8
    obtain ⟨rfl, rfl, rfl, rfl, rfl, rfl, rfl⟩ := h8
    exact library_Of.op19 (k + 6) a1 t104 t105 ht hs c1 c2 w
  · have e : library_Of.j1 (k + 7) 20 a1 false = (library_Levels.f (k + 6) a1).bind fun t104 => (library_Levels.f (k + 6) (wrap64 (a1 + 1))).bind fun t105 => some (0, a1, (wrap64 (50 + (wrap64 (40 * t105)))), 0, 0, (wrap64 ((wrap64 ((wrap64 (4 * a1)) + (wrap64 ((wrap64 (3 * a1)) * t105)))) + 2)), 0) := rfl
    rw [e] at h8
    obtain ⟨t104, ht, h8⟩ := Option.bind_eq_some_iff.1 h8
    obtain ⟨t105, hs, h8⟩ := Option.bind_eq_some_iff.1 h8
    simp only [Option.some.injEq, Prod.mk.injEq] at h8
    obtain ⟨rfl, rfl, rfl, rfl, rfl, rfl, rfl⟩ := h8
    exact library_Of.op20 (k + 6) a1 t104 t105 ht hs c1 c2 w
  · have e : library_Of.j1 (k + 7) 21 a1 false = (library_Levels.f (k + 6) a1).bind fun t104 => (library_Levels.f (k + 6) (wrap64 (a1 + 1))).bind fun t105 => some (0, a1, 50, 0, 0, (wrap64 ((wrap64 (3 * a1)) + 1)), 0) := rfl
    rw [e] at h8
    obtain ⟨t104, ht, h8⟩ := Option.bind_eq_some_iff.1 h8
    obtain ⟨t105, hs, h8⟩ := Option.bind_eq_some_iff.1 h8
    simp only [Option.some.injEq, Prod.mk.injEq] at h8
    obtain ⟨rfl, rfl, rfl, rfl, rfl, rfl, rfl⟩ := h8
    exact library_Of.op21 (k + 6) a1 t104 t105 ht hs c1 c2 w
  · have e : library_Of.j1 (k + 7) 22 a1 false = (library_Levels.f (k + 6) a1).bind fun t104 => (library_Levels.f (k + 6) (wrap64 (a1 + 1))).bind fun t105 => some (0, a1, 0, 0, 0, 0, 0) := rfl
    rw [e] at h8
    obtain ⟨t104, ht, h8⟩ := Option.bind_eq_some_iff.1 h8
    obtain ⟨t105, hs, h8⟩ := Option.bind_eq_some_iff.1 h8
    simp only [Option.some.injEq, Prod.mk.injEq] at h8
    obtain ⟨rfl, rfl, rfl, rfl, rfl, rfl, rfl⟩ := h8
    exact library_Of.op22 (k + 6) a1 t104 t105 ht hs c1 c2 w
  · have e : library_Of.j1 (k + 7) 23 a1 false = (library_Levels.f (k + 6) a1).bind fun t104 => (library_Levels.f (k + 6) (wrap64 (a1 + 1))).bind fun t105 => some (0, a1, 0, 0, 0, 0, 0) := rfl
    rw [e] at h8
    obtain ⟨t104, ht, h8⟩ := Option.bind_eq_some_iff.1 h8
    obtain ⟨t105, hs, h8⟩ := Option.bind_eq_some_iff.1 h8
    simp only [Option.some.injEq, Prod.mk.injEq] at h8
    obtain ⟨rfl, rfl, rfl, rfl, rfl, rfl, rfl⟩ := h8
    exact library_Of.op23 (k + 6) a1 t104 t105 ht hs c1 c2 w
  · have e : library_Of.j1 (k + 7) 24 a1 false = (library_Levels.f (k + 6) a1).bind fun t104 => (library_Levels.f (k + 6) (wrap64 (a1 + 1))).bind fun t105 => some (0, a1, 0, 0, 0, 0, 0) := rfl
    rw [e] at h8
    obtain ⟨t104, ht, h8⟩ := Option.bind_eq_some_iff.1 h8
    obtain ⟨t105, hs, h8⟩ := Option.bind_eq_some_iff.1 h8
    simp only [Option.some.injEq, Prod.mk.injEq] at h8
    obtain ⟨rfl, rfl, rfl, rfl, rfl, rfl, rfl⟩ := h8
    exact library_Of.op24 (k + 6) a1 t104 t105 ht hs c1 c2 w

end Go.Proofs.Ytmacdopdogodoaa.PAll
