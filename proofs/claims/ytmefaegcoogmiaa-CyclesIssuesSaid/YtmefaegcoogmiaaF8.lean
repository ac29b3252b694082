-- Written for this claim by programs of this session (wip/print2 in its repo: a changed printer, a shortener, a packer). Lean checks it.
import Derived.Test.YtmefaegcoogmiaaP0
import Derived.Test.YtmefaegcoogmiaaF10
import Derived.Test.YtmefaegcoogmiaaF12
import Derived.Test.YtmefaegcoogmiaaF14
import Derived.Test.YtmefaegcoogmiaaF15
import Derived.Test.YtmefaegcoogmiaaF22
import Derived.Test.YtmefaegcoogmiaaF9
import Derived.Test.YtmefaegcoogmiaaMk
namespace Go.Proofs.Ytmefaegcoogmiaa.PAll
open Go.RowKit Go.Proofs.YtmefaegcoogmiaaW.PrintWords Go.Proofs.YtmefaegcoogmiaaW.PrintLast Go.Proofs.YtmefaegcoogmiaaW.PrintMore
attribute [local go_sem] max2_int min2_int max_two min_two max_three min_three max_four min_four   -- for this text's walks alone
set_option linter.unusedVariables false
set_option linter.unusedSimpArgs false

/-! ### jacquardlaw36_CyclesIssues: function 8 -/
mutual
def jacquardlaw36_CyclesIssues.j0 : Nat → List (S73) → List Int → Bool → List Int → List (S73) → List (S73) → List Int → List (S80) → Option (Bool)
  | 0, _, _, _, _, _, _, _, _ => none
  | k + 1, x1, x2, x21, x392000, x392001, x392002, x392003, x392004 => if x21 = true then ((jacquardlaw36_awake.f k).bind fun t394 => (some t394)) else ((jacquardref27_Func.f k x392000 x392001 x392002 x392003 x392004).bind fun bt395 => ((jacquardref36_Scheds.f k bt395.1 bt395.2.1 bt395.2.2.1 bt395.2.2.2.1 bt395.2.2.2.2.1 bt395.2.2.2.2.2 x1).bind fun t412 => ((jacquardref36_Walk.f k bt395.1 bt395.2.1 bt395.2.2.1 bt395.2.2.2.1 bt395.2.2.2.2.1 bt395.2.2.2.2.2 x2).bind fun t415 => ((cycles_Issues.f k bt395.1 bt395.2.1 bt395.2.2.1 bt395.2.2.2.1 bt395.2.2.2.2.1 bt395.2.2.2.2.2 t412 t415).bind fun bt418 => (if bt418.2 = 0 then (if (bt418.1.length : Int) = (t415.length : Int) then (if 0 < (bt418.1.length : Int) then (jacquardlaw36_CyclesIssues.j1 k t412 t415 bt418.1 ((rd bt418.1 0) != 1) bt395.1 bt395.2.1 bt395.2.2.1 bt395.2.2.2.1 bt395.2.2.2.2.1 bt395.2.2.2.2.2) else (none)) else (jacquardlaw36_CyclesIssues.j1 k t412 t415 bt418.1 true bt395.1 bt395.2.1 bt395.2.2.1 bt395.2.2.2.1 bt395.2.2.2.2.1 bt395.2.2.2.2.2)) else (jacquardlaw36_CyclesIssues.j1 k t412 t415 bt418.1 true bt395.1 bt395.2.1 bt395.2.2.1 bt395.2.2.2.1 bt395.2.2.2.2.1 bt395.2.2.2.2.2))))))
def jacquardlaw36_CyclesIssues.j1 : Nat → List (S49) → List Int → List Int → Bool → ByteArray → List Int → List (S75) → List (S77) → List Int → List (S66) → Option (Bool)
  | 0, _, _, _, _, _, _, _, _, _, _ => none
  | k + 1, x8, x9, x10, x52, x412000, x412001, x412002, x412003, x412004, x412005 => if x52 = true then (some false) else (jacquardlaw36_CyclesIssues.l0 k x8 x9 x10 1 x412000 x412001 x412002 x412003 x412004 x412005)
def jacquardlaw36_CyclesIssues.l0 : Nat → List (S49) → List Int → List Int → Int → ByteArray → List Int → List (S75) → List (S77) → List Int → List (S66) → Option (Bool)
  | 0, _, _, _, _, _, _, _, _, _, _ => none
  | k + 1, x8, x9, x10, x12, x412000, x412001, x412002, x412003, x412004, x412005 => if x12 < (x9.length : Int) then (if 0 ≤ (wrap64 (x12 - 1)) then (if (wrap64 (x12 - 1)) < (x9.length : Int) then (if 0 ≤ (rd x9 (wrap64 (x12 - 1))) then (if (rd x9 (wrap64 (x12 - 1))) < (x8.length : Int) then (if 0 ≤ x12 then (if (rd x9 x12) = (rd x9 (wrap64 (x12 - 1))) then ((cycles_Self.f k x412000 x412001 x412002 x412003 x412004 x412005 x8 (rd x9 x12)).bind fun t428 => (jacquardlaw36_CyclesIssues.j3 k x8 x9 x10 x12 ((rd_T49 x8 (rd x9 (wrap64 (x12 - 1)))).f1) (decide (t428 ≥ 0)) x412000 x412001 x412002 x412003 x412004 x412005)) else (jacquardlaw36_CyclesIssues.j3 k x8 x9 x10 x12 ((rd_T49 x8 (rd x9 (wrap64 (x12 - 1)))).f1) false x412000 x412001 x412002 x412003 x412004 x412005)) else (none)) else (none)) else (none)) else (none)) else (none)) else (some true)
def jacquardlaw36_CyclesIssues.j3 : Nat → List (S49) → List Int → List Int → Int → Int → Bool → ByteArray → List Int → List (S75) → List (S77) → List Int → List (S66) → Option (Bool)
  | 0, _, _, _, _, _, _, _, _, _, _, _, _ => none
  | k + 1, x8, x9, x10, x12, x13, x87, x412000, x412001, x412002, x412003, x412004, x412005 => if x87 = true then (if 0 ≤ x12 then (if x12 < (x9.length : Int) then (if 0 ≤ (rd x9 x12) then (if (rd x9 x12) < (x8.length : Int) then (if x12 < (x10.length : Int) then (if 0 ≤ (wrap64 (x12 - 1)) then (if (wrap64 (x12 - 1)) < (x10.length : Int) then (if (wrap64 ((rd x10 x12) - (rd x10 (wrap64 (x12 - 1))))) = ((rd_T49 x8 (rd x9 x12)).f0) then (jacquardlaw36_CyclesIssues.l0 k x8 x9 x10 (wrap64 (x12 + 1)) x412000 x412001 x412002 x412003 x412004 x412005) else (some false)) else (none)) else (none)) else (none)) else (none)) else (none)) else (none)) else (none)) else (if 0 ≤ x12 then (if x12 < (x10.length : Int) then (if 0 ≤ (wrap64 (x12 - 1)) then (if (wrap64 (x12 - 1)) < (x10.length : Int) then (if (wrap64 ((rd x10 x12) - (rd x10 (wrap64 (x12 - 1))))) = x13 then (jacquardlaw36_CyclesIssues.l0 k x8 x9 x10 (wrap64 (x12 + 1)) x412000 x412001 x412002 x412003 x412004 x412005) else (some false)) else (none)) else (none)) else (none)) else (none))
end
def jacquardlaw36_CyclesIssues.f (k : Nat) (l0_0 : List Int) (l0_1 : List (S73)) (l0_2 : List (S73)) (l0_3 : List Int) (l0_4 : List (S80)) (l1 : List (S73)) (l2 : List Int) : Option (Bool) := (jacquardlaw36_awake.f k).bind fun t392 => (if t392 = true then ((jacquardlaw36_few.f k l0_0 l0_1 l0_2 l0_3 l0_4 l2).bind fun t393 => (jacquardlaw36_CyclesIssues.j0 k l1 l2 (!t393) l0_0 l0_1 l0_2 l0_3 l0_4)) else (jacquardlaw36_CyclesIssues.j0 k l1 l2 true l0_0 l0_1 l0_2 l0_3 l0_4))
theorem jacquardlaw36_CyclesIssues.mono_l : ∀ k, (∀ y0 y1 y2 y3 y4 y5 y6 y7, LeO (jacquardlaw36_CyclesIssues.j0 k y0 y1 y2 y3 y4 y5 y6 y7) (jacquardlaw36_CyclesIssues.j0 (k + 1) y0 y1 y2 y3 y4 y5 y6 y7)) ∧ (∀ y0 y1 y2 y3 y4 y5 y6 y7 y8 y9, LeO (jacquardlaw36_CyclesIssues.j1 k y0 y1 y2 y3 y4 y5 y6 y7 y8 y9) (jacquardlaw36_CyclesIssues.j1 (k + 1) y0 y1 y2 y3 y4 y5 y6 y7 y8 y9)) ∧ (∀ y0 y1 y2 y3 y4 y5 y6 y7 y8 y9, LeO (jacquardlaw36_CyclesIssues.l0 k y0 y1 y2 y3 y4 y5 y6 y7 y8 y9) (jacquardlaw36_CyclesIssues.l0 (k + 1) y0 y1 y2 y3 y4 y5 y6 y7 y8 y9)) ∧ (∀ y0 y1 y2 y3 y4 y5 y6 y7 y8 y9 y10 y11, LeO (jacquardlaw36_CyclesIssues.j3 k y0 y1 y2 y3 y4 y5 y6 y7 y8 y9 y10 y11) (jacquardlaw36_CyclesIssues.j3 (k + 1) y0 y1 y2 y3 y4 y5 y6 y7 y8 y9 y10 y11))
  | 0 => ⟨fun _ _ _ _ _ _ _ _ r h => by simp [jacquardlaw36_CyclesIssues.j0] at h, fun _ _ _ _ _ _ _ _ _ _ r h => by simp [jacquardlaw36_CyclesIssues.j1] at h, fun _ _ _ _ _ _ _ _ _ _ r h => by simp [jacquardlaw36_CyclesIssues.l0] at h, fun _ _ _ _ _ _ _ _ _ _ _ _ r h => by simp [jacquardlaw36_CyclesIssues.j3] at h⟩
  | k + 1 => by
    obtain ⟨ih0, ih1, ih2, ih3⟩ := jacquardlaw36_CyclesIssues.mono_l k
    refine ⟨?_, ?_, ?_, ?_⟩
    · intro y0 y1 y2 y3 y4 y5 y6 y7
      unfold jacquardlaw36_CyclesIssues.j0
      repeat' first
      | (with_reducible exact ih0 _ _ _ _ _ _ _ _)
      | (with_reducible exact ih1 _ _ _ _ _ _ _ _ _ _)
      | (with_reducible exact ih2 _ _ _ _ _ _ _ _ _ _)
      | (with_reducible exact ih3 _ _ _ _ _ _ _ _ _ _ _ _)
      | (with_reducible exact cycles_Issues.mono _ _ _ _ _ _ _ _ _)
      | (with_reducible exact cycles_Self.mono _ _ _ _ _ _ _ _ _)
      | (with_reducible exact jacquardlaw36_awake.mono _)
      | (with_reducible exact jacquardlaw36_few.mono _ _ _ _ _ _ _)
      | (with_reducible exact jacquardref27_Func.mono _ _ _ _ _ _)
      | (with_reducible exact jacquardref36_Scheds.mono _ _ _ _ _ _ _ _)
      | (with_reducible exact jacquardref36_Walk.mono _ _ _ _ _ _ _ _)
      | (with_reducible exact LeO.refl _)
      | (with_reducible exact LeO.none _)
      | (with_reducible refine LeO.ite ?_ ?_)
      | (with_reducible refine LeO.bind ?_ (fun _ => ?_))
      | exact ih0 _ _ _ _ _ _ _ _
      | exact ih1 _ _ _ _ _ _ _ _ _ _
      | exact ih2 _ _ _ _ _ _ _ _ _ _
      | exact ih3 _ _ _ _ _ _ _ _ _ _ _ _
      | exact cycles_Issues.mono _ _ _ _ _ _ _ _ _
      | exact cycles_Self.mono _ _ _ _ _ _ _ _ _
      | exact jacquardlaw36_awake.mono _
      | exact jacquardlaw36_few.mono _ _ _ _ _ _ _
      | exact jacquardref27_Func.mono _ _ _ _ _ _
      | exact jacquardref36_Scheds.mono _ _ _ _ _ _ _ _
      | exact jacquardref36_Walk.mono _ _ _ _ _ _ _ _
      | exact LeO.none _
      | refine LeO.ite ?_ ?_
      | refine LeO.bind ?_ (fun _ => ?_)
    · intro y0 y1 y2 y3 y4 y5 y6 y7 y8 y9
      unfold jacquardlaw36_CyclesIssues.j1
      repeat' first
      | (with_reducible exact ih0 _ _ _ _ _ _ _ _)
      | (with_reducible exact ih1 _ _ _ _ _ _ _ _ _ _)
      | (with_reducible exact ih2 _ _ _ _ _ _ _ _ _ _)
      | (with_reducible exact ih3 _ _ _ _ _ _ _ _ _ _ _ _)
      | (with_reducible exact cycles_Issues.mono _ _ _ _ _ _ _ _ _)
      | (with_reducible exact cycles_Self.mono _ _ _ _ _ _ _ _ _)
      | (with_reducible exact jacquardlaw36_awake.mono _)
      | (with_reducible exact jacquardlaw36_few.mono _ _ _ _ _ _ _)
      | (with_reducible exact jacquardref27_Func.mono _ _ _ _ _ _)
      | (with_reducible exact jacquardref36_Scheds.mono _ _ _ _ _ _ _ _)
      | (with_reducible exact jacquardref36_Walk.mono _ _ _ _ _ _ _ _)
      | (with_reducible exact LeO.refl _)
      | (with_reducible exact LeO.none _)
      | (with_reducible refine LeO.ite ?_ ?_)
      | (with_reducible refine LeO.bind ?_ (fun _ => ?_))
      | exact ih0 _ _ _ _ _ _ _ _
      | exact ih1 _ _ _ _ _ _ _ _ _ _
      | exact ih2 _ _ _ _ _ _ _ _ _ _
      | exact ih3 _ _ _ _ _ _ _ _ _ _ _ _
      | exact cycles_Issues.mono _ _ _ _ _ _ _ _ _
      | exact cycles_Self.mono _ _ _ _ _ _ _ _ _
      | exact jacquardlaw36_awake.mono _
      | exact jacquardlaw36_few.mono _ _ _ _ _ _ _
      | exact jacquardref27_Func.mono _ _ _ _ _ _
      | exact jacquardref36_Scheds.mono _ _ _ _ _ _ _ _
      | exact jacquardref36_Walk.mono _ _ _ _ _ _ _ _
      | exact LeO.none _
      | refine LeO.ite ?_ ?_
      | refine LeO.bind ?_ (fun _ => ?_)
    · intro y0 y1 y2 y3 y4 y5 y6 y7 y8 y9
      unfold jacquardlaw36_CyclesIssues.l0
      repeat' first
      | (with_reducible exact ih0 _ _ _ _ _ _ _ _)
      | (with_reducible exact ih1 _ _ _ _ _ _ _ _ _ _)
      | (with_reducible exact ih2 _ _ _ _ _ _ _ _ _ _)
      | (with_reducible exact ih3 _ _ _ _ _ _ _ _ _ _ _ _)
      | (with_reducible exact cycles_Issues.mono _ _ _ _ _ _ _ _ _)
      | (with_reducible exact cycles_Self.mono _ _ _ _ _ _ _ _ _)
      | (with_reducible exact jacquardlaw36_awake.mono _)
      | (with_reducible exact jacquardlaw36_few.mono _ _ _ _ _ _ _)
      | (with_reducible exact jacquardref27_Func.mono _ _ _ _ _ _)
      | (with_reducible exact jacquardref36_Scheds.mono _ _ _ _ _ _ _ _)
      | (with_reducible exact jacquardref36_Walk.mono _ _ _ _ _ _ _ _)
      | (with_reducible exact LeO.refl _)
      | (with_reducible exact LeO.none _)
      | (with_reducible refine LeO.ite ?_ ?_)
      | (with_reducible refine LeO.bind ?_ (fun _ => ?_))
      | exact ih0 _ _ _ _ _ _ _ _
      | exact ih1 _ _ _ _ _ _ _ _ _ _
      | exact ih2 _ _ _ _ _ _ _ _ _ _
      | exact ih3 _ _ _ _ _ _ _ _ _ _ _ _
      | exact cycles_Issues.mono _ _ _ _ _ _ _ _ _
      | exact cycles_Self.mono _ _ _ _ _ _ _ _ _
      | exact jacquardlaw36_awake.mono _
      | exact jacquardlaw36_few.mono _ _ _ _ _ _ _
      | exact jacquardref27_Func.mono _ _ _ _ _ _
      | exact jacquardref36_Scheds.mono _ _ _ _ _ _ _ _
      | exact jacquardref36_Walk.mono _ _ _ _ _ _ _ _
      | exact LeO.none _
      | refine LeO.ite ?_ ?_
      | refine LeO.bind ?_ (fun _ => ?_)
    · intro y0 y1 y2 y3 y4 y5 y6 y7 y8 y9 y10 y11
      unfold jacquardlaw36_CyclesIssues.j3
      repeat' first
      | (with_reducible exact ih0 _ _ _ _ _ _ _ _)
      | (with_reducible exact ih1 _ _ _ _ _ _ _ _ _ _)
      | (with_reducible exact ih2 _ _ _ _ _ _ _ _ _ _)
      | (with_reducible exact ih3 _ _ _ _ _ _ _ _ _ _ _ _)
      | (with_reducible exact cycles_Issues.mono _ _ _ _ _ _ _ _ _)
      | (with_reducible exact cycles_Self.mono _ _ _ _ _ _ _ _ _)
      | (with_reducible exact jacquardlaw36_awake.mono _)
      | (with_reducible exact jacquardlaw36_few.mono _ _ _ _ _ _ _)
      | (with_reducible exact jacquardref27_Func.mono _ _ _ _ _ _)
      | (with_reducible exact jacquardref36_Scheds.mono _ _ _ _ _ _ _ _)
      | (with_reducible exact jacquardref36_Walk.mono _ _ _ _ _ _ _ _)
      | (with_reducible exact LeO.refl _)
      | (with_reducible exact LeO.none _)
      | (with_reducible refine LeO.ite ?_ ?_)
      | (with_reducible refine LeO.bind ?_ (fun _ => ?_))
      | exact ih0 _ _ _ _ _ _ _ _
      | exact ih1 _ _ _ _ _ _ _ _ _ _
      | exact ih2 _ _ _ _ _ _ _ _ _ _
      | exact ih3 _ _ _ _ _ _ _ _ _ _ _ _
      | exact cycles_Issues.mono _ _ _ _ _ _ _ _ _
      | exact cycles_Self.mono _ _ _ _ _ _ _ _ _
      | exact jacquardlaw36_awake.mono _
      | exact jacquardlaw36_few.mono _ _ _ _ _ _ _
      | exact jacquardref27_Func.mono _ _ _ _ _ _
      | exact jacquardref36_Scheds.mono _ _ _ _ _ _ _ _
      | exact jacquardref36_Walk.mono _ _ _ _ _ _ _ _
      | exact LeO.none _
      | refine LeO.ite ?_ ?_
      | refine LeO.bind ?_ (fun _ => ?_)
theorem jacquardlaw36_CyclesIssues.mono : ∀ a0 a1 a2 a3 a4 a5 a6 k, LeO (jacquardlaw36_CyclesIssues.f k a0 a1 a2 a3 a4 a5 a6) (jacquardlaw36_CyclesIssues.f (k + 1) a0 a1 a2 a3 a4 a5 a6) := by
 intro a0 a1 a2 a3 a4 a5 a6 k
 obtain ⟨ih0, ih1, ih2, ih3⟩ := jacquardlaw36_CyclesIssues.mono_l k
 unfold jacquardlaw36_CyclesIssues.f
 repeat' first
     | (with_reducible exact ih0 _ _ _ _ _ _ _ _)
     | (with_reducible exact ih1 _ _ _ _ _ _ _ _ _ _)
     | (with_reducible exact ih2 _ _ _ _ _ _ _ _ _ _)
     | (with_reducible exact ih3 _ _ _ _ _ _ _ _ _ _ _ _)
     | (with_reducible exact cycles_Issues.mono _ _ _ _ _ _ _ _ _)
     | (with_reducible exact cycles_Self.mono _ _ _ _ _ _ _ _ _)
     | (with_reducible exact jacquardlaw36_awake.mono _)
     | (with_reducible exact jacquardlaw36_few.mono _ _ _ _ _ _ _)
     | (with_reducible exact jacquardref27_Func.mono _ _ _ _ _ _)
     | (with_reducible exact jacquardref36_Scheds.mono _ _ _ _ _ _ _ _)
     | (with_reducible exact jacquardref36_Walk.mono _ _ _ _ _ _ _ _)
     | (with_reducible exact LeO.refl _)
     | (with_reducible exact LeO.none _)
     | (with_reducible refine LeO.ite ?_ ?_)
     | (with_reducible refine LeO.bind ?_ (fun _ => ?_))
     | exact ih0 _ _ _ _ _ _ _ _
     | exact ih1 _ _ _ _ _ _ _ _ _ _
     | exact ih2 _ _ _ _ _ _ _ _ _ _
     | exact ih3 _ _ _ _ _ _ _ _ _ _ _ _
     | exact cycles_Issues.mono _ _ _ _ _ _ _ _ _
     | exact cycles_Self.mono _ _ _ _ _ _ _ _ _
     | exact jacquardlaw36_awake.mono _
     | exact jacquardlaw36_few.mono _ _ _ _ _ _ _
     | exact jacquardref27_Func.mono _ _ _ _ _ _
     | exact jacquardref36_Scheds.mono _ _ _ _ _ _ _ _
     | exact jacquardref36_Walk.mono _ _ _ _ _ _ _ _
     | exact LeO.none _
     | refine LeO.ite ?_ ?_
     | refine LeO.bind ?_ (fun _ => ?_)
def jacquardlaw36_CyclesIssues.T13 : Bool × List (List Nat × List Nat) := (true, [([], []), ([], []), ([0, 1], [0, 1]), ([2], [2]), ([], []), ([], []), ([5], [5]), ([4, 6], [4, 6]), ([7], [7]), ([3, 8], [3, 8]), ([9], [9]), ([10], [10]), ([10], [10]), ([10], [10]), ([10], [10]), ([13, 14, 10], [10, 13, 14]), ([15, 10], [10, 15]), ([11, 12, 16, 10, 10], [10, 11, 12, 16]), ([17, 10], [10, 17]), ([10, 18], [10, 18])])
def jacquardlaw36_CyclesIssues.B13 : List Nat := [0, 0, 3, 7, 0, 0, 32, 112, 240, 511, 1023, 2047, 2047, 2047, 2047, 26623, 59391, 131071, 262143, 524287]
theorem jacquardlaw36_CyclesIssues.tab13 : rtab .any (opsOf Try.f8 13) = jacquardlaw36_CyclesIssues.T13 := by kernel_rfl
theorem jacquardlaw36_CyclesIssues.bits13 : waitsOk jacquardlaw36_CyclesIssues.T13.2 jacquardlaw36_CyclesIssues.B13 = true := by kernel_rfl
def jacquardlaw36_CyclesIssues.T15 : Bool × List (List Nat × List Nat) := (true, [([], []), ([], []), ([0, 1], [0, 1]), ([2], [2]), ([], []), ([], []), ([5], [5]), ([4, 6], [4, 6]), ([7], [7]), ([3, 8], [3, 8]), ([], []), ([9, 10], [9, 10])])
def jacquardlaw36_CyclesIssues.B15 : List Nat := [0, 0, 3, 7, 0, 0, 32, 112, 240, 511, 0, 2047]
theorem jacquardlaw36_CyclesIssues.tab15 : rtab .any (opsOf Try.f8 15) = jacquardlaw36_CyclesIssues.T15 := by kernel_rfl
theorem jacquardlaw36_CyclesIssues.bits15 : waitsOk jacquardlaw36_CyclesIssues.T15.2 jacquardlaw36_CyclesIssues.B15 = true := by kernel_rfl
set_option maxHeartbeats 8000000 in
set_option maxRecDepth 100000 in
theorem jacquardlaw36_CyclesIssues.calls (k : Nat) (A0_0 : Option Addr) (c0_0 : Nat) (l0_0 : List Int) (A0_1 : Option Addr) (c0_1 : Nat) (l0_1 : List (S73)) (A0_2 : Option Addr) (c0_2 : Nat) (l0_2 : List (S73)) (A0_3 : Option Addr) (c0_3 : Nat) (l0_3 : List Int) (A0_4 : Option Addr) (c0_4 : Nat) (l0_4 : List (S80)) (A1 : Option Addr) (c1 : Nat) (l1 : List (S73)) (A2 : Option Addr) (c2 : Nat) (l2 : List Int) (r : Bool) (w : World) (hr0_0 : Kd.C (Kd.int .u8) w A0_0 l0_0.length l0_0) (hc0_0 : l0_0.length ≤ c0_0) (hr0_1 : Kd.C k73 w A0_1 l0_1.length l0_1) (hc0_1 : l0_1.length ≤ c0_1) (hr0_2 : Kd.C k73 w A0_2 l0_2.length l0_2) (hc0_2 : l0_2.length ≤ c0_2) (hr0_3 : Kd.C (Kd.int .u8) w A0_3 l0_3.length l0_3) (hc0_3 : l0_3.length ≤ c0_3) (hr0_4 : Kd.C k80 w A0_4 l0_4.length l0_4) (hc0_4 : l0_4.length ≤ c0_4) (hr1 : Kd.C k73 w A1 l1.length l1) (hc1 : l1.length ≤ c1) (hr2 : Kd.C (Kd.int .u8) w A2 l2.length l2) (hc2 : l2.length ≤ c2) (h : jacquardlaw36_CyclesIssues.f k l0_0 l0_1 l0_2 l0_3 l0_4 l1 l2 = some r) (hr_ : r = true) :
    Calls Try.prog 8 #[.agg #[.slice A0_0 l0_0.length c0_0, .slice A0_1 l0_1.length c0_1, .slice A0_2 l0_2.length c0_2, .slice A0_3 l0_3.length c0_3, .slice A0_4 l0_4.length c0_4], .slice A1 l1.length c1, .slice A2 l2.length c2] w fun e w' => e = .returned (.bool r) ∧ Below w.heap.size w w' := by
 have hu36 := Try.underlying36
 have hu27 := Try.underlying27
 have HR0_0 := Aside0.mk hr0_0
 have HC0_0 := Aside0.mk hc0_0
 clear hr0_0 hc0_0
 have HR0_1 := Aside0.mk hr0_1
 have HC0_1 := Aside0.mk hc0_1
 clear hr0_1 hc0_1
 have HR0_2 := Aside0.mk hr0_2
 have HC0_2 := Aside0.mk hc0_2
 clear hr0_2 hc0_2
 have HR0_3 := Aside0.mk hr0_3
 have HC0_3 := Aside0.mk hc0_3
 clear hr0_3 hc0_3
 have HR0_4 := Aside0.mk hr0_4
 have HC0_4 := Aside0.mk hc0_4
 clear hr0_4 hc0_4
 have HR1 := Aside0.mk hr1
 have HC1 := Aside0.mk hc1
 clear hr1 hc1
 have HR2 := Aside0.mk hr2
 have HC2 := Aside0.mk hc2
 clear hr2 hc2
 have HB := Aside0.mk (Below.refl w.heap.size w)
 have HRT_ := Aside0.mk hr_
 clear hr_
 have H : ((jacquardlaw36_awake.f k).bind fun t392 => (if t392 = true then ((jacquardlaw36_few.f k l0_0 l0_1 l0_2 l0_3 l0_4 l2).bind fun t393 => (jacquardlaw36_CyclesIssues.j0 k l1 l2 (!t393) l0_0 l0_1 l0_2 l0_3 l0_4)) else (jacquardlaw36_CyclesIssues.j0 k l1 l2 true l0_0 l0_1 l0_2 l0_3 l0_4))) = some r := h
 clear h
 have HC4 := Aside0.mk H
 clear H
 go_enter Try.func8, Try.ntmps8
 go_upto_region 1 with (first | ((with_reducible refine gate_dst (N := 3) rfl ?_); (try (refine gate_guard (by rfl) ?_; dsimp only)); refine box_event ?hg (N := 3) ?hd (cs := #[.slice A0_0 l0_0.length c0_0, .slice A0_1 l0_1.length c0_1, .slice A0_2 l0_2.length c0_2, .slice A0_3 l0_3.length c0_3, .slice A0_4 l0_4.length c0_4]) (t := 36) ?hr ?_; (case hd => rfl); (case hg => rfl); (case hr => first | (go_simp; done) | (go_simp; rfl)); intro gb391 hg w5 hbox hb; have n0_ := Aside0.mk (below_step bl_ hb); have n1_ := Aside0.mk (hbox); have n2_ := Aside0.mk (gl_ (w := w) hg); have n3_ := Aside0.mk (gl_ (w := w) hg); clear HB; have HB := n0_; have BK391 := n1_; have GW391 := n2_; have GE391 := n3_; clear n0_ n1_ n2_ n3_; clear hb hbox hg))
 (try simp only [Act.put, List.setIfInBounds_toArray, List.set_cons_zero, List.set_cons_succ])
 go_cut [21] (fun v21 wc => ∃ (kq : Nat) (x21_3 : Bool), v21 = .bool x21_3 ∧ Aside0 (jacquardlaw36_CyclesIssues.j0 kq l1 l2 x21_3 l0_0 l0_1 l0_2 l0_3 l0_4 = some r) ∧ Aside0 (kq ≤ k) ∧ Aside0 (wc.heap[gb391]? = some (.cells #[(.slice A0_0 l0_0.length c0_0), (.slice A0_1 l0_1.length c0_1), (.slice A0_2 l0_2.length c0_2), (.slice A0_3 l0_3.length c0_3), (.slice A0_4 l0_4.length c0_4)] 36 (0, 0))) ∧ Aside0 (Below w.heap.size w wc))
 case first =>
  have H := HC4.out
  clear HC4
  replace H := Option.bind_eq_some_iff.mp H
  obtain ⟨t392, A60, H⟩ := H
  replace H : (if t392 = true then ((jacquardlaw36_few.f k l0_0 l0_1 l0_2 l0_3 l0_4 l2).bind fun t393 => (jacquardlaw36_CyclesIssues.j0 k l1 l2 (!t393) l0_0 l0_1 l0_2 l0_3 l0_4)) else (jacquardlaw36_CyclesIssues.j0 k l1 l2 true l0_0 l0_1 l0_2 l0_3 l0_4)) = some r := H
  have A6 := Aside0.mk A60
  clear A60
  by_cases c7 : t392 = true
  · subst c7
    have H1 : ((jacquardlaw36_few.f k l0_0 l0_1 l0_2 l0_3 l0_4 l2).bind fun t393 => (jacquardlaw36_CyclesIssues.j0 k l1 l2 (!t393) l0_0 l0_1 l0_2 l0_3 l0_4)) = some r := by rw [if_pos rfl] at H; exact H
    clear H
    have H := H1
    clear H1
    replace H := Option.bind_eq_some_iff.mp H
    obtain ⟨t393, A80, H⟩ := H
    replace H : (jacquardlaw36_CyclesIssues.j0 k l1 l2 (!t393) l0_0 l0_1 l0_2 l0_3 l0_4) = some r := H
    have A8 := Aside0.mk A80
    clear A80
    have H' := Aside0.mk H
    clear H
    go_wp2_with (first | ((with_reducible refine gate_callee (f := 9) rfl ?_); refine gL_ 14 Try.func9 #[] ?_; (with_reducible refine (jacquardlaw36_awake.calls k  true _ A6.out).mono ?_); rintro e w9 ⟨rfl, hb⟩; refine ⟨_, rfl, ?_⟩; have n0_ := Aside0.mk (blk_below (K_ BK391) hb); have n1_ := Aside0.mk (below_step bl_ hb); clear BK391; clear HB; have BK391 := n0_; have HB := n1_; clear n0_ n1_; (try clear hb); (try clear hb2); (try clear hk); (try clear hi); obtain ⟨hcz10_0, hcz10_1, hcz10_2, hcz10_3, hcz10_4⟩ := cells5 BK391; obtain ⟨hfz10_0, hfz10_1, hfz10_2, hfz10_3, hfz10_4⟩ := fz5 BK391) | (go_at_call 12; (with_reducible refine (jacquardlaw36_few.calls k _ _ l0_0 _ _ l0_1 _ _ l0_2 _ _ l0_3 _ _ l0_4 _ _ l2 t393 _ ?side1 ?side2 ?side3 ?side4 ?side5 ?side6 ?side7 ?side8 ?side9 ?side10 ?side11 ?side12 A8.out).mono ?_); (case side1 => exact CB_ HR0_0); (case side2 => exact HC0_0.out); (case side3 => exact CB_ HR0_1); (case side4 => exact HC0_1.out); (case side5 => exact CB_ HR0_2); (case side6 => exact HC0_2.out); (case side7 => exact CB_ HR0_3); (case side8 => exact HC0_3.out); (case side9 => exact CB_ HR0_4); (case side10 => exact HC0_4.out); (case side11 => exact CB_ HR2); (case side12 => exact HC2.out); rintro e w11 ⟨rfl, hb⟩; have n0_ := Aside0.mk (blk_below (K_ BK391) hb); have n1_ := Aside0.mk (below_step bl_ hb); clear BK391; clear HB; have BK391 := n0_; have HB := n1_; clear n0_ n1_; (try clear hb); (try clear hb2); (try clear hk); (try clear hi)))
    go_meet
    case rel => exact ⟨_, (!t393), (by first | rfl | (simp; done) | (simp [*]; done)), H', ⟨by first | omega | exact Nat.le_refl _⟩, ⟨K_ BK391⟩, ⟨bl_⟩⟩
  replace c7 := Bool.eq_false_iff.mpr c7
  subst c7
  have H1 : (jacquardlaw36_CyclesIssues.j0 k l1 l2 true l0_0 l0_1 l0_2 l0_3 l0_4) = some r := by rw [if_neg (show ¬ (false = true) by decide)] at H; exact H
  clear H
  have H := H1
  clear H1
  have H' := Aside0.mk H
  clear H
  go_wp2_with (first | ((with_reducible refine gate_callee (f := 9) rfl ?_); refine gL_ 14 Try.func9 #[] ?_; (with_reducible refine (jacquardlaw36_awake.calls k  false _ A6.out).mono ?_); rintro e w12 ⟨rfl, hb⟩; refine ⟨_, rfl, ?_⟩; have n0_ := Aside0.mk (blk_below (K_ BK391) hb); have n1_ := Aside0.mk (below_step bl_ hb); clear BK391; clear HB; have BK391 := n0_; have HB := n1_; clear n0_ n1_; (try clear hb); (try clear hb2); (try clear hk); (try clear hi)))
  go_meet
  case rel => exact ⟨_, (true), (by first | rfl | (simp; done) | (simp [*]; done)), H', ⟨by first | omega | exact Nat.le_refl _⟩, ⟨K_ BK391⟩, ⟨bl_⟩⟩
 clear HC4
 (try clear c1); (try clear c2); (try clear p2); (try clear c7); (try clear c8); (try clear c9); (try clear hcz10_0); (try clear hcz10_1); (try clear hcz10_2); (try clear hcz10_3); (try clear hcz10_4); (try clear hfz10_0); (try clear hfz10_1); (try clear hfz10_2); (try clear hfz10_3); (try clear hfz10_4)
 obtain ⟨kq, x21_3, rfl, HA, HJ3, BK391, HB⟩ := hcut
 cases kq with
 | zero => exact absurd HA.out (by simp [jacquardlaw36_CyclesIssues.j0])
 | succ kj3 => ?_
 have H := HA.out
 clear HA
 simp only [jacquardlaw36_CyclesIssues.j0] at H
 by_cases c13 : x21_3 = true
 · subst c13
   have H1 : ((jacquardlaw36_awake.f kj3).bind fun t394 => (some t394)) = some r := by rw [if_pos rfl] at H; exact H
   clear H
   have H := H1
   clear H1
   replace H := Option.bind_eq_some_iff.mp H
   obtain ⟨t394, A140, H⟩ := H
   replace H : (some t394) = some r := H
   have A14 := Aside0.mk A140
   clear A140
   obtain rfl := Option.some.inj H
   go_wp2_with (first | ((with_reducible refine gate_callee (f := 9) rfl ?_); refine gL_ 22 Try.func9 #[] ?_; (with_reducible refine (jacquardlaw36_awake.calls kj3  t394 _ A14.out).mono ?_); rintro e w15 ⟨rfl, hb⟩; refine ⟨_, rfl, ?_⟩; have n0_ := Aside0.mk (blk_below (K_ BK391) hb); have n1_ := Aside0.mk (below_step bl_ hb); clear BK391; clear HB; have BK391 := n0_; have HB := n1_; clear n0_ n1_; (try clear hb); (try clear hb2); (try clear hk); (try clear hi)))
   go_ret
   exact ⟨by first | rfl | (simp [errW_none, errW_some] <;> rfl) | (simp [*, errW_none, errW_some] <;> rfl), by repeat (first | (with_reducible first | exact HB.out | apply below_alloc | apply pw_below_drewN | apply below_drew1 | refine below_set ?_ GE391.out) | exact HB.out)⟩
 replace c13 := Bool.eq_false_iff.mpr c13
 subst c13
 have H1 : ((jacquardref27_Func.f kj3 l0_0 l0_1 l0_2 l0_3 l0_4).bind fun bt395 => ((jacquardref36_Scheds.f kj3 bt395.1 bt395.2.1 bt395.2.2.1 bt395.2.2.2.1 bt395.2.2.2.2.1 bt395.2.2.2.2.2 l1).bind fun t412 => ((jacquardref36_Walk.f kj3 bt395.1 bt395.2.1 bt395.2.2.1 bt395.2.2.2.1 bt395.2.2.2.2.1 bt395.2.2.2.2.2 l2).bind fun t415 => ((cycles_Issues.f kj3 bt395.1 bt395.2.1 bt395.2.2.1 bt395.2.2.2.1 bt395.2.2.2.2.1 bt395.2.2.2.2.2 t412 t415).bind fun bt418 => (if bt418.2 = 0 then (if (bt418.1.length : Int) = (t415.length : Int) then (if 0 < (bt418.1.length : Int) then (jacquardlaw36_CyclesIssues.j1 kj3 t412 t415 bt418.1 ((rd bt418.1 0) != 1) bt395.1 bt395.2.1 bt395.2.2.1 bt395.2.2.2.1 bt395.2.2.2.2.1 bt395.2.2.2.2.2) else (none)) else (jacquardlaw36_CyclesIssues.j1 kj3 t412 t415 bt418.1 true bt395.1 bt395.2.1 bt395.2.2.1 bt395.2.2.2.1 bt395.2.2.2.2.1 bt395.2.2.2.2.2)) else (jacquardlaw36_CyclesIssues.j1 kj3 t412 t415 bt418.1 true bt395.1 bt395.2.1 bt395.2.2.1 bt395.2.2.2.1 bt395.2.2.2.2.1 bt395.2.2.2.2.2)))))) = some r := by rw [if_neg (show ¬ (false = true) by decide)] at H; exact H
 clear H
 have H := H1
 clear H1
 replace H := Option.bind_eq_some_iff.mp H
 obtain ⟨⟨t395, t396, t399, t402, t405, t408⟩, A160, H⟩ := H
 replace H : ((jacquardref36_Scheds.f kj3 t395 t396 t399 t402 t405 t408 l1).bind fun t412 => ((jacquardref36_Walk.f kj3 t395 t396 t399 t402 t405 t408 l2).bind fun t415 => ((cycles_Issues.f kj3 t395 t396 t399 t402 t405 t408 t412 t415).bind fun bt418 => (if bt418.2 = 0 then (if (bt418.1.length : Int) = (t415.length : Int) then (if 0 < (bt418.1.length : Int) then (jacquardlaw36_CyclesIssues.j1 kj3 t412 t415 bt418.1 ((rd bt418.1 0) != 1) t395 t396 t399 t402 t405 t408) else (none)) else (jacquardlaw36_CyclesIssues.j1 kj3 t412 t415 bt418.1 true t395 t396 t399 t402 t405 t408)) else (jacquardlaw36_CyclesIssues.j1 kj3 t412 t415 bt418.1 true t395 t396 t399 t402 t405 t408))))) = some r := H
 have A16 := Aside0.mk A160
 clear A160
 replace H := Option.bind_eq_some_iff.mp H
 obtain ⟨t412, A170, H⟩ := H
 replace H : ((jacquardref36_Walk.f kj3 t395 t396 t399 t402 t405 t408 l2).bind fun t415 => ((cycles_Issues.f kj3 t395 t396 t399 t402 t405 t408 t412 t415).bind fun bt418 => (if bt418.2 = 0 then (if (bt418.1.length : Int) = (t415.length : Int) then (if 0 < (bt418.1.length : Int) then (jacquardlaw36_CyclesIssues.j1 kj3 t412 t415 bt418.1 ((rd bt418.1 0) != 1) t395 t396 t399 t402 t405 t408) else (none)) else (jacquardlaw36_CyclesIssues.j1 kj3 t412 t415 bt418.1 true t395 t396 t399 t402 t405 t408)) else (jacquardlaw36_CyclesIssues.j1 kj3 t412 t415 bt418.1 true t395 t396 t399 t402 t405 t408)))) = some r := H
 have A17 := Aside0.mk A170
 clear A170
 replace H := Option.bind_eq_some_iff.mp H
 obtain ⟨t415, A180, H⟩ := H
 replace H : ((cycles_Issues.f kj3 t395 t396 t399 t402 t405 t408 t412 t415).bind fun bt418 => (if bt418.2 = 0 then (if (bt418.1.length : Int) = (t415.length : Int) then (if 0 < (bt418.1.length : Int) then (jacquardlaw36_CyclesIssues.j1 kj3 t412 t415 bt418.1 ((rd bt418.1 0) != 1) t395 t396 t399 t402 t405 t408) else (none)) else (jacquardlaw36_CyclesIssues.j1 kj3 t412 t415 bt418.1 true t395 t396 t399 t402 t405 t408)) else (jacquardlaw36_CyclesIssues.j1 kj3 t412 t415 bt418.1 true t395 t396 t399 t402 t405 t408))) = some r := H
 have A18 := Aside0.mk A180
 clear A180
 replace H := Option.bind_eq_some_iff.mp H
 obtain ⟨⟨t418, t421⟩, A190, H⟩ := H
 replace H : (if t421 = 0 then (if (t418.length : Int) = (t415.length : Int) then (if 0 < (t418.length : Int) then (jacquardlaw36_CyclesIssues.j1 kj3 t412 t415 t418 ((rd t418 0) != 1) t395 t396 t399 t402 t405 t408) else (none)) else (jacquardlaw36_CyclesIssues.j1 kj3 t412 t415 t418 true t395 t396 t399 t402 t405 t408)) else (jacquardlaw36_CyclesIssues.j1 kj3 t412 t415 t418 true t395 t396 t399 t402 t405 t408)) = some r := H
 have A19 := Aside0.mk A190
 clear A190
 have HC20 := Aside0.mk H
 clear H
 obtain ⟨hcz21_0, hcz21_1, hcz21_2, hcz21_3, hcz21_4⟩ := cells5 BK391
 obtain ⟨hfz21_0, hfz21_1, hfz21_2, hfz21_3, hfz21_4⟩ := fz5 BK391
 go_upto_region 7 with (first | ((with_reducible refine gate_callee (f := 13) rfl ?_); refine gL_ 24 Try.func13 #[.agg #[.slice A0_0 l0_0.length c0_0, .slice A0_1 l0_1.length c0_1, .slice A0_2 l0_2.length c0_2, .slice A0_3 l0_3.length c0_3, .slice A0_4 l0_4.length c0_4]] ?_; (with_reducible refine (jacquardref27_Func.calls kj3 _ _ l0_0 _ _ l0_1 _ _ l0_2 _ _ l0_3 _ _ l0_4 t395 t396 t399 t402 t405 t408 _ ?side1 ?side2 ?side3 ?side4 ?side5 ?side6 ?side7 ?side8 ?side9 ?side10 A16.out).mono ?_); (case side1 => exact CB_ HR0_0); (case side2 => exact HC0_0.out); (case side3 => exact CB_ HR0_1); (case side4 => exact HC0_1.out); (case side5 => exact CB_ HR0_2); (case side6 => exact HC0_2.out); (case side7 => exact CB_ HR0_3); (case side8 => exact HC0_3.out); (case side9 => exact CB_ HR0_4); (case side10 => exact HC0_4.out); rintro e w22 ⟨v397, v400, v403, v406, v409, rfl, ho0, ho1, ho2, ho3, ho4, hb⟩; refine ⟨_, rfl, ?_⟩; have n0_ := Aside0.mk (Kd.R_lower ho0 (below_size bl_)); have n1_ := Aside0.mk (Kd.R_lower ho1 (below_size bl_)); have n2_ := Aside0.mk (Kd.R_lower ho2 (below_size bl_)); have n3_ := Aside0.mk (Kd.R_lower ho3 (below_size bl_)); have n4_ := Aside0.mk (Kd.R_lower ho4 (below_size bl_)); have n5_ := Aside0.mk (blk_below (K_ BK391) hb); have n6_ := Aside0.mk (below_step bl_ hb); clear BK391; clear HB; have HO398 := n0_; have HO401 := n1_; have HO404 := n2_; have HO407 := n3_; have HO410 := n4_; have BK391 := n5_; have HB := n6_; clear n0_ n1_ n2_ n3_ n4_ n5_ n6_; (try clear hb); (try clear hb2); (try clear hk); (try clear hi); (try clear ho0); (try clear ho1); (try clear ho2); (try clear ho3); (try clear ho4)) | ((with_reducible refine gate_dst (N := 7) rfl ?_); (try (refine gate_guard (by rfl) ?_; dsimp only)); refine box_event ?hg (N := 7) ?hd (cs := #[.string (⟨#[]⟩ : ByteArray), .slice none 0 0, .slice none 0 0, .slice none 0 0, .slice none 0 0, .slice none 0 0]) (t := 27) ?hr ?_; (case hd => rfl); (case hg => rfl); (case hr => first | (go_simp; done) | (go_simp; rfl)); intro gb411 hg w23 hbox hb; have n0_ := Aside0.mk (Kd.R_below (R_ HO398) hb); have n1_ := Aside0.mk (Kd.R_below (R_ HO401) hb); have n2_ := Aside0.mk (Kd.R_below (R_ HO404) hb); have n3_ := Aside0.mk (Kd.R_below (R_ HO407) hb); have n4_ := Aside0.mk (Kd.R_below (R_ HO410) hb); have n5_ := Aside0.mk (blk_below (K_ BK391) hb); have n6_ := Aside0.mk (below_step bl_ hb); have n7_ := Aside0.mk (hbox); have n8_ := Aside0.mk (gl_ (w := w) hg); have n9_ := Aside0.mk (gl_ (w := w) hg); have n10_ := Aside0.mk (nl_ hg (K_ BK391)); have n11_ := Aside0.mk (ng_ hg (K_ BK391)); clear HO398; clear HO401; clear HO404; clear HO407; clear HO410; clear BK391; clear HB; have HO398 := n0_; have HO401 := n1_; have HO404 := n2_; have HO407 := n3_; have HO410 := n4_; have BK391 := n5_; have HB := n6_; have BK411 := n7_; have GW411 := n8_; have GE411 := n9_; have NB391_411 := n10_; have NB411_391 := n11_; clear n0_ n1_ n2_ n3_ n4_ n5_ n6_ n7_ n8_ n9_ n10_ n11_; clear hb hbox hg; have hnb24 := NB411_391.out; have hnc24 := NB391_411.out; obtain ⟨hcz25_0, hcz25_1, hcz25_2, hcz25_3, hcz25_4, hcz25_5⟩ := cells6 BK411; obtain ⟨hfz25_0, hfz25_1, hfz25_2, hfz25_3, hfz25_4, hfz25_5⟩ := fz6 BK411; obtain ⟨Ao26, co26, eo26⟩ := Kd.R_slice HO398.out; subst eo26; obtain ⟨Ao27, co27, eo27⟩ := Kd.R_slice HO401.out; subst eo27; obtain ⟨Ao28, co28, eo28⟩ := Kd.R_slice HO404.out; subst eo28; obtain ⟨Ao29, co29, eo29⟩ := Kd.R_slice HO407.out; subst eo29; obtain ⟨Ao30, co30, eo30⟩ := Kd.R_slice HO410.out; subst eo30) | ((with_reducible refine gate_callee (f := 14) rfl ?_); refine gL_ 27 Try.func14 #[.agg #[.string t395, .slice Ao26 t396.length co26, .slice Ao27 t399.length co27, .slice Ao28 t402.length co28, .slice Ao29 t405.length co29, .slice Ao30 t408.length co30], .slice A1 l1.length c1] ?_; (with_reducible refine (jacquardref36_Scheds.calls kj3 t395 _ _ t396 _ _ t399 _ _ t402 _ _ t405 _ _ t408 _ _ l1 t412 _ ?side1 ?side2 ?side3 ?side4 ?side5 ?side6 ?side7 ?side8 ?side9 ?side10 ?side11 ?side12 A17.out).mono ?_); (case side1 => refine (Kd.R_reads' (e := 3) (base := w.heap.size) (ok := fun k_ => some k_ ≠ (.slice Ao29 t405.length co29 : Value).ownBlock) (n := t396.length) (c := co26) ?_).2.2; exact (FR_ HO398 BK411)); (case side2 => exact (Kd.R_reads' HO398.out).2.1); (case side3 => refine (Kd.R_reads' (e := 75) (base := w.heap.size) (ok := fun k_ => True) (n := t399.length) (c := co27) ?_).2.2; exact (FR_ HO401 BK411)); (case side4 => exact (Kd.R_reads' HO401.out).2.1); (case side5 => refine (Kd.R_reads' (e := 77) (base := w.heap.size) (ok := fun k_ => True) (n := t402.length) (c := co28) ?_).2.2; exact (FR_ HO404 BK411)); (case side6 => exact (Kd.R_reads' HO404.out).2.1); (case side7 => refine (Kd.R_reads' (e := 3) (base := w.heap.size) (ok := fun k_ => some k_ ≠ (.slice Ao26 t396.length co26 : Value).ownBlock) (n := t405.length) (c := co29) ?_).2.2; exact (FR_ HO407 BK411)); (case side8 => exact (Kd.R_reads' HO407.out).2.1); (case side9 => refine (Kd.R_reads' (e := 66) (base := w.heap.size) (ok := fun k_ => (some k_ ≠ (.slice Ao26 t396.length co26 : Value).ownBlock ∧ some k_ ≠ (.slice Ao29 t405.length co29 : Value).ownBlock)) (n := t408.length) (c := co30) ?_).2.2; exact (FR_ HO410 BK411)); (case side10 => exact (Kd.R_reads' HO410.out).2.1); (case side11 => exact Kd.C_below HR1.out bl_); (case side12 => exact HC1.out); rintro e w31 ⟨v413, rfl, ho0, hb⟩; refine ⟨_, rfl, ?_⟩; have n0_ := Aside0.mk (Kd.R_below (FR_ HO398 BK411) hb); have n1_ := Aside0.mk (Kd.R_below (FR_ HO401 BK411) hb); have n2_ := Aside0.mk (Kd.R_below (FR_ HO404 BK411) hb); have n3_ := Aside0.mk (Kd.R_below (FR_ HO407 BK411) hb); have n4_ := Aside0.mk (Kd.R_below (FR_ HO410 BK411) hb); have n5_ := Aside0.mk (Kd.S_lower (Kd.S_new' (Kd.S_new' ho0 (Kd.R_lt (FR_ HO398 BK411))) (Kd.R_lt (FR_ HO407 BK411))) (below_size bl_)); have n6_ := Aside0.mk (blk_below (g := gb391) (o := .cells #[.slice A0_0 l0_0.length c0_0, .slice A0_1 l0_1.length c0_1, .slice A0_2 l0_2.length c0_2, .slice A0_3 l0_3.length c0_3, .slice A0_4 l0_4.length c0_4] 36 (0, 0)) (by (with_reducible repeat (first | refine blk_drewN ?_ _ | refine blk_drew ?_ | refine blk_alloc ?_ _)); refine blk_far ?_ NB391_411.out _; (with_reducible repeat (first | refine blk_drewN ?_ _ | refine blk_drew ?_ | refine blk_alloc ?_ _)); refine blk_far ?_ NB391_411.out _; (with_reducible repeat (first | refine blk_drewN ?_ _ | refine blk_drew ?_ | refine blk_alloc ?_ _)); refine blk_far ?_ NB391_411.out _; (with_reducible repeat (first | refine blk_drewN ?_ _ | refine blk_drew ?_ | refine blk_alloc ?_ _)); refine blk_far ?_ NB391_411.out _; (with_reducible repeat (first | refine blk_drewN ?_ _ | refine blk_drew ?_ | refine blk_alloc ?_ _)); refine blk_far ?_ NB391_411.out _; (with_reducible repeat (first | refine blk_drewN ?_ _ | refine blk_drew ?_ | refine blk_alloc ?_ _)); refine blk_far ?_ NB391_411.out _; (with_reducible repeat (first | refine blk_drewN ?_ _ | refine blk_drew ?_ | refine blk_alloc ?_ _)); exact BK391.out) hb); have n7_ := Aside0.mk (blk_below (g := gb411) (o := .cells #[.string t395, .slice Ao26 t396.length co26, .slice Ao27 t399.length co27, .slice Ao28 t402.length co28, .slice Ao29 t405.length co29, .slice Ao30 t408.length co30] 27 (0, 0)) (by (with_reducible repeat (first | refine blk_drewN ?_ _ | refine blk_drew ?_ | refine blk_alloc ?_ _)); refine blk_put (cs := #[.string t395, .slice Ao26 t396.length co26, .slice Ao27 t399.length co27, .slice Ao28 t402.length co28, .slice Ao29 t405.length co29, .slice none 0 0]) ?_ 5 _ rfl; (with_reducible repeat (first | refine blk_drewN ?_ _ | refine blk_drew ?_ | refine blk_alloc ?_ _)); refine blk_put (cs := #[.string t395, .slice Ao26 t396.length co26, .slice Ao27 t399.length co27, .slice Ao28 t402.length co28, .slice none 0 0, .slice none 0 0]) ?_ 4 _ rfl; (with_reducible repeat (first | refine blk_drewN ?_ _ | refine blk_drew ?_ | refine blk_alloc ?_ _)); refine blk_put (cs := #[.string t395, .slice Ao26 t396.length co26, .slice Ao27 t399.length co27, .slice none 0 0, .slice none 0 0, .slice none 0 0]) ?_ 3 _ rfl; (with_reducible repeat (first | refine blk_drewN ?_ _ | refine blk_drew ?_ | refine blk_alloc ?_ _)); refine blk_put (cs := #[.string t395, .slice Ao26 t396.length co26, .slice none 0 0, .slice none 0 0, .slice none 0 0, .slice none 0 0]) ?_ 2 _ rfl; (with_reducible repeat (first | refine blk_drewN ?_ _ | refine blk_drew ?_ | refine blk_alloc ?_ _)); refine blk_put (cs := #[.string t395, .slice none 0 0, .slice none 0 0, .slice none 0 0, .slice none 0 0, .slice none 0 0]) ?_ 1 _ rfl; (with_reducible repeat (first | refine blk_drewN ?_ _ | refine blk_drew ?_ | refine blk_alloc ?_ _)); refine blk_put (cs := #[.string (⟨#[]⟩ : ByteArray), .slice none 0 0, .slice none 0 0, .slice none 0 0, .slice none 0 0, .slice none 0 0]) ?_ 0 _ rfl; (with_reducible repeat (first | refine blk_drewN ?_ _ | refine blk_drew ?_ | refine blk_alloc ?_ _)); exact BK411.out) hb); have n8_ := Aside0.mk (below_step bl_ hb); clear HO398; clear HO401; clear HO404; clear HO407; clear HO410; clear BK391; clear BK411; clear HB; have HO398 := n0_; have HO401 := n1_; have HO404 := n2_; have HO407 := n3_; have HO410 := n4_; have HO414 := n5_; have BK391 := n6_; have BK411 := n7_; have HB := n8_; clear n0_ n1_ n2_ n3_ n4_ n5_ n6_ n7_ n8_; (try clear hb); (try clear hb2); (try clear hk); (try clear hi); (try clear ho0); obtain ⟨hcz32_0, hcz32_1, hcz32_2, hcz32_3, hcz32_4, hcz32_5⟩ := cells6 BK411; obtain ⟨hfz32_0, hfz32_1, hfz32_2, hfz32_3, hfz32_4, hfz32_5⟩ := fz6 BK411) | ((with_reducible refine gate_callee (f := 15) rfl ?_); refine gL_ 30 Try.func15 #[.agg #[.string t395, .slice Ao26 t396.length co26, .slice Ao27 t399.length co27, .slice Ao28 t402.length co28, .slice Ao29 t405.length co29, .slice Ao30 t408.length co30], .slice A2 l2.length c2] ?_; (with_reducible refine (jacquardref36_Walk.calls kj3 t395 _ _ t396 _ _ t399 _ _ t402 _ _ t405 _ _ t408 _ _ l2 t415 _ ?side1 ?side2 ?side3 ?side4 ?side5 ?side6 ?side7 ?side8 ?side9 ?side10 ?side11 ?side12 A18.out).mono ?_); (case side1 => exact CR_ HO398); (case side2 => exact (Kd.R_reads' HO398.out).2.1); (case side3 => exact CR_ HO401); (case side4 => exact (Kd.R_reads' HO401.out).2.1); (case side5 => exact CR_ HO404); (case side6 => exact (Kd.R_reads' HO404.out).2.1); (case side7 => exact CR_ HO407); (case side8 => exact (Kd.R_reads' HO407.out).2.1); (case side9 => exact CR_ HO410); (case side10 => exact (Kd.R_reads' HO410.out).2.1); (case side11 => exact CB_ HR2); (case side12 => exact HC2.out); rintro e w33 ⟨v416, rfl, ho0, hb⟩; refine ⟨_, rfl, ?_⟩; have n0_ := Aside0.mk (Kd.R_elder' (R_ HO398) (Kd.R_base ho0) hb); have n1_ := Aside0.mk (Kd.R_below (R_ HO401) hb); have n2_ := Aside0.mk (Kd.R_below (R_ HO404) hb); have n3_ := Aside0.mk (Kd.R_elder' (R_ HO407) (Kd.R_base ho0) hb); have n4_ := Aside0.mk (Kd.R_elder' (R_ HO410) (Kd.R_base ho0) hb); have n5_ := Aside0.mk (Kd.S_elder' (S_ HO414) (Kd.R_base ho0) hb); have n6_ := Aside0.mk (Kd.R_lower (Kd.R_new' (Kd.R_new' ho0 (Kd.R_lt (R_ HO398))) (Kd.R_lt (R_ HO407))) (below_size bl_)); have n7_ := Aside0.mk (blk_below (K_ BK391) hb); have n8_ := Aside0.mk (blk_below (K_ BK411) hb); have n9_ := Aside0.mk (below_step bl_ hb); clear HO398; clear HO401; clear HO404; clear HO407; clear HO410; clear HO414; clear BK391; clear BK411; clear HB; have HO398 := n0_; have HO401 := n1_; have HO404 := n2_; have HO407 := n3_; have HO410 := n4_; have HO414 := n5_; have HO417 := n6_; have BK391 := n7_; have BK411 := n8_; have HB := n9_; clear n0_ n1_ n2_ n3_ n4_ n5_ n6_ n7_ n8_ n9_; (try clear hb); (try clear hb2); (try clear hk); (try clear hi); (try clear ho0); obtain ⟨hcz34_0, hcz34_1, hcz34_2, hcz34_3, hcz34_4, hcz34_5⟩ := cells6 BK411; obtain ⟨hfz34_0, hfz34_1, hfz34_2, hfz34_3, hfz34_4, hfz34_5⟩ := fz6 BK411; obtain ⟨Ao35, co35, eo35⟩ := Kd.S_slice HO414.out; subst eo35; obtain ⟨Ao36, co36, eo36⟩ := Kd.R_slice HO417.out; subst eo36) | ((with_reducible refine gate_callee (f := 22) rfl ?_); refine gL_ 35 Try.func22 #[.agg #[.string t395, .slice Ao26 t396.length co26, .slice Ao27 t399.length co27, .slice Ao28 t402.length co28, .slice Ao29 t405.length co29, .slice Ao30 t408.length co30], .slice Ao35 t412.length co35, .slice Ao36 t415.length co36] ?_; (with_reducible refine (cycles_Issues.calls kj3 t395 _ _ t396 _ _ t399 _ _ t402 _ _ t405 _ _ t408 _ _ t412 _ _ t415 t418 t421 _ ?side1 ?side2 ?side3 ?side4 ?side5 ?side6 ?side7 ?side8 ?side9 ?side10 ?side11 ?side12 ?side13 ?side14 A19.out).mono ?_); (case side1 => exact CR_ HO398); (case side2 => exact (Kd.R_reads' HO398.out).2.1); (case side3 => exact CR_ HO401); (case side4 => exact (Kd.R_reads' HO401.out).2.1); (case side5 => exact CR_ HO404); (case side6 => exact (Kd.R_reads' HO404.out).2.1); (case side7 => exact CR_ HO407); (case side8 => exact (Kd.R_reads' HO407.out).2.1); (case side9 => exact CR_ HO410); (case side10 => exact (Kd.R_reads' HO410.out).2.1); (case side11 => exact CS_ HO414); (case side12 => exact (Kd.S_reads' HO414.out).2.1); (case side13 => exact CR_ HO417); (case side14 => exact (Kd.R_reads' HO417.out).2.1); rintro e w37 ⟨v419, rfl, ho0, hb⟩; refine ⟨_, rfl, ?_⟩; have n0_ := Aside0.mk (Kd.R_elder' (R_ HO398) (Kd.R_base ho0) hb); have n1_ := Aside0.mk (Kd.R_below (R_ HO401) hb); have n2_ := Aside0.mk (Kd.R_below (R_ HO404) hb); have n3_ := Aside0.mk (Kd.R_elder' (R_ HO407) (Kd.R_base ho0) hb); have n4_ := Aside0.mk (Kd.R_elder' (R_ HO410) (Kd.R_base ho0) hb); have n5_ := Aside0.mk (Kd.S_elder' (S_ HO414) (Kd.R_base ho0) hb); have n6_ := Aside0.mk (Kd.R_elder' (R_ HO417) (Kd.R_base ho0) hb); have n7_ := Aside0.mk (Kd.R_lower (Kd.R_new' (Kd.R_new' (Kd.R_new' ho0 (Kd.R_lt (R_ HO398))) (Kd.R_lt (R_ HO407))) (Kd.R_lt (R_ HO417))) (below_size bl_)); have n8_ := Aside0.mk (blk_below (K_ BK391) hb); have n9_ := Aside0.mk (blk_below (K_ BK411) hb); have n10_ := Aside0.mk (below_step bl_ hb); clear HO398; clear HO401; clear HO404; clear HO407; clear HO410; clear HO414; clear HO417; clear BK391; clear BK411; clear HB; have HO398 := n0_; have HO401 := n1_; have HO404 := n2_; have HO407 := n3_; have HO410 := n4_; have HO414 := n5_; have HO417 := n6_; have HO420 := n7_; have BK391 := n8_; have BK411 := n9_; have HB := n10_; clear n0_ n1_ n2_ n3_ n4_ n5_ n6_ n7_ n8_ n9_ n10_; (try clear hb); (try clear hb2); (try clear hk); (try clear hi); (try clear ho0)))
 (try simp only [Act.put, List.setIfInBounds_toArray, List.set_cons_zero, List.set_cons_succ])
 go_cut [52] (fun v52 wc => ∃ (kq : Nat) (x52_19 : Bool), v52 = .bool x52_19 ∧ Aside0 (jacquardlaw36_CyclesIssues.j1 kq t412 t415 t418 x52_19 t395 t396 t399 t402 t405 t408 = some r) ∧ Aside0 (kq ≤ kj3) ∧ Aside0 (Kd.S k49 49 wc w.heap.size (fun k_ => some k_ ≠ ((.slice Ao36 t415.length co36) : Value).ownBlock ∧ some k_ ≠ (v419 : Value).ownBlock ∧ some k_ ≠ ((.slice Ao26 t396.length co26) : Value).ownBlock ∧ some k_ ≠ ((.slice Ao29 t405.length co29) : Value).ownBlock) (.slice Ao35 t412.length co35) t412) ∧ Aside0 (Kd.R (Kd.int .i64) 3 wc w.heap.size (fun k_ => some k_ ≠ (v419 : Value).ownBlock ∧ some k_ ≠ ((.slice Ao26 t396.length co26) : Value).ownBlock ∧ some k_ ≠ ((.slice Ao29 t405.length co29) : Value).ownBlock) (.slice Ao36 t415.length co36) t415) ∧ Aside0 (Kd.R (Kd.int .i64) 3 wc w.heap.size (fun k_ => some k_ ≠ ((.slice Ao36 t415.length co36) : Value).ownBlock ∧ some k_ ≠ ((.slice Ao26 t396.length co26) : Value).ownBlock ∧ some k_ ≠ ((.slice Ao29 t405.length co29) : Value).ownBlock) v419 t418) ∧ Aside0 (Kd.R (Kd.int .i64) 3 wc w.heap.size (fun k_ => some k_ ≠ ((.slice Ao36 t415.length co36) : Value).ownBlock ∧ some k_ ≠ (v419 : Value).ownBlock ∧ some k_ ≠ ((.slice Ao29 t405.length co29) : Value).ownBlock) (.slice Ao26 t396.length co26) t396) ∧ Aside0 (Kd.R k75 75 wc w.heap.size (fun _ => True) (.slice Ao27 t399.length co27) t399) ∧ Aside0 (Kd.R k77 77 wc w.heap.size (fun _ => True) (.slice Ao28 t402.length co28) t402) ∧ Aside0 (Kd.R (Kd.int .i64) 3 wc w.heap.size (fun k_ => some k_ ≠ ((.slice Ao36 t415.length co36) : Value).ownBlock ∧ some k_ ≠ (v419 : Value).ownBlock ∧ some k_ ≠ ((.slice Ao26 t396.length co26) : Value).ownBlock) (.slice Ao29 t405.length co29) t405) ∧ Aside0 (Kd.R k66 66 wc w.heap.size (fun k_ => some k_ ≠ ((.slice Ao36 t415.length co36) : Value).ownBlock ∧ some k_ ≠ (v419 : Value).ownBlock ∧ some k_ ≠ ((.slice Ao26 t396.length co26) : Value).ownBlock ∧ some k_ ≠ ((.slice Ao29 t405.length co29) : Value).ownBlock) (.slice Ao30 t408.length co30) t408) ∧ Aside0 (wc.heap[gb391]? = some (.cells #[(.slice A0_0 l0_0.length c0_0), (.slice A0_1 l0_1.length c0_1), (.slice A0_2 l0_2.length c0_2), (.slice A0_3 l0_3.length c0_3), (.slice A0_4 l0_4.length c0_4)] 36 (0, 0))) ∧ Aside0 (wc.heap[gb411]? = some (.cells #[.string t395, (.slice Ao26 t396.length co26), (.slice Ao27 t399.length co27), (.slice Ao28 t402.length co28), (.slice Ao29 t405.length co29), (.slice Ao30 t408.length co30)] 27 (0, 0))) ∧ Aside0 (Below w.heap.size w wc))
 case first =>
  have H := HC20.out
  clear HC20
  by_cases c38 : t421 = 0
  · rw [if_pos c38] at H
    have c38b0 : (t421 == 0) = true := beq_iff_eq.mpr c38
    have c38b1 : (t421 != 0) = false := bne_eq_false_iff_eq.mpr c38
    clear c38
    (first | rw [c38b0] | (simp only [i64_w, i32_w]; rw [c38b0]) | skip)
    by_cases c39 : (t418.length : Int) = (t415.length : Int)
    · rw [if_pos c39] at H
      have c39b0 : ((t418.length : Int) == (t415.length : Int)) = true := beq_iff_eq.mpr c39
      have c39b1 : ((t418.length : Int) != (t415.length : Int)) = false := bne_eq_false_iff_eq.mpr c39
      have c39b2 : (t418.length == t415.length) = true := by first | simpa using c39 | (simp at c39 ⊢; omega)
      clear c39
      by_cases c40 : 0 < (t418.length : Int)
      · rw [if_pos c40] at H
        have c40b0 : decide (0 < (t418.length : Int)) = true := decide_eq_true c40
        have c40b1 : decide (0 < t418.length) = true := decide_eq_true (by omega)
        clear c40
        have H' := Aside0.mk H
        clear H
        obtain ⟨Ao41, co41, eo41⟩ := Kd.R_slice HO420.out
        subst eo41
        have p422 : 0 ≤ (0 : Int) := (by omega)
        have q422 : 0 < (t418.length : Int) := of_decide_eq_true (by first | (with_reducible assumption) | assumption)
        obtain ⟨ad422, e422, hx422_0⟩ := Kd.at_int (Kd.R_reads' HO420.out).2.2 0 p422 q422
        cases e422
        have qi422 : (0 < t418.length) = True := eq_true (by omega)
        (try rw [show ((0 : Int)).toNat = 0 from rfl] at hx422_0)
        (try rw [Addr.add_zero'] at hx422_0)
        replace p422 := eq_true p422
        replace q422 := eq_true q422
        go_wp2
        go_meet
        case rel => exact ⟨_, (((rd t418 0) != 1)), (by first | rfl | (simp; done) | (simp [*]; done)), H', ⟨by have := HJ3.out; first | omega | exact Nat.le_refl _⟩, ⟨by (with_reducible repeat (first | apply Kd.S_alloc | apply Kd.S_drewN | apply Kd.S_drew)); exact Kd.S_mono HO414.out (fun _ hk => ⟨hk.1.2, ⟨hk.2, ⟨hk.1.1.1.2, hk.1.1.2⟩⟩⟩)⟩, ⟨by (with_reducible repeat (first | apply Kd.R_alloc | apply Kd.R_drewN | apply Kd.R_drew)); exact Kd.R_mono HO417.out (fun _ hk => ⟨hk.2, ⟨hk.1.1.2, hk.1.2⟩⟩)⟩, ⟨by (with_reducible repeat (first | apply Kd.R_alloc | apply Kd.R_drewN | apply Kd.R_drew)); exact Kd.R_mono HO420.out (fun _ hk => ⟨hk.2, ⟨hk.1.1.2, hk.1.2⟩⟩)⟩, ⟨by (with_reducible repeat (first | apply Kd.R_alloc | apply Kd.R_drewN | apply Kd.R_drew)); exact Kd.R_mono HO398.out (fun _ hk => ⟨hk.1.2, ⟨hk.2, hk.1.1⟩⟩)⟩, ⟨R_ HO401⟩, ⟨R_ HO404⟩, ⟨by (with_reducible repeat (first | apply Kd.R_alloc | apply Kd.R_drewN | apply Kd.R_drew)); exact Kd.R_mono HO407.out (fun _ hk => ⟨hk.1.2, ⟨hk.2, hk.1.1⟩⟩)⟩, ⟨by (with_reducible repeat (first | apply Kd.R_alloc | apply Kd.R_drewN | apply Kd.R_drew)); exact Kd.R_mono HO410.out (fun _ hk => ⟨hk.1.2, ⟨hk.2, ⟨hk.1.1.1, hk.1.1.2⟩⟩⟩)⟩, ⟨K_ BK391⟩, ⟨K_ BK411⟩, ⟨bl_⟩⟩
      rw [if_neg c40] at H
      exact absurd H (by simp)
    rw [if_neg c39] at H
    have c39b0 : ((t418.length : Int) == (t415.length : Int)) = false := beq_eq_false_iff_ne.mpr c39
    have c39b1 : ((t418.length : Int) != (t415.length : Int)) = true := bne_iff_ne.mpr c39
    have c39b2 : (t418.length == t415.length) = false := by first | simpa using c39 | (simp at c39 ⊢; omega)
    have H' := Aside0.mk H
    clear H
    obtain ⟨Ao42, co42, eo42⟩ := Kd.R_slice HO420.out
    subst eo42
    go_wp2
    go_meet
    case rel => exact ⟨_, (true), (by first | rfl | (simp; done) | (simp [*]; done)), H', ⟨by have := HJ3.out; first | omega | exact Nat.le_refl _⟩, ⟨by (with_reducible repeat (first | apply Kd.S_alloc | apply Kd.S_drewN | apply Kd.S_drew)); exact Kd.S_mono HO414.out (fun _ hk => ⟨hk.1.2, ⟨hk.2, ⟨hk.1.1.1.2, hk.1.1.2⟩⟩⟩)⟩, ⟨by (with_reducible repeat (first | apply Kd.R_alloc | apply Kd.R_drewN | apply Kd.R_drew)); exact Kd.R_mono HO417.out (fun _ hk => ⟨hk.2, ⟨hk.1.1.2, hk.1.2⟩⟩)⟩, ⟨by (with_reducible repeat (first | apply Kd.R_alloc | apply Kd.R_drewN | apply Kd.R_drew)); exact Kd.R_mono HO420.out (fun _ hk => ⟨hk.2, ⟨hk.1.1.2, hk.1.2⟩⟩)⟩, ⟨by (with_reducible repeat (first | apply Kd.R_alloc | apply Kd.R_drewN | apply Kd.R_drew)); exact Kd.R_mono HO398.out (fun _ hk => ⟨hk.1.2, ⟨hk.2, hk.1.1⟩⟩)⟩, ⟨R_ HO401⟩, ⟨R_ HO404⟩, ⟨by (with_reducible repeat (first | apply Kd.R_alloc | apply Kd.R_drewN | apply Kd.R_drew)); exact Kd.R_mono HO407.out (fun _ hk => ⟨hk.1.2, ⟨hk.2, hk.1.1⟩⟩)⟩, ⟨by (with_reducible repeat (first | apply Kd.R_alloc | apply Kd.R_drewN | apply Kd.R_drew)); exact Kd.R_mono HO410.out (fun _ hk => ⟨hk.1.2, ⟨hk.2, ⟨hk.1.1.1, hk.1.1.2⟩⟩⟩)⟩, ⟨K_ BK391⟩, ⟨K_ BK411⟩, ⟨bl_⟩⟩
  rw [if_neg c38] at H
  have c38b0 : (t421 == 0) = false := beq_eq_false_iff_ne.mpr c38
  have c38b1 : (t421 != 0) = true := bne_iff_ne.mpr c38
  (first | rw [c38b0] | (simp only [i64_w, i32_w]; rw [c38b0]) | skip)
  have H' := Aside0.mk H
  clear H
  go_wp2
  go_meet
  case rel => exact ⟨_, (true), (by first | rfl | (simp; done) | (simp [*]; done)), H', ⟨by have := HJ3.out; first | omega | exact Nat.le_refl _⟩, ⟨by (with_reducible repeat (first | apply Kd.S_alloc | apply Kd.S_drewN | apply Kd.S_drew)); exact Kd.S_mono HO414.out (fun _ hk => ⟨hk.1.2, ⟨hk.2, ⟨hk.1.1.1.2, hk.1.1.2⟩⟩⟩)⟩, ⟨by (with_reducible repeat (first | apply Kd.R_alloc | apply Kd.R_drewN | apply Kd.R_drew)); exact Kd.R_mono HO417.out (fun _ hk => ⟨hk.2, ⟨hk.1.1.2, hk.1.2⟩⟩)⟩, ⟨by (with_reducible repeat (first | apply Kd.R_alloc | apply Kd.R_drewN | apply Kd.R_drew)); exact Kd.R_mono HO420.out (fun _ hk => ⟨hk.2, ⟨hk.1.1.2, hk.1.2⟩⟩)⟩, ⟨by (with_reducible repeat (first | apply Kd.R_alloc | apply Kd.R_drewN | apply Kd.R_drew)); exact Kd.R_mono HO398.out (fun _ hk => ⟨hk.1.2, ⟨hk.2, hk.1.1⟩⟩)⟩, ⟨R_ HO401⟩, ⟨R_ HO404⟩, ⟨by (with_reducible repeat (first | apply Kd.R_alloc | apply Kd.R_drewN | apply Kd.R_drew)); exact Kd.R_mono HO407.out (fun _ hk => ⟨hk.1.2, ⟨hk.2, hk.1.1⟩⟩)⟩, ⟨by (with_reducible repeat (first | apply Kd.R_alloc | apply Kd.R_drewN | apply Kd.R_drew)); exact Kd.R_mono HO410.out (fun _ hk => ⟨hk.1.2, ⟨hk.2, ⟨hk.1.1.1, hk.1.1.2⟩⟩⟩)⟩, ⟨K_ BK391⟩, ⟨K_ BK411⟩, ⟨bl_⟩⟩
 clear HC20
 (try clear c1); (try clear c2); (try clear p2); (try clear c3); (try clear c4); (try clear p4); (try clear q4); (try clear hx4); (try clear qi4); (try clear c7); (try clear c8); (try clear c9); (try clear c13); (try clear c14); (try clear c15); (try clear c22); (try clear c24); (try clear c38); (try clear c38b0); (try clear c38b1); (try clear c39); (try clear c39b0); (try clear c39b1); (try clear c39b2); (try clear c40); (try clear c40b0); (try clear c40b1); (try clear p42); (try clear q42); (try clear hx42); (try clear qi42); (try clear hcz10_0); (try clear hcz10_1); (try clear hcz10_2); (try clear hcz10_3); (try clear hcz10_4); (try clear hcz21_0); (try clear hcz21_1); (try clear hcz21_2); (try clear hcz21_3)
 (try clear hcz21_4); (try clear hcz25_0); (try clear hcz25_1); (try clear hcz25_2); (try clear hcz25_3); (try clear hcz25_4); (try clear hcz25_5); (try clear hcz32_0); (try clear hcz32_1); (try clear hcz32_2); (try clear hcz32_3); (try clear hcz32_4); (try clear hcz32_5); (try clear hcz34_0); (try clear hcz34_1); (try clear hcz34_2); (try clear hcz34_3); (try clear hcz34_4); (try clear hcz34_5); (try clear hfz10_0); (try clear hfz10_1); (try clear hfz10_2); (try clear hfz10_3); (try clear hfz10_4); (try clear hfz21_0); (try clear hfz21_1); (try clear hfz21_2); (try clear hfz21_3); (try clear hfz21_4); (try clear hfz25_0); (try clear hfz25_1); (try clear hfz25_2); (try clear hfz25_3); (try clear hfz25_4); (try clear hfz25_5); (try clear hfz32_0); (try clear hfz32_1); (try clear hfz32_2); (try clear hfz32_3); (try clear hfz32_4)
 (try clear hfz32_5); (try clear hfz34_0); (try clear hfz34_1); (try clear hfz34_2); (try clear hfz34_3); (try clear hfz34_4); (try clear hfz34_5); (try clear hx422_0); (try clear p2); (try clear p422); (try clear q422)
 obtain ⟨kq, x52_19, rfl, HA, HJ19, HO_8, HO_9, HO_10, HO_412001, HO_412002, HO_412003, HO_412004, HO_412005, BK391, BK411, HB⟩ := hcut
 cases kq with
 | zero => exact absurd HA.out (by simp [jacquardlaw36_CyclesIssues.j1])
 | succ kj19 => ?_
 have H := HA.out
 clear HA
 simp only [jacquardlaw36_CyclesIssues.j1] at H
 by_cases c43 : x52_19 = true
 · subst c43
   have H1 : (some false) = some r := by rw [if_pos rfl] at H; exact H
   clear H
   have H := H1
   clear H1
   exact absurd ((Option.some.inj H).trans HRT_.out) Bool.false_ne_true
 replace c43 := Bool.eq_false_iff.mpr c43
 subst c43
 have H1 : (jacquardlaw36_CyclesIssues.l0 kj19 t412 t415 t418 1 t395 t396 t399 t402 t405 t408) = some r := by rw [if_neg (show ¬ (false = true) by decide)] at H; exact H
 clear H
 have H := H1
 clear H1
 have H' := Aside0.mk H
 clear H
 go_wp2
 go_loopg [12] kj19 (fun kq v12 w' => ∃ (x12_3 : Int), v12 = .int .i64 x12_3 ∧ Aside0 (jacquardlaw36_CyclesIssues.l0 kq t412 t415 t418 x12_3 t395 t396 t399 t402 t405 t408 = some r) ∧ Aside0 (kq ≤ kj19) ∧ Aside0 (Kd.S k49 49 w' w.heap.size (fun k_ => some k_ ≠ ((.slice Ao36 t415.length co36) : Value).ownBlock ∧ some k_ ≠ (v419 : Value).ownBlock ∧ some k_ ≠ ((.slice Ao26 t396.length co26) : Value).ownBlock ∧ some k_ ≠ ((.slice Ao29 t405.length co29) : Value).ownBlock) (.slice Ao35 t412.length co35) t412) ∧ Aside0 (Kd.R (Kd.int .i64) 3 w' w.heap.size (fun k_ => some k_ ≠ (v419 : Value).ownBlock ∧ some k_ ≠ ((.slice Ao26 t396.length co26) : Value).ownBlock ∧ some k_ ≠ ((.slice Ao29 t405.length co29) : Value).ownBlock) (.slice Ao36 t415.length co36) t415) ∧ Aside0 (Kd.R (Kd.int .i64) 3 w' w.heap.size (fun k_ => some k_ ≠ ((.slice Ao36 t415.length co36) : Value).ownBlock ∧ some k_ ≠ ((.slice Ao26 t396.length co26) : Value).ownBlock ∧ some k_ ≠ ((.slice Ao29 t405.length co29) : Value).ownBlock) v419 t418) ∧ Aside0 (Kd.R (Kd.int .i64) 3 w' w.heap.size (fun k_ => some k_ ≠ ((.slice Ao36 t415.length co36) : Value).ownBlock ∧ some k_ ≠ (v419 : Value).ownBlock ∧ some k_ ≠ ((.slice Ao29 t405.length co29) : Value).ownBlock) (.slice Ao26 t396.length co26) t396) ∧ Aside0 (Kd.R k75 75 w' w.heap.size (fun _ => True) (.slice Ao27 t399.length co27) t399) ∧ Aside0 (Kd.R k77 77 w' w.heap.size (fun _ => True) (.slice Ao28 t402.length co28) t402) ∧ Aside0 (Kd.R (Kd.int .i64) 3 w' w.heap.size (fun k_ => some k_ ≠ ((.slice Ao36 t415.length co36) : Value).ownBlock ∧ some k_ ≠ (v419 : Value).ownBlock ∧ some k_ ≠ ((.slice Ao26 t396.length co26) : Value).ownBlock) (.slice Ao29 t405.length co29) t405) ∧ Aside0 (Kd.R k66 66 w' w.heap.size (fun k_ => some k_ ≠ ((.slice Ao36 t415.length co36) : Value).ownBlock ∧ some k_ ≠ (v419 : Value).ownBlock ∧ some k_ ≠ ((.slice Ao26 t396.length co26) : Value).ownBlock ∧ some k_ ≠ ((.slice Ao29 t405.length co29) : Value).ownBlock) (.slice Ao30 t408.length co30) t408) ∧ Aside0 (w'.heap[gb391]? = some (.cells #[(.slice A0_0 l0_0.length c0_0), (.slice A0_1 l0_1.length c0_1), (.slice A0_2 l0_2.length c0_2), (.slice A0_3 l0_3.length c0_3), (.slice A0_4 l0_4.length c0_4)] 36 (0, 0))) ∧ Aside0 (w'.heap[gb411]? = some (.cells #[.string t395, (.slice Ao26 t396.length co26), (.slice Ao27 t399.length co27), (.slice Ao28 t402.length co28), (.slice Ao29 t405.length co29), (.slice Ao30 t408.length co30)] 27 (0, 0))) ∧ Aside0 (Below w.heap.size w w'))
 case atStart => exact ⟨(1), (by first | rfl | (simp; done) | (simp [*]; done)), H', ⟨Nat.le_refl _⟩, ⟨S_ HO_8⟩, ⟨R_ HO_9⟩, ⟨R_ HO_10⟩, ⟨R_ HO_412001⟩, ⟨R_ HO_412002⟩, ⟨R_ HO_412003⟩, ⟨R_ HO_412004⟩, ⟨R_ HO_412005⟩, ⟨K_ BK391⟩, ⟨K_ BK411⟩, ⟨bl_⟩⟩
 clear H'
 (try clear c1); (try clear c2); (try clear p2); (try clear c3); (try clear c4); (try clear p4); (try clear q4); (try clear hx4); (try clear qi4); (try clear c7); (try clear c8); (try clear c9); (try clear c13); (try clear c14); (try clear c15); (try clear c22); (try clear c24); (try clear c38); (try clear c38b0); (try clear c38b1); (try clear c39); (try clear c39b0); (try clear c39b1); (try clear c39b2); (try clear c40); (try clear c40b0); (try clear c40b1); (try clear p42); (try clear q42); (try clear hx42); (try clear qi42); (try clear c43); (try clear hcz10_0); (try clear hcz10_1); (try clear hcz10_2); (try clear hcz10_3); (try clear hcz10_4); (try clear hcz21_0); (try clear hcz21_1); (try clear hcz21_2)
 (try clear hcz21_3); (try clear hcz21_4); (try clear hcz25_0); (try clear hcz25_1); (try clear hcz25_2); (try clear hcz25_3); (try clear hcz25_4); (try clear hcz25_5); (try clear hcz32_0); (try clear hcz32_1); (try clear hcz32_2); (try clear hcz32_3); (try clear hcz32_4); (try clear hcz32_5); (try clear hcz34_0); (try clear hcz34_1); (try clear hcz34_2); (try clear hcz34_3); (try clear hcz34_4); (try clear hcz34_5); (try clear hfz10_0); (try clear hfz10_1); (try clear hfz10_2); (try clear hfz10_3); (try clear hfz10_4); (try clear hfz21_0); (try clear hfz21_1); (try clear hfz21_2); (try clear hfz21_3); (try clear hfz21_4); (try clear hfz25_0); (try clear hfz25_1); (try clear hfz25_2); (try clear hfz25_3); (try clear hfz25_4); (try clear hfz25_5); (try clear hfz32_0); (try clear hfz32_1); (try clear hfz32_2); (try clear hfz32_3)
 (try clear hfz32_4); (try clear hfz32_5); (try clear hfz34_0); (try clear hfz34_1); (try clear hfz34_2); (try clear hfz34_3); (try clear hfz34_4); (try clear hfz34_5); (try clear hx422_0); (try clear p2); (try clear p4); (try clear p42); (try clear p422); (try clear q4); (try clear q42); (try clear q422)
 obtain ⟨x12_3, rfl, HA, HK3, HO_8, HO_9, HO_10, HO_412001, HO_412002, HO_412003, HO_412004, HO_412005, BK391, BK411, HB⟩ := hrel
 cases gk with
 | zero => exact absurd HA.out (by simp [jacquardlaw36_CyclesIssues.l0])
 | succ k3 => ?_
 have H := HA.out
 clear HA
 simp only [jacquardlaw36_CyclesIssues.l0] at H
 by_cases c44 : x12_3 < (t415.length : Int)
 · rw [if_pos c44] at H
   have c44b0 : decide (x12_3 < (t415.length : Int)) = true := decide_eq_true c44
   clear c44
   obtain ⟨ji45, hji45⟩ : ∃ j_ : Int, (wrap64 (x12_3 - 1)) = j_ := ⟨_, rfl⟩
   replace H : (if 0 ≤ (ji45) then (if (ji45) < (t415.length : Int) then (if 0 ≤ (rd t415 (ji45)) then (if (rd t415 (ji45)) < (t412.length : Int) then (if 0 ≤ x12_3 then (if (rd t415 x12_3) = (rd t415 (ji45)) then ((cycles_Self.f k3 t395 t396 t399 t402 t405 t408 t412 (rd t415 x12_3)).bind fun t428 => (jacquardlaw36_CyclesIssues.j3 k3 t412 t415 t418 x12_3 ((rd_T49 t412 (rd t415 (ji45))).f1) (decide (t428 ≥ 0)) t395 t396 t399 t402 t405 t408)) else (jacquardlaw36_CyclesIssues.j3 k3 t412 t415 t418 x12_3 ((rd_T49 t412 (rd t415 (ji45))).f1) false t395 t396 t399 t402 t405 t408)) else (none)) else (none)) else (none)) else (none)) else (none)) = some r := by first | (rw [hji45] at H; exact H) | (simp only [hji45] at H ⊢; exact H)
   have hji45w : (IntKind.i64.wrap (x12_3 - 1)) = ji45 := (i64_w _).trans hji45
   by_cases c46 : 0 ≤ (ji45)
   · rw [if_pos c46] at H
     have c46b0 : decide (0 ≤ (ji45)) = true := decide_eq_true c46
     clear c46
     by_cases c47 : (ji45) < (t415.length : Int)
     · rw [if_pos c47] at H
       have c47b0 : decide ((ji45) < (t415.length : Int)) = true := decide_eq_true c47
       clear c47
       by_cases c48 : 0 ≤ (rd t415 (ji45))
       · rw [if_pos c48] at H
         have c48b0 : decide (0 ≤ (rd t415 (ji45))) = true := decide_eq_true c48
         clear c48
         by_cases c49 : (rd t415 (ji45)) < (t412.length : Int)
         · rw [if_pos c49] at H
           have c49b0 : decide ((rd t415 (ji45)) < (t412.length : Int)) = true := decide_eq_true c49
           clear c49
           have HC50 := Aside0.mk H
           clear H
           have p423 : 0 ≤ ((ji45) : Int) := of_decide_eq_true (by first | (with_reducible assumption) | assumption)
           have q423 : (ji45) < (t415.length : Int) := of_decide_eq_true (by first | (with_reducible assumption) | assumption)
           obtain ⟨ad423, e423, hx423_0⟩ := Kd.at_int (Kd.R_reads' HO_9.out).2.2 (ji45) p423 q423
           cases e423
           replace p423 := eq_true p423
           replace q423 := eq_true q423
           have p424 : 0 ≤ ((rd t415 (ji45)) : Int) := of_decide_eq_true (by first | (with_reducible assumption) | assumption)
           have q424 : (rd t415 (ji45)) < (t412.length : Int) := of_decide_eq_true (by first | (with_reducible assumption) | assumption)
           obtain ⟨ad424, A424_2, c424_2, A424_3, c424_3, A424_4, c424_4, e424, hx424_0, hx424_1, hx424_2, hx424_3, hx424_4, hl424_2, hi424_2, hl424_3, hi424_3, hl424_4, hi424_4⟩ := at_T49 (Kd.S_reads' HO_8.out).2.2 (rd t415 (ji45)) p424 q424
           cases e424
           obtain ⟨ce424, hce424, hMe424, hcc424⟩ := Kd.S_get HO_8.out z49 (rd t415 (ji45)) p424 (by first | exact q424 | exact of_decide_eq_true (by first | (with_reducible assumption) | assumption) | (have e_ := (Kd.S_reads' HO_8.out).1; omega))
           obtain ⟨ve424_2, ve424_3, ve424_4, rfl, ge424_2, ge424_3, ge424_4⟩ := k49_openM hMe424
           have hv424_2 := hcc424 2 _ rfl
           rw [add_field _ _ 2 (by omega)] at hv424_2
           replace hv424_2 := Option.some.inj (hv424_2.symm.trans hx424_2)
           rw [hv424_2] at ge424_2
           have HL424_2 := Aside0.mk (show Kd.R (Kd.int .i64) 3 _ _ _ _ ((rd_T49 t412 (rd t415 (ji45))).f2) from ge424_2)
           clear hv424_2 ge424_2
           have hv424_3 := hcc424 3 _ rfl
           rw [add_field _ _ 3 (by omega)] at hv424_3
           replace hv424_3 := Option.some.inj (hv424_3.symm.trans hx424_3)
           rw [hv424_3] at ge424_3
           have HL424_3 := Aside0.mk (show Kd.R (Kd.int .i64) 3 _ _ _ _ ((rd_T49 t412 (rd t415 (ji45))).f3) from ge424_3)
           clear hv424_3 ge424_3
           have hv424_4 := hcc424 4 _ rfl
           rw [add_field _ _ 4 (by omega)] at hv424_4
           replace hv424_4 := Option.some.inj (hv424_4.symm.trans hx424_4)
           rw [hv424_4] at ge424_4
           have HL424_4 := Aside0.mk (show Kd.R (Kd.int .i64) 3 _ _ _ _ ((rd_T49 t412 (rd t415 (ji45))).f4) from ge424_4)
           clear hv424_4 ge424_4
           clear hcc424 hce424
           have HR424_2 := Aside0.mk hi424_2
           have HC424_2 := Aside0.mk hl424_2
           clear hi424_2 hl424_2
           have HR424_3 := Aside0.mk hi424_3
           have HC424_3 := Aside0.mk hl424_3
           clear hi424_3 hl424_3
           have HR424_4 := Aside0.mk hi424_4
           have HC424_4 := Aside0.mk hl424_4
           clear hi424_4 hl424_4
           replace p424 := eq_true p424
           replace q424 := eq_true q424
           go_upto_region 13 with (fail)
           go_cut [87] (fun v87 wc => ∃ (kq : Nat) (x87_49 : Bool), v87 = .bool x87_49 ∧ Aside0 (jacquardlaw36_CyclesIssues.j3 kq t412 t415 t418 x12_3 ((rd_T49 t412 (rd t415 (ji45))).f1) x87_49 t395 t396 t399 t402 t405 t408 = some r) ∧ Aside0 (kq ≤ k3) ∧ Aside0 (Kd.S k49 49 wc w.heap.size (fun k_ => some k_ ≠ ((.slice (some ad423) t415.length co36) : Value).ownBlock ∧ some k_ ≠ (v419 : Value).ownBlock ∧ some k_ ≠ ((.slice Ao26 t396.length co26) : Value).ownBlock ∧ some k_ ≠ ((.slice Ao29 t405.length co29) : Value).ownBlock) (.slice (some ad424) t412.length co35) t412) ∧ Aside0 (Kd.R (Kd.int .i64) 3 wc w.heap.size (fun k_ => some k_ ≠ (v419 : Value).ownBlock ∧ some k_ ≠ ((.slice Ao26 t396.length co26) : Value).ownBlock ∧ some k_ ≠ ((.slice Ao29 t405.length co29) : Value).ownBlock) (.slice (some ad423) t415.length co36) t415) ∧ Aside0 (Kd.R (Kd.int .i64) 3 wc w.heap.size (fun k_ => some k_ ≠ ((.slice (some ad423) t415.length co36) : Value).ownBlock ∧ some k_ ≠ ((.slice Ao26 t396.length co26) : Value).ownBlock ∧ some k_ ≠ ((.slice Ao29 t405.length co29) : Value).ownBlock) v419 t418) ∧ Aside0 (Kd.R (Kd.int .i64) 3 wc w.heap.size (fun k_ => some k_ ≠ ((.slice (some ad423) t415.length co36) : Value).ownBlock ∧ some k_ ≠ (v419 : Value).ownBlock ∧ some k_ ≠ ((.slice Ao29 t405.length co29) : Value).ownBlock) (.slice Ao26 t396.length co26) t396) ∧ Aside0 (Kd.R k75 75 wc w.heap.size (fun _ => True) (.slice Ao27 t399.length co27) t399) ∧ Aside0 (Kd.R k77 77 wc w.heap.size (fun _ => True) (.slice Ao28 t402.length co28) t402) ∧ Aside0 (Kd.R (Kd.int .i64) 3 wc w.heap.size (fun k_ => some k_ ≠ ((.slice (some ad423) t415.length co36) : Value).ownBlock ∧ some k_ ≠ (v419 : Value).ownBlock ∧ some k_ ≠ ((.slice Ao26 t396.length co26) : Value).ownBlock) (.slice Ao29 t405.length co29) t405) ∧ Aside0 (Kd.R k66 66 wc w.heap.size (fun k_ => some k_ ≠ ((.slice (some ad423) t415.length co36) : Value).ownBlock ∧ some k_ ≠ (v419 : Value).ownBlock ∧ some k_ ≠ ((.slice Ao26 t396.length co26) : Value).ownBlock ∧ some k_ ≠ ((.slice Ao29 t405.length co29) : Value).ownBlock) (.slice Ao30 t408.length co30) t408) ∧ Aside0 (wc.heap[gb391]? = some (.cells #[(.slice A0_0 l0_0.length c0_0), (.slice A0_1 l0_1.length c0_1), (.slice A0_2 l0_2.length c0_2), (.slice A0_3 l0_3.length c0_3), (.slice A0_4 l0_4.length c0_4)] 36 (0, 0))) ∧ Aside0 (wc.heap[gb411]? = some (.cells #[.string t395, (.slice Ao26 t396.length co26), (.slice Ao27 t399.length co27), (.slice Ao28 t402.length co28), (.slice Ao29 t405.length co29), (.slice Ao30 t408.length co30)] 27 (0, 0))) ∧ Aside0 (Kd.C (Kd.int .i64) wc A424_2 ((rd_T49 t412 (rd t415 (ji45))).f2).length ((rd_T49 t412 (rd t415 (ji45))).f2)) ∧ Aside0 (Kd.C (Kd.int .i64) wc A424_3 ((rd_T49 t412 (rd t415 (ji45))).f3).length ((rd_T49 t412 (rd t415 (ji45))).f3)) ∧ Aside0 (Kd.C (Kd.int .i64) wc A424_4 ((rd_T49 t412 (rd t415 (ji45))).f4).length ((rd_T49 t412 (rd t415 (ji45))).f4)) ∧ Aside0 (Below w.heap.size w wc))
           case first =>
            have H := HC50.out
            clear HC50
            by_cases c51 : 0 ≤ x12_3
            · rw [if_pos c51] at H
              have c51b0 : decide (0 ≤ x12_3) = true := decide_eq_true c51
              clear c51
              (first | rw [c51b0] | (simp only [i64_w, i32_w]; rw [c51b0]) | skip)
              by_cases c52 : (rd t415 x12_3) = (rd t415 (ji45))
              · rw [if_pos c52] at H
                have c52b0 : ((rd t415 x12_3) == (rd t415 (ji45))) = true := beq_iff_eq.mpr c52
                have c52b1 : ((rd t415 x12_3) != (rd t415 (ji45))) = false := bne_eq_false_iff_eq.mpr c52
                clear c52
                replace H := Option.bind_eq_some_iff.mp H
                obtain ⟨t428, A530, H⟩ := H
                replace H : (jacquardlaw36_CyclesIssues.j3 k3 t412 t415 t418 x12_3 ((rd_T49 t412 (rd t415 (ji45))).f1) (decide (t428 ≥ 0)) t395 t396 t399 t402 t405 t408) = some r := H
                have A53 := Aside0.mk A530
                clear A530
                have H' := Aside0.mk H
                clear H
                try go_wp2
                have n0_ := Aside0.mk (Kd.S_drew HO_8.out)
                have n1_ := Aside0.mk (Kd.R_drew HO_9.out)
                have n2_ := Aside0.mk (Kd.R_drew HO_10.out)
                have n3_ := Aside0.mk (Kd.R_drew HO_412001.out)
                have n4_ := Aside0.mk (Kd.R_drew HO_412002.out)
                have n5_ := Aside0.mk (Kd.R_drew HO_412003.out)
                have n6_ := Aside0.mk (Kd.R_drew HO_412004.out)
                have n7_ := Aside0.mk (Kd.R_drew HO_412005.out)
                have n8_ := Aside0.mk (Kd.R_drew HL424_2.out)
                have n9_ := Aside0.mk (Kd.R_drew HL424_3.out)
                have n10_ := Aside0.mk (Kd.R_drew HL424_4.out)
                have n11_ := Aside0.mk (blk_drew BK391.out)
                have n12_ := Aside0.mk (blk_drew BK411.out)
                have n13_ := Aside0.mk (Kd.C_drew HR424_2.out)
                have n14_ := Aside0.mk (Kd.C_drew HR424_3.out)
                have n15_ := Aside0.mk (Kd.C_drew HR424_4.out)
                have n16_ := Aside0.mk (below_drew1 HB.out)
                clear HO_8
                clear HO_9
                clear HO_10
                clear HO_412001
                clear HO_412002
                clear HO_412003
                clear HO_412004
                clear HO_412005
                clear HL424_2
                clear HL424_3
                clear HL424_4
                clear BK391
                clear BK411
                clear HR424_2
                clear HR424_3
                clear HR424_4
                clear HB
                have HO_8 := n0_
                have HO_9 := n1_
                have HO_10 := n2_
                have HO_412001 := n3_
                have HO_412002 := n4_
                have HO_412003 := n5_
                have HO_412004 := n6_
                have HO_412005 := n7_
                have HL424_2 := n8_
                have HL424_3 := n9_
                have HL424_4 := n10_
                have BK391 := n11_
                have BK411 := n12_
                have HR424_2 := n13_
                have HR424_3 := n14_
                have HR424_4 := n15_
                have HB := n16_
                clear n0_ n1_ n2_ n3_ n4_ n5_ n6_ n7_ n8_ n9_ n10_ n11_ n12_ n13_ n14_ n15_ n16_
                have p425 : 0 ≤ (x12_3 : Int) := of_decide_eq_true (by first | (with_reducible assumption) | assumption)
                have q425 : x12_3 < (t415.length : Int) := of_decide_eq_true (by first | (with_reducible assumption) | assumption)
                obtain ⟨ad425, e425, hx425_0⟩ := Kd.at_int (Kd.R_reads' HO_9.out).2.2 x12_3 p425 q425
                obtain rfl : ad423 = ad425 := (by injection e425)
                replace p425 := eq_true p425
                replace q425 := eq_true q425
                have p426 : 0 ≤ ((ji45) : Int) := of_decide_eq_true (by first | (with_reducible assumption) | assumption)
                have q426 : (ji45) < (t415.length : Int) := of_decide_eq_true (by first | (with_reducible assumption) | assumption)
                obtain ⟨ad426, e426, hx426_0⟩ := Kd.at_int (Kd.R_reads' HO_9.out).2.2 (ji45) p426 q426
                obtain rfl : ad423 = ad426 := (by injection e426)
                replace p426 := eq_true p426
                replace q426 := eq_true q426
                have p427 : 0 ≤ (x12_3 : Int) := of_decide_eq_true (by first | (with_reducible assumption) | assumption)
                have q427 : x12_3 < (t415.length : Int) := of_decide_eq_true (by first | (with_reducible assumption) | assumption)
                obtain ⟨ad427, e427, hx427_0⟩ := Kd.at_int (Kd.R_reads' HO_9.out).2.2 x12_3 p427 q427
                obtain rfl : ad423 = ad427 := (by injection e427)
                replace p427 := eq_true p427
                replace q427 := eq_true q427
                refine start_ (n := 20) (S := fun w' => w'.cell? ⟨gb411, 0, none⟩ = some (.string t395) ∧ w'.cell? ⟨gb411, 1, none⟩ = some (.slice Ao26 t396.length co26) ∧ w'.cell? ⟨gb411, 2, none⟩ = some (.slice Ao27 t399.length co27) ∧ w'.cell? ⟨gb411, 3, none⟩ = some (.slice Ao28 t402.length co28) ∧ w'.cell? ⟨gb411, 4, none⟩ = some (.slice Ao29 t405.length co29) ∧ w'.cell? ⟨gb411, 5, none⟩ = some (.slice Ao30 t408.length co30) ∧ w'.cell? (ad423.add (x12_3).toNat) = some (.int .i64 (rd t415 x12_3)) ∧ w'.cell? (ad423.add ((ji45)).toNat) = some (.int .i64 (rd t415 (ji45))) ∧ w'.cell? (ad423.add (x12_3).toNat) = some (.int .i64 (rd t415 x12_3))) (ds := []) (bz 20 0) (by kernel_rfl) rfl rfl ⟨(blk_cell BK411.out 0).trans rfl, (blk_cell BK411.out 1).trans rfl, (blk_cell BK411.out 2).trans rfl, (blk_cell BK411.out 3).trans rfl, (blk_cell BK411.out 4).trans rfl, (blk_cell BK411.out 5).trans rfl, hx425_0, hx426_0, hx427_0⟩ (fun hHeld => ?_); refine with_tabW jacquardlaw36_CyclesIssues.tab13 jacquardlaw36_CyclesIssues.bits13 (fun HT_ HW_ => ?_)
                generalize wr.drew = w54 at HO_8 HO_9 HO_10 HO_412001 HO_412002 HO_412003 HO_412004 HO_412005 HL424_2 HL424_3 HL424_4 BK391 BK411 HR424_2 HR424_3 HR424_4 HB hx425_0 hx426_0 hx427_0 hHeld ⊢
                refine pu_ 0 68 HT_ ?_
                refine pu_ 1 69 HT_ ?_
                refine pu_ 2 70 HT_ ?_
                refine pu_ 4 72 HT_ ?_
                refine pu_ 5 73 HT_ ?_
                refine pu_ 6 74 HT_ ?_
                refine pu_ 7 75 HT_ ?_
                refine tk_ 3 71 HT_ HW_ hHeld ?_ (hy := by rintro w' ⟨s0, s1, s2, s3, s4, s5, s6, s7, s8⟩; go_simp; with_reducible rfl)
                refine tk_ 8 76 HT_ HW_ hHeld ?_ (hy := by rintro w' ⟨s0, s1, s2, s3, s4, s5, s6, s7, s8⟩; go_simp; with_reducible rfl)
                refine pu_ 9 77 HT_ ?_
                refine pu_ 10 78 HT_ ?_
                refine pu_ 12 80 HT_ ?_
                refine pu_ 13 81 HT_ ?_
                refine pu_ 14 82 HT_ ?_
                refine pu_ 15 83 HT_ ?_
                refine tk_ 11 79 HT_ HW_ hHeld ?_ (hy := by rintro w' ⟨s0, s1, s2, s3, s4, s5, s6, s7, s8⟩; go_simp; with_reducible rfl)
                refine tk_ 16 84 HT_ HW_ hHeld ?_ (hy := by rintro w' ⟨s0, s1, s2, s3, s4, s5, s6, s7, s8⟩; go_simp; with_reducible rfl)
                refine on_ 17 (some 85) HT_ (fun K hK => ?_)
                refine gs_ Try.func10 #[.agg #[.string t395, .slice Ao26 t396.length co26, .slice Ao27 t399.length co27, .slice Ao28 t402.length co28, .slice Ao29 t405.length co29, .slice Ao30 t408.length co30], .slice (some ad424) t412.length co35, .int .i64 (rd t415 x12_3)] ?_
                with_reducible refine (cycles_Self.calls k3 t395 _ _ t396 _ _ t399 _ _ t402 _ _ t405 _ _ t408 _ _ t412 (rd t415 x12_3) t428 _ ?side1 ?side2 ?side3 ?side4 ?side5 ?side6 ?side7 ?side8 ?side9 ?side10 ?side11 ?side12 A53.out).mono ?_
                (case side1 => exact CR_ HO_412001)
                (case side2 => exact (Kd.R_reads' HO_412001.out).2.1)
                (case side3 => exact CR_ HO_412002)
                (case side4 => exact (Kd.R_reads' HO_412002.out).2.1)
                (case side5 => exact CR_ HO_412003)
                (case side6 => exact (Kd.R_reads' HO_412003.out).2.1)
                (case side7 => exact CR_ HO_412004)
                (case side8 => exact (Kd.R_reads' HO_412004.out).2.1)
                (case side9 => exact CR_ HO_412005)
                (case side10 => exact (Kd.R_reads' HO_412005.out).2.1)
                (case side11 => exact CS_ HO_8)
                (case side12 => exact (Kd.S_reads' HO_8.out).2.1)
                rintro e w55 ⟨rfl, hb⟩
                have HS6_ := (hb.cell (World.block_lt_of_cell? _ _ (hHeld.2.2.2.2.2.2.1))).trans (hHeld.2.2.2.2.2.2.1)
                have HS7_ := (hb.cell (World.block_lt_of_cell? _ _ (hHeld.2.2.2.2.2.2.2.1))).trans (hHeld.2.2.2.2.2.2.2.1)
                have HS8_ := (hb.cell (World.block_lt_of_cell? _ _ (hHeld.2.2.2.2.2.2.2.2))).trans (hHeld.2.2.2.2.2.2.2.2)
                refine ⟨_, rfl, ?_⟩
                have n0_ := Aside0.mk (Kd.S_below (S_ HO_8) hb)
                have n1_ := Aside0.mk (Kd.R_below (R_ HO_9) hb)
                have n2_ := Aside0.mk (Kd.R_below (R_ HO_10) hb)
                have n3_ := Aside0.mk (Kd.R_below (R_ HO_412001) hb)
                have n4_ := Aside0.mk (Kd.R_below (R_ HO_412002) hb)
                have n5_ := Aside0.mk (Kd.R_below (R_ HO_412003) hb)
                have n6_ := Aside0.mk (Kd.R_below (R_ HO_412004) hb)
                have n7_ := Aside0.mk (Kd.R_below (R_ HO_412005) hb)
                have n8_ := Aside0.mk (Kd.R_below (by (with_reducible repeat (first | apply Kd.R_alloc | apply Kd.R_drewN | apply Kd.R_drew)); exact HL424_2.out) hb)
                have n9_ := Aside0.mk (Kd.R_below (by (with_reducible repeat (first | apply Kd.R_alloc | apply Kd.R_drewN | apply Kd.R_drew)); exact HL424_3.out) hb)
                have n10_ := Aside0.mk (Kd.R_below (by (with_reducible repeat (first | apply Kd.R_alloc | apply Kd.R_drewN | apply Kd.R_drew)); exact HL424_4.out) hb)
                have n11_ := Aside0.mk (blk_below (K_ BK391) hb)
                have n12_ := Aside0.mk (blk_below (K_ BK411) hb)
                have n13_ := Aside0.mk (Kd.C_below (by repeat (first | (with_reducible exact HR424_2.out) | (with_reducible refine Kd.C_alloc ?_ _) | (with_reducible refine Kd.C_drewN ?_ _) | (with_reducible refine Kd.C_drew ?_) | exact HR424_2.out)) hb)
                have n14_ := Aside0.mk (Kd.C_below (by repeat (first | (with_reducible exact HR424_3.out) | (with_reducible refine Kd.C_alloc ?_ _) | (with_reducible refine Kd.C_drewN ?_ _) | (with_reducible refine Kd.C_drew ?_) | exact HR424_3.out)) hb)
                have n15_ := Aside0.mk (Kd.C_below (by repeat (first | (with_reducible exact HR424_4.out) | (with_reducible refine Kd.C_alloc ?_ _) | (with_reducible refine Kd.C_drewN ?_ _) | (with_reducible refine Kd.C_drew ?_) | exact HR424_4.out)) hb)
                have n16_ := Aside0.mk (below_step bl_ hb)
                clear HO_8
                clear HO_9
                clear HO_10
                clear HO_412001
                clear HO_412002
                clear HO_412003
                clear HO_412004
                clear HO_412005
                clear HL424_2
                clear HL424_3
                clear HL424_4
                clear BK391
                clear BK411
                clear HR424_2
                clear HR424_3
                clear HR424_4
                clear HB
                have HO_8 := n0_
                have HO_9 := n1_
                have HO_10 := n2_
                have HO_412001 := n3_
                have HO_412002 := n4_
                have HO_412003 := n5_
                have HO_412004 := n6_
                have HO_412005 := n7_
                have HL424_2 := n8_
                have HL424_3 := n9_
                have HL424_4 := n10_
                have BK391 := n11_
                have BK411 := n12_
                have HR424_2 := n13_
                have HR424_3 := n14_
                have HR424_4 := n15_
                have HB := n16_
                clear n0_ n1_ n2_ n3_ n4_ n5_ n6_ n7_ n8_ n9_ n10_ n11_ n12_ n13_ n14_ n15_ n16_
                (try clear hb)
                (try clear hb2)
                (try clear hk)
                (try clear hi)
                refine hK.out _ _ ⟨(blk_cell BK411.out 0).trans rfl, (blk_cell BK411.out 1).trans rfl, (blk_cell BK411.out 2).trans rfl, (blk_cell BK411.out 3).trans rfl, (blk_cell BK411.out 4).trans rfl, (blk_cell BK411.out 5).trans rfl, HS6_, HS7_, HS8_⟩ (fun hHeld => ?_)
                clear hK K
                refine no_ 85 ?_
                refine pu_ 18 86 HT_ ?_
                refine pu_ 19 87 HT_ ?_
                refine done_ (done_of HT_.out (by kernel_rfl)) ?_
                try go_wp2
                go_meet
                case rel => exact ⟨_, (decide (t428 ≥ 0)), (by first | rfl | (simp; done) | (simp [*]; done)), H', ⟨by have := HJ3.out; have := HJ19.out; have := HK3.out; first | omega | exact Nat.le_refl _⟩, ⟨S_ HO_8⟩, ⟨R_ HO_9⟩, ⟨R_ HO_10⟩, ⟨R_ HO_412001⟩, ⟨R_ HO_412002⟩, ⟨R_ HO_412003⟩, ⟨R_ HO_412004⟩, ⟨R_ HO_412005⟩, ⟨K_ BK391⟩, ⟨K_ BK411⟩, ⟨by repeat (first | (with_reducible exact HR424_2.out) | (with_reducible refine Kd.C_alloc ?_ _) | (with_reducible refine Kd.C_drewN ?_ _) | (with_reducible refine Kd.C_drew ?_) | exact HR424_2.out)⟩, ⟨by repeat (first | (with_reducible exact HR424_3.out) | (with_reducible refine Kd.C_alloc ?_ _) | (with_reducible refine Kd.C_drewN ?_ _) | (with_reducible refine Kd.C_drew ?_) | exact HR424_3.out)⟩, ⟨by repeat (first | (with_reducible exact HR424_4.out) | (with_reducible refine Kd.C_alloc ?_ _) | (with_reducible refine Kd.C_drewN ?_ _) | (with_reducible refine Kd.C_drew ?_) | exact HR424_4.out)⟩, ⟨bl_⟩⟩
              rw [if_neg c52] at H
              have c52b0 : ((rd t415 x12_3) == (rd t415 (ji45))) = false := beq_eq_false_iff_ne.mpr c52
              have c52b1 : ((rd t415 x12_3) != (rd t415 (ji45))) = true := bne_iff_ne.mpr c52
              have H' := Aside0.mk H
              clear H
              try go_wp2
              have n0_ := Aside0.mk (Kd.S_drew HO_8.out)
              have n1_ := Aside0.mk (Kd.R_drew HO_9.out)
              have n2_ := Aside0.mk (Kd.R_drew HO_10.out)
              have n3_ := Aside0.mk (Kd.R_drew HO_412001.out)
              have n4_ := Aside0.mk (Kd.R_drew HO_412002.out)
              have n5_ := Aside0.mk (Kd.R_drew HO_412003.out)
              have n6_ := Aside0.mk (Kd.R_drew HO_412004.out)
              have n7_ := Aside0.mk (Kd.R_drew HO_412005.out)
              have n8_ := Aside0.mk (Kd.R_drew HL424_2.out)
              have n9_ := Aside0.mk (Kd.R_drew HL424_3.out)
              have n10_ := Aside0.mk (Kd.R_drew HL424_4.out)
              have n11_ := Aside0.mk (blk_drew BK391.out)
              have n12_ := Aside0.mk (blk_drew BK411.out)
              have n13_ := Aside0.mk (Kd.C_drew HR424_2.out)
              have n14_ := Aside0.mk (Kd.C_drew HR424_3.out)
              have n15_ := Aside0.mk (Kd.C_drew HR424_4.out)
              have n16_ := Aside0.mk (below_drew1 HB.out)
              clear HO_8
              clear HO_9
              clear HO_10
              clear HO_412001
              clear HO_412002
              clear HO_412003
              clear HO_412004
              clear HO_412005
              clear HL424_2
              clear HL424_3
              clear HL424_4
              clear BK391
              clear BK411
              clear HR424_2
              clear HR424_3
              clear HR424_4
              clear HB
              have HO_8 := n0_
              have HO_9 := n1_
              have HO_10 := n2_
              have HO_412001 := n3_
              have HO_412002 := n4_
              have HO_412003 := n5_
              have HO_412004 := n6_
              have HO_412005 := n7_
              have HL424_2 := n8_
              have HL424_3 := n9_
              have HL424_4 := n10_
              have BK391 := n11_
              have BK411 := n12_
              have HR424_2 := n13_
              have HR424_3 := n14_
              have HR424_4 := n15_
              have HB := n16_
              clear n0_ n1_ n2_ n3_ n4_ n5_ n6_ n7_ n8_ n9_ n10_ n11_ n12_ n13_ n14_ n15_ n16_
              have p425 : 0 ≤ (x12_3 : Int) := of_decide_eq_true (by first | (with_reducible assumption) | assumption)
              have q425 : x12_3 < (t415.length : Int) := of_decide_eq_true (by first | (with_reducible assumption) | assumption)
              obtain ⟨ad425, e425, hx425_0⟩ := Kd.at_int (Kd.R_reads' HO_9.out).2.2 x12_3 p425 q425
              obtain rfl : ad423 = ad425 := (by injection e425)
              replace p425 := eq_true p425
              replace q425 := eq_true q425
              have p426 : 0 ≤ ((ji45) : Int) := of_decide_eq_true (by first | (with_reducible assumption) | assumption)
              have q426 : (ji45) < (t415.length : Int) := of_decide_eq_true (by first | (with_reducible assumption) | assumption)
              obtain ⟨ad426, e426, hx426_0⟩ := Kd.at_int (Kd.R_reads' HO_9.out).2.2 (ji45) p426 q426
              obtain rfl : ad423 = ad426 := (by injection e426)
              replace p426 := eq_true p426
              replace q426 := eq_true q426
              refine start_ (n := 20) (S := fun w' => w'.cell? (ad423.add (x12_3).toNat) = some (.int .i64 (rd t415 x12_3)) ∧ w'.cell? (ad423.add ((ji45)).toNat) = some (.int .i64 (rd t415 (ji45)))) (ds := []) (bz 20 0) (by kernel_rfl) rfl rfl ⟨hx425_0, hx426_0⟩ (fun hHeld => ?_); refine with_tabW jacquardlaw36_CyclesIssues.tab13 jacquardlaw36_CyclesIssues.bits13 (fun HT_ HW_ => ?_)
              generalize wr.drew = w56 at HO_8 HO_9 HO_10 HO_412001 HO_412002 HO_412003 HO_412004 HO_412005 HL424_2 HL424_3 HL424_4 BK391 BK411 HR424_2 HR424_3 HR424_4 HB hx425_0 hx426_0 hHeld ⊢
              refine pu_ 0 68 HT_ ?_
              refine pu_ 1 69 HT_ ?_
              refine pu_ 2 70 HT_ ?_
              refine pu_ 4 72 HT_ ?_
              refine pu_ 5 73 HT_ ?_
              refine pu_ 6 74 HT_ ?_
              refine pu_ 7 75 HT_ ?_
              refine tk_ 3 71 HT_ HW_ hHeld ?_ (hy := by rintro w' ⟨s0, s1⟩; go_simp; with_reducible rfl)
              refine tk_ 8 76 HT_ HW_ hHeld ?_ (hy := by rintro w' ⟨s0, s1⟩; go_simp; with_reducible rfl)
              refine pu_ 9 77 HT_ ?_
              refine pu_ 10 78 HT_ ?_
              refine pn_ 11 79 HT_ ?_
              refine pn_ 12 80 HT_ ?_
              refine pn_ 13 81 HT_ ?_
              refine pn_ 14 82 HT_ ?_
              refine pn_ 15 83 HT_ ?_
              refine pn_ 16 84 HT_ ?_
              refine pn_ 17 85 HT_ ?_
              refine pn_ 18 86 HT_ ?_
              refine pu_ 19 87 HT_ ?_
              refine done_ (done_of HT_.out (by kernel_rfl)) ?_
              try go_wp2
              go_meet
              case rel => exact ⟨_, (false), (by first | rfl | (simp; done) | (simp [*]; done)), H', ⟨by have := HJ3.out; have := HJ19.out; have := HK3.out; first | omega | exact Nat.le_refl _⟩, ⟨S_ HO_8⟩, ⟨R_ HO_9⟩, ⟨R_ HO_10⟩, ⟨R_ HO_412001⟩, ⟨R_ HO_412002⟩, ⟨R_ HO_412003⟩, ⟨R_ HO_412004⟩, ⟨R_ HO_412005⟩, ⟨K_ BK391⟩, ⟨K_ BK411⟩, ⟨by repeat (first | (with_reducible exact HR424_2.out) | (with_reducible refine Kd.C_alloc ?_ _) | (with_reducible refine Kd.C_drewN ?_ _) | (with_reducible refine Kd.C_drew ?_) | exact HR424_2.out)⟩, ⟨by repeat (first | (with_reducible exact HR424_3.out) | (with_reducible refine Kd.C_alloc ?_ _) | (with_reducible refine Kd.C_drewN ?_ _) | (with_reducible refine Kd.C_drew ?_) | exact HR424_3.out)⟩, ⟨by repeat (first | (with_reducible exact HR424_4.out) | (with_reducible refine Kd.C_alloc ?_ _) | (with_reducible refine Kd.C_drewN ?_ _) | (with_reducible refine Kd.C_drew ?_) | exact HR424_4.out)⟩, ⟨bl_⟩⟩
            rw [if_neg c51] at H
            exact absurd H (by simp)
           clear HC50
           (try clear c1); (try clear p2); (try clear c4); (try clear p4); (try clear q4); (try clear hx4); (try clear c5); (try clear c10); (try clear c42); (try clear p42); (try clear q42); (try clear hx42); (try clear c46); (try clear c46b0); (try clear c47); (try clear c47b0); (try clear c48); (try clear c48b0); (try clear c49); (try clear c49b0); (try clear c51); (try clear c51b0); (try clear c52); (try clear c52b0); (try clear c52b1); (try clear hx423_0); (try clear hx424_0); (try clear hx424_1); (try clear hx424_2); (try clear hx424_3); (try clear hx424_4); (try clear hx425_0); (try clear hx426_0); (try clear hx427_0); (try clear p423); (try clear p424); (try clear p425); (try clear p426); (try clear p427); (try clear q423)
           (try clear q424); (try clear q425); (try clear q426); (try clear q427)
           obtain ⟨kq, x87_49, rfl, HA, HJ49, HO_8, HO_9, HO_10, HO_412001, HO_412002, HO_412003, HO_412004, HO_412005, BK391, BK411, HR424_2, HR424_3, HR424_4, HB⟩ := hcut
           cases kq with
           | zero => exact absurd HA.out (by simp [jacquardlaw36_CyclesIssues.j3])
           | succ kj49 => ?_
           have H := HA.out
           clear HA
           simp only [jacquardlaw36_CyclesIssues.j3] at H
           by_cases c57 : x87_49 = true
           · subst c57
             have H1 : (if 0 ≤ x12_3 then (if x12_3 < (t415.length : Int) then (if 0 ≤ (rd t415 x12_3) then (if (rd t415 x12_3) < (t412.length : Int) then (if x12_3 < (t418.length : Int) then (if 0 ≤ (wrap64 (x12_3 - 1)) then (if (wrap64 (x12_3 - 1)) < (t418.length : Int) then (if (wrap64 ((rd t418 x12_3) - (rd t418 (wrap64 (x12_3 - 1))))) = ((rd_T49 t412 (rd t415 x12_3)).f0) then (jacquardlaw36_CyclesIssues.l0 kj49 t412 t415 t418 (wrap64 (x12_3 + 1)) t395 t396 t399 t402 t405 t408) else (some false)) else (none)) else (none)) else (none)) else (none)) else (none)) else (none)) else (none)) = some r := by rw [if_pos rfl] at H; exact H
             clear H
             have H := H1
             clear H1
             by_cases c58 : 0 ≤ x12_3
             · rw [if_pos c58] at H
               have c58b0 : decide (0 ≤ x12_3) = true := decide_eq_true c58
               clear c58
               by_cases c59 : x12_3 < (t415.length : Int)
               · rw [if_pos c59] at H
                 have c59b0 : decide (x12_3 < (t415.length : Int)) = true := decide_eq_true c59
                 clear c59
                 by_cases c60 : 0 ≤ (rd t415 x12_3)
                 · rw [if_pos c60] at H
                   have c60b0 : decide (0 ≤ (rd t415 x12_3)) = true := decide_eq_true c60
                   clear c60
                   by_cases c61 : (rd t415 x12_3) < (t412.length : Int)
                   · rw [if_pos c61] at H
                     have c61b0 : decide ((rd t415 x12_3) < (t412.length : Int)) = true := decide_eq_true c61
                     clear c61
                     by_cases c62 : x12_3 < (t418.length : Int)
                     · rw [if_pos c62] at H
                       have c62b0 : decide (x12_3 < (t418.length : Int)) = true := decide_eq_true c62
                       clear c62
                       have hji63 := hji45
                       replace H : (if 0 ≤ (ji45) then (if (ji45) < (t418.length : Int) then (if (wrap64 ((rd t418 x12_3) - (rd t418 (ji45)))) = ((rd_T49 t412 (rd t415 x12_3)).f0) then (jacquardlaw36_CyclesIssues.l0 kj49 t412 t415 t418 (wrap64 (x12_3 + 1)) t395 t396 t399 t402 t405 t408) else (some false)) else (none)) else (none)) = some r := by first | (rw [hji63] at H; exact H) | (simp only [hji63] at H ⊢; exact H)
                       have hji63w : (IntKind.i64.wrap (x12_3 - 1)) = ji45 := (i64_w _).trans hji63
                       by_cases c64 : 0 ≤ (ji45)
                       · rw [if_pos c64] at H
                         have c64b0 : decide (0 ≤ (ji45)) = true := decide_eq_true c64
                         clear c64
                         by_cases c65 : (ji45) < (t418.length : Int)
                         · rw [if_pos c65] at H
                           have c65b0 : decide ((ji45) < (t418.length : Int)) = true := decide_eq_true c65
                           clear c65
                           by_cases c66 : (wrap64 ((rd t418 x12_3) - (rd t418 (ji45)))) = ((rd_T49 t412 (rd t415 x12_3)).f0)
                           · rw [if_pos c66] at H
                             have c66b0 : ((wrap64 ((rd t418 x12_3) - (rd t418 (ji45)))) == ((rd_T49 t412 (rd t415 x12_3)).f0)) = true := beq_iff_eq.mpr c66
                             have c66b1 : ((wrap64 ((rd t418 x12_3) - (rd t418 (ji45)))) != ((rd_T49 t412 (rd t415 x12_3)).f0)) = false := bne_eq_false_iff_eq.mpr c66
                             clear c66
                             have H' := Aside0.mk H
                             clear H
                             have p429 : 0 ≤ (x12_3 : Int) := of_decide_eq_true (by first | (with_reducible assumption) | assumption)
                             have q429 : x12_3 < (t415.length : Int) := of_decide_eq_true (by first | (with_reducible assumption) | assumption)
                             obtain ⟨ad429, e429, hx429_0⟩ := Kd.at_int (Kd.R_reads' HO_9.out).2.2 x12_3 p429 q429
                             obtain rfl : ad423 = ad429 := (by injection e429)
                             replace p429 := eq_true p429
                             replace q429 := eq_true q429
                             have p430 : 0 ≤ ((rd t415 x12_3) : Int) := of_decide_eq_true (by first | (with_reducible assumption) | assumption)
                             have q430 : (rd t415 x12_3) < (t412.length : Int) := of_decide_eq_true (by first | (with_reducible assumption) | assumption)
                             obtain ⟨ad430, A430_2, c430_2, A430_3, c430_3, A430_4, c430_4, e430, hx430_0, hx430_1, hx430_2, hx430_3, hx430_4, hl430_2, hi430_2, hl430_3, hi430_3, hl430_4, hi430_4⟩ := at_T49 (Kd.S_reads' HO_8.out).2.2 (rd t415 x12_3) p430 q430
                             obtain rfl : ad424 = ad430 := (by injection e430)
                             obtain ⟨ce430, hce430, hMe430, hcc430⟩ := Kd.S_get HO_8.out z49 (rd t415 x12_3) p430 (by first | exact q430 | exact of_decide_eq_true (by first | (with_reducible assumption) | assumption) | (have e_ := (Kd.S_reads' HO_8.out).1; omega))
                             obtain ⟨ve430_2, ve430_3, ve430_4, rfl, ge430_2, ge430_3, ge430_4⟩ := k49_openM hMe430
                             have hv430_2 := hcc430 2 _ rfl
                             rw [add_field _ _ 2 (by omega)] at hv430_2
                             replace hv430_2 := Option.some.inj (hv430_2.symm.trans hx430_2)
                             rw [hv430_2] at ge430_2
                             have HL430_2 := Aside0.mk (show Kd.R (Kd.int .i64) 3 _ _ _ _ ((rd_T49 t412 (rd t415 x12_3)).f2) from ge430_2)
                             clear hv430_2 ge430_2
                             have hv430_3 := hcc430 3 _ rfl
                             rw [add_field _ _ 3 (by omega)] at hv430_3
                             replace hv430_3 := Option.some.inj (hv430_3.symm.trans hx430_3)
                             rw [hv430_3] at ge430_3
                             have HL430_3 := Aside0.mk (show Kd.R (Kd.int .i64) 3 _ _ _ _ ((rd_T49 t412 (rd t415 x12_3)).f3) from ge430_3)
                             clear hv430_3 ge430_3
                             have hv430_4 := hcc430 4 _ rfl
                             rw [add_field _ _ 4 (by omega)] at hv430_4
                             replace hv430_4 := Option.some.inj (hv430_4.symm.trans hx430_4)
                             rw [hv430_4] at ge430_4
                             have HL430_4 := Aside0.mk (show Kd.R (Kd.int .i64) 3 _ _ _ _ ((rd_T49 t412 (rd t415 x12_3)).f4) from ge430_4)
                             clear hv430_4 ge430_4
                             clear hcc430 hce430
                             have HR430_2 := Aside0.mk hi430_2
                             have HC430_2 := Aside0.mk hl430_2
                             clear hi430_2 hl430_2
                             have HR430_3 := Aside0.mk hi430_3
                             have HC430_3 := Aside0.mk hl430_3
                             clear hi430_3 hl430_3
                             have HR430_4 := Aside0.mk hi430_4
                             have HC430_4 := Aside0.mk hl430_4
                             clear hi430_4 hl430_4
                             replace p430 := eq_true p430
                             replace q430 := eq_true q430
                             try go_wp2
                             have n0_ := Aside0.mk (Kd.S_drew HO_8.out)
                             have n1_ := Aside0.mk (Kd.R_drew HO_9.out)
                             have n2_ := Aside0.mk (Kd.R_drew HO_10.out)
                             have n3_ := Aside0.mk (Kd.R_drew HO_412001.out)
                             have n4_ := Aside0.mk (Kd.R_drew HO_412002.out)
                             have n5_ := Aside0.mk (Kd.R_drew HO_412003.out)
                             have n6_ := Aside0.mk (Kd.R_drew HO_412004.out)
                             have n7_ := Aside0.mk (Kd.R_drew HO_412005.out)
                             have n8_ := Aside0.mk (Kd.R_drew HL430_2.out)
                             have n9_ := Aside0.mk (Kd.R_drew HL430_3.out)
                             have n10_ := Aside0.mk (Kd.R_drew HL430_4.out)
                             have n11_ := Aside0.mk (blk_drew BK391.out)
                             have n12_ := Aside0.mk (blk_drew BK411.out)
                             have n13_ := Aside0.mk (Kd.C_drew HR424_2.out)
                             have n14_ := Aside0.mk (Kd.C_drew HR424_3.out)
                             have n15_ := Aside0.mk (Kd.C_drew HR424_4.out)
                             have n16_ := Aside0.mk (Kd.C_drew HR430_2.out)
                             have n17_ := Aside0.mk (Kd.C_drew HR430_3.out)
                             have n18_ := Aside0.mk (Kd.C_drew HR430_4.out)
                             have n19_ := Aside0.mk (below_drew1 HB.out)
                             clear HO_8
                             clear HO_9
                             clear HO_10
                             clear HO_412001
                             clear HO_412002
                             clear HO_412003
                             clear HO_412004
                             clear HO_412005
                             clear HL430_2
                             clear HL430_3
                             clear HL430_4
                             clear BK391
                             clear BK411
                             clear HR424_2
                             clear HR424_3
                             clear HR424_4
                             clear HR430_2
                             clear HR430_3
                             clear HR430_4
                             clear HB
                             have HO_8 := n0_
                             have HO_9 := n1_
                             have HO_10 := n2_
                             have HO_412001 := n3_
                             have HO_412002 := n4_
                             have HO_412003 := n5_
                             have HO_412004 := n6_
                             have HO_412005 := n7_
                             have HL430_2 := n8_
                             have HL430_3 := n9_
                             have HL430_4 := n10_
                             have BK391 := n11_
                             have BK411 := n12_
                             have HR424_2 := n13_
                             have HR424_3 := n14_
                             have HR424_4 := n15_
                             have HR430_2 := n16_
                             have HR430_3 := n17_
                             have HR430_4 := n18_
                             have HB := n19_
                             clear n0_ n1_ n2_ n3_ n4_ n5_ n6_ n7_ n8_ n9_ n10_ n11_ n12_ n13_ n14_ n15_ n16_ n17_ n18_ n19_
                             obtain ⟨Ao68, co68, eo68⟩ := Kd.R_slice HO_10.out
                             (first | subst eo68 | (injection eo68 with f1_ f2_ f3_; have f4_ := f1_.symm; have f5_ := f3_.symm; clear f1_ f2_ f3_; subst f4_; subst f5_))
                             have p431 : 0 ≤ (x12_3 : Int) := of_decide_eq_true (by first | (with_reducible assumption) | assumption)
                             have q431 : x12_3 < (t418.length : Int) := of_decide_eq_true (by first | (with_reducible assumption) | assumption)
                             obtain ⟨ad431, e431, hx431_0⟩ := Kd.at_int (Kd.R_reads' HO_10.out).2.2 x12_3 p431 q431
                             cases e431
                             replace p431 := eq_true p431
                             replace q431 := eq_true q431
                             have p432 : 0 ≤ ((ji45) : Int) := of_decide_eq_true (by first | (with_reducible assumption) | assumption)
                             have q432 : (ji45) < (t418.length : Int) := of_decide_eq_true (by first | (with_reducible assumption) | assumption)
                             obtain ⟨ad432, e432, hx432_0⟩ := Kd.at_int (Kd.R_reads' HO_10.out).2.2 (ji45) p432 q432
                             obtain rfl : ad431 = ad432 := (by injection e432)
                             replace p432 := eq_true p432
                             replace q432 := eq_true q432
                             refine start_ (n := 12) (S := fun w' => w'.cell? (ad431.add (x12_3).toNat) = some (.int .i64 (rd t418 x12_3)) ∧ w'.cell? (ad431.add ((ji45)).toNat) = some (.int .i64 (rd t418 (ji45)))) (ds := []) (bz 12 0) (by kernel_rfl) rfl rfl ⟨hx431_0, hx432_0⟩ (fun hHeld => ?_); refine with_tabW jacquardlaw36_CyclesIssues.tab15 jacquardlaw36_CyclesIssues.bits15 (fun HT_ HW_ => ?_)
                             generalize wc.drew = w67 at HO_8 HO_9 HO_10 HO_412001 HO_412002 HO_412003 HO_412004 HO_412005 HL430_2 HL430_3 HL430_4 BK391 BK411 HR424_2 HR424_3 HR424_4 HR430_2 HR430_3 HR430_4 HB hx431_0 hx432_0 hHeld ⊢
                             refine pu_ 0 96 HT_ ?_
                             refine pu_ 1 97 HT_ ?_
                             refine pu_ 2 98 HT_ ?_
                             refine pu_ 4 100 HT_ ?_
                             refine pu_ 5 101 HT_ ?_
                             refine pu_ 6 102 HT_ ?_
                             refine pu_ 7 103 HT_ ?_
                             refine pu_ 10 106 HT_ ?_
                             refine tk_ 3 99 HT_ HW_ hHeld ?_ (hy := by rintro w' ⟨s0, s1⟩; go_simp; with_reducible rfl)
                             refine tk_ 8 104 HT_ HW_ hHeld ?_ (hy := by rintro w' ⟨s0, s1⟩; go_simp; with_reducible rfl)
                             refine pu_ 9 105 HT_ ?_
                             refine pu_ 11 107 HT_ ?_
                             refine done_ (done_of HT_.out (by kernel_rfl)) ?_
                             try go_wp2
                             go_roundg kj49
                             case measure => have := HJ3.out; have := HJ19.out; have := HK3.out; have := HJ49.out; omega
                             case rel => exact ⟨(wrap64 (x12_3 + 1)), (by first | rfl | (simp; done) | (simp [*]; done)), H', ⟨by have := HJ3.out; have := HJ19.out; have := HK3.out; have := HJ49.out; omega⟩, ⟨S_ HO_8⟩, ⟨R_ HO_9⟩, ⟨R_ HO_10⟩, ⟨R_ HO_412001⟩, ⟨R_ HO_412002⟩, ⟨R_ HO_412003⟩, ⟨R_ HO_412004⟩, ⟨R_ HO_412005⟩, ⟨K_ BK391⟩, ⟨K_ BK411⟩, ⟨bl_⟩⟩
                           rw [if_neg c66] at H
                           have c66b0 : ((wrap64 ((rd t418 x12_3) - (rd t418 (ji45)))) == ((rd_T49 t412 (rd t415 x12_3)).f0)) = false := beq_eq_false_iff_ne.mpr c66
                           have c66b1 : ((wrap64 ((rd t418 x12_3) - (rd t418 (ji45)))) != ((rd_T49 t412 (rd t415 x12_3)).f0)) = true := bne_iff_ne.mpr c66
                           exact absurd ((Option.some.inj H).trans HRT_.out) Bool.false_ne_true
                         rw [if_neg c65] at H
                         exact absurd H (by simp)
                       rw [if_neg c64] at H
                       exact absurd H (by simp)
                     rw [if_neg c62] at H
                     exact absurd H (by simp)
                   rw [if_neg c61] at H
                   exact absurd H (by simp)
                 rw [if_neg c60] at H
                 exact absurd H (by simp)
               rw [if_neg c59] at H
               exact absurd H (by simp)
             rw [if_neg c58] at H
             exact absurd H (by simp)
           replace c57 := Bool.eq_false_iff.mpr c57
           subst c57
           have H1 : (if 0 ≤ x12_3 then (if x12_3 < (t418.length : Int) then (if 0 ≤ (wrap64 (x12_3 - 1)) then (if (wrap64 (x12_3 - 1)) < (t418.length : Int) then (if (wrap64 ((rd t418 x12_3) - (rd t418 (wrap64 (x12_3 - 1))))) = ((rd_T49 t412 (rd t415 (ji45))).f1) then (jacquardlaw36_CyclesIssues.l0 kj49 t412 t415 t418 (wrap64 (x12_3 + 1)) t395 t396 t399 t402 t405 t408) else (some false)) else (none)) else (none)) else (none)) else (none)) = some r := by rw [if_neg (show ¬ (false = true) by decide)] at H; exact H
           clear H
           have H := H1
           clear H1
           by_cases c69 : 0 ≤ x12_3
           · rw [if_pos c69] at H
             have c69b0 : decide (0 ≤ x12_3) = true := decide_eq_true c69
             clear c69
             by_cases c70 : x12_3 < (t418.length : Int)
             · rw [if_pos c70] at H
               have c70b0 : decide (x12_3 < (t418.length : Int)) = true := decide_eq_true c70
               clear c70
               have hji71 := hji45
               replace H : (if 0 ≤ (ji45) then (if (ji45) < (t418.length : Int) then (if (wrap64 ((rd t418 x12_3) - (rd t418 (ji45)))) = ((rd_T49 t412 (rd t415 (ji45))).f1) then (jacquardlaw36_CyclesIssues.l0 kj49 t412 t415 t418 (wrap64 (x12_3 + 1)) t395 t396 t399 t402 t405 t408) else (some false)) else (none)) else (none)) = some r := by first | (rw [hji71] at H; exact H) | (simp only [hji71] at H ⊢; exact H)
               have hji71w : (IntKind.i64.wrap (x12_3 - 1)) = ji45 := (i64_w _).trans hji71
               by_cases c72 : 0 ≤ (ji45)
               · rw [if_pos c72] at H
                 have c72b0 : decide (0 ≤ (ji45)) = true := decide_eq_true c72
                 clear c72
                 by_cases c73 : (ji45) < (t418.length : Int)
                 · rw [if_pos c73] at H
                   have c73b0 : decide ((ji45) < (t418.length : Int)) = true := decide_eq_true c73
                   clear c73
                   by_cases c74 : (wrap64 ((rd t418 x12_3) - (rd t418 (ji45)))) = ((rd_T49 t412 (rd t415 (ji45))).f1)
                   · rw [if_pos c74] at H
                     have c74b0 : ((wrap64 ((rd t418 x12_3) - (rd t418 (ji45)))) == ((rd_T49 t412 (rd t415 (ji45))).f1)) = true := beq_iff_eq.mpr c74
                     have c74b1 : ((wrap64 ((rd t418 x12_3) - (rd t418 (ji45)))) != ((rd_T49 t412 (rd t415 (ji45))).f1)) = false := bne_eq_false_iff_eq.mpr c74
                     clear c74
                     have H' := Aside0.mk H
                     clear H
                     try go_wp2
                     have n0_ := Aside0.mk (Kd.S_drew HO_8.out)
                     have n1_ := Aside0.mk (Kd.R_drew HO_9.out)
                     have n2_ := Aside0.mk (Kd.R_drew HO_10.out)
                     have n3_ := Aside0.mk (Kd.R_drew HO_412001.out)
                     have n4_ := Aside0.mk (Kd.R_drew HO_412002.out)
                     have n5_ := Aside0.mk (Kd.R_drew HO_412003.out)
                     have n6_ := Aside0.mk (Kd.R_drew HO_412004.out)
                     have n7_ := Aside0.mk (Kd.R_drew HO_412005.out)
                     have n8_ := Aside0.mk (blk_drew BK391.out)
                     have n9_ := Aside0.mk (blk_drew BK411.out)
                     have n10_ := Aside0.mk (Kd.C_drew HR424_2.out)
                     have n11_ := Aside0.mk (Kd.C_drew HR424_3.out)
                     have n12_ := Aside0.mk (Kd.C_drew HR424_4.out)
                     have n13_ := Aside0.mk (below_drew1 HB.out)
                     clear HO_8
                     clear HO_9
                     clear HO_10
                     clear HO_412001
                     clear HO_412002
                     clear HO_412003
                     clear HO_412004
                     clear HO_412005
                     clear BK391
                     clear BK411
                     clear HR424_2
                     clear HR424_3
                     clear HR424_4
                     clear HB
                     have HO_8 := n0_
                     have HO_9 := n1_
                     have HO_10 := n2_
                     have HO_412001 := n3_
                     have HO_412002 := n4_
                     have HO_412003 := n5_
                     have HO_412004 := n6_
                     have HO_412005 := n7_
                     have BK391 := n8_
                     have BK411 := n9_
                     have HR424_2 := n10_
                     have HR424_3 := n11_
                     have HR424_4 := n12_
                     have HB := n13_
                     clear n0_ n1_ n2_ n3_ n4_ n5_ n6_ n7_ n8_ n9_ n10_ n11_ n12_ n13_
                     obtain ⟨Ao76, co76, eo76⟩ := Kd.R_slice HO_10.out
                     (first | subst eo76 | (injection eo76 with f1_ f2_ f3_; have f4_ := f1_.symm; have f5_ := f3_.symm; clear f1_ f2_ f3_; subst f4_; subst f5_))
                     have p433 : 0 ≤ (x12_3 : Int) := of_decide_eq_true (by first | (with_reducible assumption) | assumption)
                     have q433 : x12_3 < (t418.length : Int) := of_decide_eq_true (by first | (with_reducible assumption) | assumption)
                     obtain ⟨ad433, e433, hx433_0⟩ := Kd.at_int (Kd.R_reads' HO_10.out).2.2 x12_3 p433 q433
                     cases e433
                     replace p433 := eq_true p433
                     replace q433 := eq_true q433
                     have p434 : 0 ≤ ((ji45) : Int) := of_decide_eq_true (by first | (with_reducible assumption) | assumption)
                     have q434 : (ji45) < (t418.length : Int) := of_decide_eq_true (by first | (with_reducible assumption) | assumption)
                     obtain ⟨ad434, e434, hx434_0⟩ := Kd.at_int (Kd.R_reads' HO_10.out).2.2 (ji45) p434 q434
                     obtain rfl : ad433 = ad434 := (by injection e434)
                     replace p434 := eq_true p434
                     replace q434 := eq_true q434
                     refine start_ (n := 12) (S := fun w' => w'.cell? (ad433.add (x12_3).toNat) = some (.int .i64 (rd t418 x12_3)) ∧ w'.cell? (ad433.add ((ji45)).toNat) = some (.int .i64 (rd t418 (ji45)))) (ds := []) (bz 12 0) (by kernel_rfl) rfl rfl ⟨hx433_0, hx434_0⟩ (fun hHeld => ?_); refine with_tabW jacquardlaw36_CyclesIssues.tab15 jacquardlaw36_CyclesIssues.bits15 (fun HT_ HW_ => ?_)
                     generalize wc.drew = w75 at HO_8 HO_9 HO_10 HO_412001 HO_412002 HO_412003 HO_412004 HO_412005 BK391 BK411 HR424_2 HR424_3 HR424_4 HB hx433_0 hx434_0 hHeld ⊢
                     refine pu_ 0 96 HT_ ?_
                     refine pu_ 1 97 HT_ ?_
                     refine pu_ 2 98 HT_ ?_
                     refine pu_ 4 100 HT_ ?_
                     refine pu_ 5 101 HT_ ?_
                     refine pu_ 6 102 HT_ ?_
                     refine pu_ 7 103 HT_ ?_
                     refine pu_ 10 106 HT_ ?_
                     refine tk_ 3 99 HT_ HW_ hHeld ?_ (hy := by rintro w' ⟨s0, s1⟩; go_simp; with_reducible rfl)
                     refine tk_ 8 104 HT_ HW_ hHeld ?_ (hy := by rintro w' ⟨s0, s1⟩; go_simp; with_reducible rfl)
                     refine pu_ 9 105 HT_ ?_
                     refine pu_ 11 107 HT_ ?_
                     refine done_ (done_of HT_.out (by kernel_rfl)) ?_
                     try go_wp2
                     go_roundg kj49
                     case measure => have := HJ3.out; have := HJ19.out; have := HK3.out; have := HJ49.out; omega
                     case rel => exact ⟨(wrap64 (x12_3 + 1)), (by first | rfl | (simp; done) | (simp [*]; done)), H', ⟨by have := HJ3.out; have := HJ19.out; have := HK3.out; have := HJ49.out; omega⟩, ⟨S_ HO_8⟩, ⟨R_ HO_9⟩, ⟨R_ HO_10⟩, ⟨R_ HO_412001⟩, ⟨R_ HO_412002⟩, ⟨R_ HO_412003⟩, ⟨R_ HO_412004⟩, ⟨R_ HO_412005⟩, ⟨K_ BK391⟩, ⟨K_ BK411⟩, ⟨bl_⟩⟩
                   rw [if_neg c74] at H
                   have c74b0 : ((wrap64 ((rd t418 x12_3) - (rd t418 (ji45)))) == ((rd_T49 t412 (rd t415 (ji45))).f1)) = false := beq_eq_false_iff_ne.mpr c74
                   have c74b1 : ((wrap64 ((rd t418 x12_3) - (rd t418 (ji45)))) != ((rd_T49 t412 (rd t415 (ji45))).f1)) = true := bne_iff_ne.mpr c74
                   exact absurd ((Option.some.inj H).trans HRT_.out) Bool.false_ne_true
                 rw [if_neg c73] at H
                 exact absurd H (by simp)
               rw [if_neg c72] at H
               exact absurd H (by simp)
             rw [if_neg c70] at H
             exact absurd H (by simp)
           rw [if_neg c69] at H
           exact absurd H (by simp)
         rw [if_neg c49] at H
         exact absurd H (by simp)
       rw [if_neg c48] at H
       exact absurd H (by simp)
     rw [if_neg c47] at H
     exact absurd H (by simp)
   rw [if_neg c46] at H
   exact absurd H (by simp)
 rw [if_neg c44] at H
 have c44b0 : decide (x12_3 < (t415.length : Int)) = false := decide_eq_false c44
 clear c44
 obtain rfl := Option.some.inj H
 go_wp2
 go_ret
 exact ⟨by first | rfl | (simp [errW_none, errW_some] <;> rfl) | (simp [*, errW_none, errW_some] <;> rfl), by repeat (first | (with_reducible first | exact HB.out | apply below_alloc | apply pw_below_drewN | apply below_drew1 | refine below_set ?_ GE391.out | refine below_set ?_ GE411.out) | exact HB.out)⟩
end Go.Proofs.Ytmefaegcoogmiaa.PAll
