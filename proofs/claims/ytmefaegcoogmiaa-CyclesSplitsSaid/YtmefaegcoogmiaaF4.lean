-- Written for this claim by programs of this session (wip/print2 in its repo: a changed printer, a shortener, a packer). Lean checks it.
import Derived.Test.YtmefaegcoogmiaaP0
import Derived.Test.YtmefaegcoogmiaaF11
import Derived.Test.YtmefaegcoogmiaaF12
import Derived.Test.YtmefaegcoogmiaaF14
import Derived.Test.YtmefaegcoogmiaaF15
import Derived.Test.YtmefaegcoogmiaaF16
import Derived.Test.YtmefaegcoogmiaaF17
import Derived.Test.YtmefaegcoogmiaaF18
import Derived.Test.YtmefaegcoogmiaaF19
import Derived.Test.YtmefaegcoogmiaaF9
import Derived.Test.YtmefaegcoogmiaaMk
namespace Go.Proofs.Ytmefaegcoogmiaa.PAll
open Go.RowKit Go.Proofs.YtmefaegcoogmiaaW.PrintWords Go.Proofs.YtmefaegcoogmiaaW.PrintLast Go.Proofs.YtmefaegcoogmiaaW.PrintMore
attribute [local go_sem] max2_int min2_int max_two min_two max_three min_three max_four min_four   -- for this text's walks alone
set_option linter.unusedVariables false
set_option linter.unusedSimpArgs false

/-! ### jacquardlaw36_CyclesSplits: function 4 -/
mutual
def jacquardlaw36_CyclesSplits.j0 : Nat → List (S73) → List Int → Bool → List Int → List (S73) → List (S73) → List Int → List (S80) → Option (Bool)
  | 0, _, _, _, _, _, _, _, _ => none
  | k + 1, x1, x2, x26, x228000, x228001, x228002, x228003, x228004 => if x26 = true then ((jacquardlaw36_awake.f k).bind fun t230 => (some t230)) else ((jacquardref27_Func.f k x228000 x228001 x228002 x228003 x228004).bind fun bt231 => ((jacquardref36_Scheds.f k bt231.1 bt231.2.1 bt231.2.2.1 bt231.2.2.2.1 bt231.2.2.2.2.1 bt231.2.2.2.2.2 x1).bind fun t248 => ((jacquardref36_Walk.f k bt231.1 bt231.2.1 bt231.2.2.1 bt231.2.2.2.1 bt231.2.2.2.2.1 bt231.2.2.2.2.2 x2).bind fun t251 => ((cycles_Split.f k bt231.1 bt231.2.1 bt231.2.2.1 bt231.2.2.2.1 bt231.2.2.2.2.1 bt231.2.2.2.2.2 t248 t251).bind fun bt254 => (if bt254.2 = 0 then (jacquardlaw36_CyclesSplits.l0 k t248 t251 bt254.1 ([] : List Int) 1 (bt254.1.length : Int) 0 bt231.1 bt231.2.1 bt231.2.2.1 bt231.2.2.2.1 bt231.2.2.2.2.1 bt231.2.2.2.2.2) else (some false))))))
def jacquardlaw36_CyclesSplits.l0 : Nat → List (S49) → List Int → List (S46) → List Int → Int → Int → Int → ByteArray → List Int → List (S75) → List (S77) → List Int → List (S66) → Option (Bool)
  | 0, _, _, _, _, _, _, _, _, _, _, _, _, _ => none
  | k + 1, x8, x9, x10, x12, x13, x46, x47, x248000, x248001, x248002, x248003, x248004, x248005 => if x47 < x46 then (if 0 ≤ x47 then (if x47 < (x10.length : Int) then ((jacquardref36_Self.f k x248000 x248001 x248002 x248003 x248004 x248005 x8 ((rd_T46 x10 x47).f0)).bind fun t265 => (if ((rd_T46 x10 x47).f1) < 1 then (jacquardlaw36_CyclesSplits.j2 k x8 x9 x10 x12 x13 x46 x47 true x248000 x248001 x248002 x248003 x248004 x248005 ((rd_T46 x10 x47).f0) ((rd_T46 x10 x47).f1)) else (if t265 ≥ 0 then (if x47 > 0 then (if 0 ≤ (wrap64 (x47 - 1)) then (if (wrap64 (x47 - 1)) < (x10.length : Int) then (jacquardlaw36_CyclesSplits.j2 k x8 x9 x10 x12 x13 x46 x47 (((rd_T46 x10 (wrap64 (x47 - 1))).f0) == ((rd_T46 x10 x47).f0)) x248000 x248001 x248002 x248003 x248004 x248005 ((rd_T46 x10 x47).f0) ((rd_T46 x10 x47).f1)) else (none)) else (none)) else (jacquardlaw36_CyclesSplits.j2 k x8 x9 x10 x12 x13 x46 x47 false x248000 x248001 x248002 x248003 x248004 x248005 ((rd_T46 x10 x47).f0) ((rd_T46 x10 x47).f1))) else (if ((rd_T46 x10 x47).f1) = 1 then (jacquardlaw36_CyclesSplits.j2 k x8 x9 x10 x12 x13 x46 x47 false x248000 x248001 x248002 x248003 x248004 x248005 ((rd_T46 x10 x47).f0) ((rd_T46 x10 x47).f1)) else (jacquardlaw36_CyclesSplits.j2 k x8 x9 x10 x12 x13 x46 x47 true x248000 x248001 x248002 x248003 x248004 x248005 ((rd_T46 x10 x47).f0) ((rd_T46 x10 x47).f1)))))) else (none)) else (none)) else ((jacquardref36_Issues.f k x248000 x248001 x248002 x248003 x248004 x248005 x8 x9).bind fun bt258 => ((jacquardref08_Ints.f k x12 x9).bind fun t262 => (if t262 = true then (some (x13 == bt258.2)) else (some false))))
def jacquardlaw36_CyclesSplits.j2 : Nat → List (S49) → List Int → List (S46) → List Int → Int → Int → Int → Bool → ByteArray → List Int → List (S75) → List (S77) → List Int → List (S66) → Int → Int → Option (Bool)
  | 0, _, _, _, _, _, _, _, _, _, _, _, _, _, _, _, _ => none
  | k + 1, x8, x9, x10, x12, x13, x46, x47, x89, x248000, x248001, x248002, x248003, x248004, x248005, x265000, x265001 => if x89 = true then (some false) else (jacquardlaw36_CyclesSplits.l1 k x8 x9 x10 x12 x13 x46 x47 x265001 0 x248000 x248001 x248002 x248003 x248004 x248005 x265000 x265001)
def jacquardlaw36_CyclesSplits.l1 : Nat → List (S49) → List Int → List (S46) → List Int → Int → Int → Int → Int → Int → ByteArray → List Int → List (S75) → List (S77) → List Int → List (S66) → Int → Int → Option (Bool)
  | 0, _, _, _, _, _, _, _, _, _, _, _, _, _, _, _, _, _ => none
  | k + 1, x8, x9, x10, x12, x13, x46, x47, x91, x92, x248000, x248001, x248002, x248003, x248004, x248005, x265000, x265001 => if x92 < x91 then (if x12.length < 17592186044416 then (jacquardlaw36_CyclesSplits.l1 k x8 x9 x10 (x12 ++ [x265000]) x13 x46 x47 x91 (wrap64 (x92 + 1)) x248000 x248001 x248002 x248003 x248004 x248005 x265000 x265001) else (none)) else (if 0 ≤ x265000 then (if x265000 < (x8.length : Int) then ((cycles_Visit.f ((rd_T49 x8 x265000).f0) ((rd_T49 x8 x265000).f1) ((rd_T49 x8 x265000).f2) ((rd_T49 x8 x265000).f3) ((rd_T49 x8 x265000).f4) x265001).bind fun t271 => (jacquardlaw36_CyclesSplits.l0 k x8 x9 x10 x12 (wrap64 (x13 + t271)) x46 (wrap64 (x47 + 1)) x248000 x248001 x248002 x248003 x248004 x248005)) else (none)) else (none))
end
def jacquardlaw36_CyclesSplits.f (k : Nat) (l0_0 : List Int) (l0_1 : List (S73)) (l0_2 : List (S73)) (l0_3 : List Int) (l0_4 : List (S80)) (l1 : List (S73)) (l2 : List Int) : Option (Bool) := (jacquardlaw36_awake.f k).bind fun t228 => (if t228 = true then ((jacquardlaw36_few.f k l0_0 l0_1 l0_2 l0_3 l0_4 l2).bind fun t229 => (jacquardlaw36_CyclesSplits.j0 k l1 l2 (!t229) l0_0 l0_1 l0_2 l0_3 l0_4)) else (jacquardlaw36_CyclesSplits.j0 k l1 l2 true l0_0 l0_1 l0_2 l0_3 l0_4))
theorem jacquardlaw36_CyclesSplits.mono_l : ∀ k, (∀ y0 y1 y2 y3 y4 y5 y6 y7, LeO (jacquardlaw36_CyclesSplits.j0 k y0 y1 y2 y3 y4 y5 y6 y7) (jacquardlaw36_CyclesSplits.j0 (k + 1) y0 y1 y2 y3 y4 y5 y6 y7)) ∧ (∀ y0 y1 y2 y3 y4 y5 y6 y7 y8 y9 y10 y11 y12, LeO (jacquardlaw36_CyclesSplits.l0 k y0 y1 y2 y3 y4 y5 y6 y7 y8 y9 y10 y11 y12) (jacquardlaw36_CyclesSplits.l0 (k + 1) y0 y1 y2 y3 y4 y5 y6 y7 y8 y9 y10 y11 y12)) ∧ (∀ y0 y1 y2 y3 y4 y5 y6 y7 y8 y9 y10 y11 y12 y13 y14 y15, LeO (jacquardlaw36_CyclesSplits.j2 k y0 y1 y2 y3 y4 y5 y6 y7 y8 y9 y10 y11 y12 y13 y14 y15) (jacquardlaw36_CyclesSplits.j2 (k + 1) y0 y1 y2 y3 y4 y5 y6 y7 y8 y9 y10 y11 y12 y13 y14 y15)) ∧ (∀ y0 y1 y2 y3 y4 y5 y6 y7 y8 y9 y10 y11 y12 y13 y14 y15 y16, LeO (jacquardlaw36_CyclesSplits.l1 k y0 y1 y2 y3 y4 y5 y6 y7 y8 y9 y10 y11 y12 y13 y14 y15 y16) (jacquardlaw36_CyclesSplits.l1 (k + 1) y0 y1 y2 y3 y4 y5 y6 y7 y8 y9 y10 y11 y12 y13 y14 y15 y16))
  | 0 => ⟨fun _ _ _ _ _ _ _ _ r h => by simp [jacquardlaw36_CyclesSplits.j0] at h, fun _ _ _ _ _ _ _ _ _ _ _ _ _ r h => by simp [jacquardlaw36_CyclesSplits.l0] at h, fun _ _ _ _ _ _ _ _ _ _ _ _ _ _ _ _ r h => by simp [jacquardlaw36_CyclesSplits.j2] at h, fun _ _ _ _ _ _ _ _ _ _ _ _ _ _ _ _ _ r h => by simp [jacquardlaw36_CyclesSplits.l1] at h⟩
  | k + 1 => by
    obtain ⟨ih0, ih1, ih2, ih3⟩ := jacquardlaw36_CyclesSplits.mono_l k
    refine ⟨?_, ?_, ?_, ?_⟩
    · intro y0 y1 y2 y3 y4 y5 y6 y7
      unfold jacquardlaw36_CyclesSplits.j0
      repeat' first
      | (with_reducible exact ih0 _ _ _ _ _ _ _ _)
      | (with_reducible exact ih1 _ _ _ _ _ _ _ _ _ _ _ _ _)
      | (with_reducible exact ih2 _ _ _ _ _ _ _ _ _ _ _ _ _ _ _ _)
      | (with_reducible exact ih3 _ _ _ _ _ _ _ _ _ _ _ _ _ _ _ _ _)
      | (with_reducible exact cycles_Split.mono _ _ _ _ _ _ _ _ _)
      | (with_reducible exact jacquardlaw36_awake.mono _)
      | (with_reducible exact jacquardlaw36_few.mono _ _ _ _ _ _ _)
      | (with_reducible exact jacquardref08_Ints.mono _ _ _)
      | (with_reducible exact jacquardref27_Func.mono _ _ _ _ _ _)
      | (with_reducible exact jacquardref36_Issues.mono _ _ _ _ _ _ _ _ _)
      | (with_reducible exact jacquardref36_Scheds.mono _ _ _ _ _ _ _ _)
      | (with_reducible exact jacquardref36_Self.mono _ _ _ _ _ _ _ _ _)
      | (with_reducible exact jacquardref36_Walk.mono _ _ _ _ _ _ _ _)
      | (with_reducible exact LeO.refl _)
      | (with_reducible exact LeO.none _)
      | (with_reducible refine LeO.ite ?_ ?_)
      | (with_reducible refine LeO.bind ?_ (fun _ => ?_))
      | exact ih0 _ _ _ _ _ _ _ _
      | exact ih1 _ _ _ _ _ _ _ _ _ _ _ _ _
      | exact ih2 _ _ _ _ _ _ _ _ _ _ _ _ _ _ _ _
      | exact ih3 _ _ _ _ _ _ _ _ _ _ _ _ _ _ _ _ _
      | exact cycles_Split.mono _ _ _ _ _ _ _ _ _
      | exact jacquardlaw36_awake.mono _
      | exact jacquardlaw36_few.mono _ _ _ _ _ _ _
      | exact jacquardref08_Ints.mono _ _ _
      | exact jacquardref27_Func.mono _ _ _ _ _ _
      | exact jacquardref36_Issues.mono _ _ _ _ _ _ _ _ _
      | exact jacquardref36_Scheds.mono _ _ _ _ _ _ _ _
      | exact jacquardref36_Self.mono _ _ _ _ _ _ _ _ _
      | exact jacquardref36_Walk.mono _ _ _ _ _ _ _ _
      | exact LeO.none _
      | refine LeO.ite ?_ ?_
      | refine LeO.bind ?_ (fun _ => ?_)
    · intro y0 y1 y2 y3 y4 y5 y6 y7 y8 y9 y10 y11 y12
      unfold jacquardlaw36_CyclesSplits.l0
      repeat' first
      | (with_reducible exact ih0 _ _ _ _ _ _ _ _)
      | (with_reducible exact ih1 _ _ _ _ _ _ _ _ _ _ _ _ _)
      | (with_reducible exact ih2 _ _ _ _ _ _ _ _ _ _ _ _ _ _ _ _)
      | (with_reducible exact ih3 _ _ _ _ _ _ _ _ _ _ _ _ _ _ _ _ _)
      | (with_reducible exact cycles_Split.mono _ _ _ _ _ _ _ _ _)
      | (with_reducible exact jacquardlaw36_awake.mono _)
      | (with_reducible exact jacquardlaw36_few.mono _ _ _ _ _ _ _)
      | (with_reducible exact jacquardref08_Ints.mono _ _ _)
      | (with_reducible exact jacquardref27_Func.mono _ _ _ _ _ _)
      | (with_reducible exact jacquardref36_Issues.mono _ _ _ _ _ _ _ _ _)
      | (with_reducible exact jacquardref36_Scheds.mono _ _ _ _ _ _ _ _)
      | (with_reducible exact jacquardref36_Self.mono _ _ _ _ _ _ _ _ _)
      | (with_reducible exact jacquardref36_Walk.mono _ _ _ _ _ _ _ _)
      | (with_reducible exact LeO.refl _)
      | (with_reducible exact LeO.none _)
      | (with_reducible refine LeO.ite ?_ ?_)
      | (with_reducible refine LeO.bind ?_ (fun _ => ?_))
      | exact ih0 _ _ _ _ _ _ _ _
      | exact ih1 _ _ _ _ _ _ _ _ _ _ _ _ _
      | exact ih2 _ _ _ _ _ _ _ _ _ _ _ _ _ _ _ _
      | exact ih3 _ _ _ _ _ _ _ _ _ _ _ _ _ _ _ _ _
      | exact cycles_Split.mono _ _ _ _ _ _ _ _ _
      | exact jacquardlaw36_awake.mono _
      | exact jacquardlaw36_few.mono _ _ _ _ _ _ _
      | exact jacquardref08_Ints.mono _ _ _
      | exact jacquardref27_Func.mono _ _ _ _ _ _
      | exact jacquardref36_Issues.mono _ _ _ _ _ _ _ _ _
      | exact jacquardref36_Scheds.mono _ _ _ _ _ _ _ _
      | exact jacquardref36_Self.mono _ _ _ _ _ _ _ _ _
      | exact jacquardref36_Walk.mono _ _ _ _ _ _ _ _
      | exact LeO.none _
      | refine LeO.ite ?_ ?_
      | refine LeO.bind ?_ (fun _ => ?_)
    · intro y0 y1 y2 y3 y4 y5 y6 y7 y8 y9 y10 y11 y12 y13 y14 y15
      unfold jacquardlaw36_CyclesSplits.j2
      repeat' first
      | (with_reducible exact ih0 _ _ _ _ _ _ _ _)
      | (with_reducible exact ih1 _ _ _ _ _ _ _ _ _ _ _ _ _)
      | (with_reducible exact ih2 _ _ _ _ _ _ _ _ _ _ _ _ _ _ _ _)
      | (with_reducible exact ih3 _ _ _ _ _ _ _ _ _ _ _ _ _ _ _ _ _)
      | (with_reducible exact cycles_Split.mono _ _ _ _ _ _ _ _ _)
      | (with_reducible exact jacquardlaw36_awake.mono _)
      | (with_reducible exact jacquardlaw36_few.mono _ _ _ _ _ _ _)
      | (with_reducible exact jacquardref08_Ints.mono _ _ _)
      | (with_reducible exact jacquardref27_Func.mono _ _ _ _ _ _)
      | (with_reducible exact jacquardref36_Issues.mono _ _ _ _ _ _ _ _ _)
      | (with_reducible exact jacquardref36_Scheds.mono _ _ _ _ _ _ _ _)
      | (with_reducible exact jacquardref36_Self.mono _ _ _ _ _ _ _ _ _)
      | (with_reducible exact jacquardref36_Walk.mono _ _ _ _ _ _ _ _)
      | (with_reducible exact LeO.refl _)
      | (with_reducible exact LeO.none _)
      | (with_reducible refine LeO.ite ?_ ?_)
      | (with_reducible refine LeO.bind ?_ (fun _ => ?_))
      | exact ih0 _ _ _ _ _ _ _ _
      | exact ih1 _ _ _ _ _ _ _ _ _ _ _ _ _
      | exact ih2 _ _ _ _ _ _ _ _ _ _ _ _ _ _ _ _
      | exact ih3 _ _ _ _ _ _ _ _ _ _ _ _ _ _ _ _ _
      | exact cycles_Split.mono _ _ _ _ _ _ _ _ _
      | exact jacquardlaw36_awake.mono _
      | exact jacquardlaw36_few.mono _ _ _ _ _ _ _
      | exact jacquardref08_Ints.mono _ _ _
      | exact jacquardref27_Func.mono _ _ _ _ _ _
      | exact jacquardref36_Issues.mono _ _ _ _ _ _ _ _ _
      | exact jacquardref36_Scheds.mono _ _ _ _ _ _ _ _
      | exact jacquardref36_Self.mono _ _ _ _ _ _ _ _ _
      | exact jacquardref36_Walk.mono _ _ _ _ _ _ _ _
      | exact LeO.none _
      | refine LeO.ite ?_ ?_
      | refine LeO.bind ?_ (fun _ => ?_)
    · intro y0 y1 y2 y3 y4 y5 y6 y7 y8 y9 y10 y11 y12 y13 y14 y15 y16
      unfold jacquardlaw36_CyclesSplits.l1
      repeat' first
      | (with_reducible exact ih0 _ _ _ _ _ _ _ _)
      | (with_reducible exact ih1 _ _ _ _ _ _ _ _ _ _ _ _ _)
      | (with_reducible exact ih2 _ _ _ _ _ _ _ _ _ _ _ _ _ _ _ _)
      | (with_reducible exact ih3 _ _ _ _ _ _ _ _ _ _ _ _ _ _ _ _ _)
      | (with_reducible exact cycles_Split.mono _ _ _ _ _ _ _ _ _)
      | (with_reducible exact jacquardlaw36_awake.mono _)
      | (with_reducible exact jacquardlaw36_few.mono _ _ _ _ _ _ _)
      | (with_reducible exact jacquardref08_Ints.mono _ _ _)
      | (with_reducible exact jacquardref27_Func.mono _ _ _ _ _ _)
      | (with_reducible exact jacquardref36_Issues.mono _ _ _ _ _ _ _ _ _)
      | (with_reducible exact jacquardref36_Scheds.mono _ _ _ _ _ _ _ _)
      | (with_reducible exact jacquardref36_Self.mono _ _ _ _ _ _ _ _ _)
      | (with_reducible exact jacquardref36_Walk.mono _ _ _ _ _ _ _ _)
      | (with_reducible exact LeO.refl _)
      | (with_reducible exact LeO.none _)
      | (with_reducible refine LeO.ite ?_ ?_)
      | (with_reducible refine LeO.bind ?_ (fun _ => ?_))
      | exact ih0 _ _ _ _ _ _ _ _
      | exact ih1 _ _ _ _ _ _ _ _ _ _ _ _ _
      | exact ih2 _ _ _ _ _ _ _ _ _ _ _ _ _ _ _ _
      | exact ih3 _ _ _ _ _ _ _ _ _ _ _ _ _ _ _ _ _
      | exact cycles_Split.mono _ _ _ _ _ _ _ _ _
      | exact jacquardlaw36_awake.mono _
      | exact jacquardlaw36_few.mono _ _ _ _ _ _ _
      | exact jacquardref08_Ints.mono _ _ _
      | exact jacquardref27_Func.mono _ _ _ _ _ _
      | exact jacquardref36_Issues.mono _ _ _ _ _ _ _ _ _
      | exact jacquardref36_Scheds.mono _ _ _ _ _ _ _ _
      | exact jacquardref36_Self.mono _ _ _ _ _ _ _ _ _
      | exact jacquardref36_Walk.mono _ _ _ _ _ _ _ _
      | exact LeO.none _
      | refine LeO.ite ?_ ?_
      | refine LeO.bind ?_ (fun _ => ?_)
theorem jacquardlaw36_CyclesSplits.mono : ∀ a0 a1 a2 a3 a4 a5 a6 k, LeO (jacquardlaw36_CyclesSplits.f k a0 a1 a2 a3 a4 a5 a6) (jacquardlaw36_CyclesSplits.f (k + 1) a0 a1 a2 a3 a4 a5 a6) := by
 intro a0 a1 a2 a3 a4 a5 a6 k
 obtain ⟨ih0, ih1, ih2, ih3⟩ := jacquardlaw36_CyclesSplits.mono_l k
 unfold jacquardlaw36_CyclesSplits.f
 repeat' first
     | (with_reducible exact ih0 _ _ _ _ _ _ _ _)
     | (with_reducible exact ih1 _ _ _ _ _ _ _ _ _ _ _ _ _)
     | (with_reducible exact ih2 _ _ _ _ _ _ _ _ _ _ _ _ _ _ _ _)
     | (with_reducible exact ih3 _ _ _ _ _ _ _ _ _ _ _ _ _ _ _ _ _)
     | (with_reducible exact cycles_Split.mono _ _ _ _ _ _ _ _ _)
     | (with_reducible exact jacquardlaw36_awake.mono _)
     | (with_reducible exact jacquardlaw36_few.mono _ _ _ _ _ _ _)
     | (with_reducible exact jacquardref08_Ints.mono _ _ _)
     | (with_reducible exact jacquardref27_Func.mono _ _ _ _ _ _)
     | (with_reducible exact jacquardref36_Issues.mono _ _ _ _ _ _ _ _ _)
     | (with_reducible exact jacquardref36_Scheds.mono _ _ _ _ _ _ _ _)
     | (with_reducible exact jacquardref36_Self.mono _ _ _ _ _ _ _ _ _)
     | (with_reducible exact jacquardref36_Walk.mono _ _ _ _ _ _ _ _)
     | (with_reducible exact LeO.refl _)
     | (with_reducible exact LeO.none _)
     | (with_reducible refine LeO.ite ?_ ?_)
     | (with_reducible refine LeO.bind ?_ (fun _ => ?_))
     | exact ih0 _ _ _ _ _ _ _ _
     | exact ih1 _ _ _ _ _ _ _ _ _ _ _ _ _
     | exact ih2 _ _ _ _ _ _ _ _ _ _ _ _ _ _ _ _
     | exact ih3 _ _ _ _ _ _ _ _ _ _ _ _ _ _ _ _ _
     | exact cycles_Split.mono _ _ _ _ _ _ _ _ _
     | exact jacquardlaw36_awake.mono _
     | exact jacquardlaw36_few.mono _ _ _ _ _ _ _
     | exact jacquardref08_Ints.mono _ _ _
     | exact jacquardref27_Func.mono _ _ _ _ _ _
     | exact jacquardref36_Issues.mono _ _ _ _ _ _ _ _ _
     | exact jacquardref36_Scheds.mono _ _ _ _ _ _ _ _
     | exact jacquardref36_Self.mono _ _ _ _ _ _ _ _ _
     | exact jacquardref36_Walk.mono _ _ _ _ _ _ _ _
     | exact LeO.none _
     | refine LeO.ite ?_ ?_
     | refine LeO.bind ?_ (fun _ => ?_)
def jacquardlaw36_CyclesSplits.T16 : Bool × List (List Nat × List Nat) := (true, [([], []), ([0], [0]), ([1], [1]), ([2], [2]), ([3], [3]), ([4, 3], [3, 4]), ([5, 3, 3], [3, 5]), ([6], [6]), ([7, 6], [6, 7]), ([8, 6], [6, 8]), ([6, 9, 3], [3, 6, 9]), ([3, 10], [3, 10]), ([11, 6], [11]), ([12], [12]), ([13, 12, 12], [12, 13]), ([14], [14]), ([15, 14], [14, 15]), ([14, 16, 12], [12, 14, 16]), ([17, 14, 12], [12, 17]), ([18], [18]), ([18], [18]), ([20, 18], [18, 20]), ([19, 21, 18], [18, 19, 21]), ([22, 18], [18, 22]), ([23, 18], [18, 23]), ([18], [18]), ([25, 18], [18, 25]), ([24, 26, 18], [18, 24, 26]), ([18, 27, 12], [12, 18, 27]), ([12, 28], [12, 28])])
def jacquardlaw36_CyclesSplits.B16 : List Nat := [0, 1, 3, 7, 15, 31, 63, 127, 255, 511, 1023, 2047, 4095, 8191, 16383, 32767, 65535, 131071, 262143, 524287, 524287, 1572863, 4194303, 8388607, 16777215, 524287, 34078719, 134217727, 268435455, 536870911]
theorem jacquardlaw36_CyclesSplits.tab16 : rtab .any (opsOf Try.f4 16) = jacquardlaw36_CyclesSplits.T16 := by kernel_rfl
theorem jacquardlaw36_CyclesSplits.bits16 : waitsOk jacquardlaw36_CyclesSplits.T16.2 jacquardlaw36_CyclesSplits.B16 = true := by kernel_rfl
def jacquardlaw36_CyclesSplits.T22 : Bool × List (List Nat × List Nat) := (true, [([], []), ([], []), ([], []), ([2], [2]), ([1, 3], [1, 3]), ([4], [4]), ([], []), ([6], [6]), ([5, 7], [5, 7]), ([0, 8], [0, 8]), ([9, 8, 0, 1, 2, 3, 4, 5, 6, 7, 8, 9], [0, 9])])
def jacquardlaw36_CyclesSplits.B22 : List Nat := [0, 0, 0, 4, 14, 30, 0, 64, 254, 511, 1023]
theorem jacquardlaw36_CyclesSplits.tab22 : rtab .any (opsOf Try.f4 22) = jacquardlaw36_CyclesSplits.T22 := by kernel_rfl
theorem jacquardlaw36_CyclesSplits.bits22 : waitsOk jacquardlaw36_CyclesSplits.T22.2 jacquardlaw36_CyclesSplits.B22 = true := by kernel_rfl
set_option maxHeartbeats 8000000 in
set_option maxRecDepth 100000 in
theorem jacquardlaw36_CyclesSplits.calls (k : Nat) (A0_0 : Option Addr) (c0_0 : Nat) (l0_0 : List Int) (A0_1 : Option Addr) (c0_1 : Nat) (l0_1 : List (S73)) (A0_2 : Option Addr) (c0_2 : Nat) (l0_2 : List (S73)) (A0_3 : Option Addr) (c0_3 : Nat) (l0_3 : List Int) (A0_4 : Option Addr) (c0_4 : Nat) (l0_4 : List (S80)) (A1 : Option Addr) (c1 : Nat) (l1 : List (S73)) (A2 : Option Addr) (c2 : Nat) (l2 : List Int) (r : Bool) (w : World) (hr0_0 : Kd.C (Kd.int .u8) w A0_0 l0_0.length l0_0) (hc0_0 : l0_0.length ≤ c0_0) (hr0_1 : Kd.C k73 w A0_1 l0_1.length l0_1) (hc0_1 : l0_1.length ≤ c0_1) (hr0_2 : Kd.C k73 w A0_2 l0_2.length l0_2) (hc0_2 : l0_2.length ≤ c0_2) (hr0_3 : Kd.C (Kd.int .u8) w A0_3 l0_3.length l0_3) (hc0_3 : l0_3.length ≤ c0_3) (hr0_4 : Kd.C k80 w A0_4 l0_4.length l0_4) (hc0_4 : l0_4.length ≤ c0_4) (hr1 : Kd.C k73 w A1 l1.length l1) (hc1 : l1.length ≤ c1) (hr2 : Kd.C (Kd.int .u8) w A2 l2.length l2) (hc2 : l2.length ≤ c2) (h : jacquardlaw36_CyclesSplits.f k l0_0 l0_1 l0_2 l0_3 l0_4 l1 l2 = some r) (hr_ : r = true) :
    Calls Try.prog 4 #[.agg #[.slice A0_0 l0_0.length c0_0, .slice A0_1 l0_1.length c0_1, .slice A0_2 l0_2.length c0_2, .slice A0_3 l0_3.length c0_3, .slice A0_4 l0_4.length c0_4], .slice A1 l1.length c1, .slice A2 l2.length c2] w fun e w' => e = .returned (.bool r) ∧ Below w.heap.size w w' := by
 have hu36 := Try.underlying36
 have hu27 := Try.underlying27
 have hu46 := Try.underlying46
 have hu49 := Try.underlying49
 have HR0_0 := Aside0.mk hr0_0
 have HC0_0 := Aside0.mk hc0_0
 clear hr0_0 hc0_0
 have HR0_1 := Aside0.mk hr0_1
 have HC0_1 := Aside0.mk hc0_1
 clear hr0_1 hc0_1
 have HR0_2 := Aside0.mk hr0_2
 have HC0_2 := Aside0.mk hc0_2
 clear hr0_2 hc0_2
 have HR0_3 := Aside0.mk hr0_3
 have HC0_3 := Aside0.mk hc0_3
 clear hr0_3 hc0_3
 have HR0_4 := Aside0.mk hr0_4
 have HC0_4 := Aside0.mk hc0_4
 clear hr0_4 hc0_4
 have HR1 := Aside0.mk hr1
 have HC1 := Aside0.mk hc1
 clear hr1 hc1
 have HR2 := Aside0.mk hr2
 have HC2 := Aside0.mk hc2
 clear hr2 hc2
 have HB := Aside0.mk (Below.refl w.heap.size w)
 have HRT_ := Aside0.mk hr_
 clear hr_
 have H : ((jacquardlaw36_awake.f k).bind fun t228 => (if t228 = true then ((jacquardlaw36_few.f k l0_0 l0_1 l0_2 l0_3 l0_4 l2).bind fun t229 => (jacquardlaw36_CyclesSplits.j0 k l1 l2 (!t229) l0_0 l0_1 l0_2 l0_3 l0_4)) else (jacquardlaw36_CyclesSplits.j0 k l1 l2 true l0_0 l0_1 l0_2 l0_3 l0_4))) = some r := h
 clear h
 have HC4 := Aside0.mk H
 clear H
 go_enter Try.func4, Try.ntmps4
 go_upto_region 1 with (first | ((with_reducible refine gate_dst (N := 3) rfl ?_); refine box_event ?hg (N := 3) ?hd (cs := #[.slice A0_0 l0_0.length c0_0, .slice A0_1 l0_1.length c0_1, .slice A0_2 l0_2.length c0_2, .slice A0_3 l0_3.length c0_3, .slice A0_4 l0_4.length c0_4]) (t := 36) ?hr ?_; (case hd => rfl); (case hg => rfl); (case hr => first | (go_simp; done) | (go_simp; rfl)); intro gb227 hg w5 hbox hb; have n0_ := Aside0.mk (below_step bl_ hb); have n1_ := Aside0.mk (hbox); have n2_ := Aside0.mk (gl_ (w := w) hg); have n3_ := Aside0.mk (gl_ (w := w) hg); clear HB; have HB := n0_; have BK227 := n1_; have GW227 := n2_; have GE227 := n3_; clear n0_ n1_ n2_ n3_; clear hb hbox hg))
 (try simp only [Act.put, List.setIfInBounds_toArray, List.set_cons_zero, List.set_cons_succ])
 go_cut [26] (fun v26 wc => ∃ (kq : Nat) (x26_3 : Bool), v26 = .bool x26_3 ∧ Aside0 (jacquardlaw36_CyclesSplits.j0 kq l1 l2 x26_3 l0_0 l0_1 l0_2 l0_3 l0_4 = some r) ∧ Aside0 (kq ≤ k) ∧ Aside0 (wc.heap[gb227]? = some (.cells #[(.slice A0_0 l0_0.length c0_0), (.slice A0_1 l0_1.length c0_1), (.slice A0_2 l0_2.length c0_2), (.slice A0_3 l0_3.length c0_3), (.slice A0_4 l0_4.length c0_4)] 36 (0, 0))) ∧ Aside0 (Below w.heap.size w wc))
 case first =>
  have H := HC4.out
  clear HC4
  replace H := Option.bind_eq_some_iff.mp H
  obtain ⟨t228, A60, H⟩ := H
  replace H : (if t228 = true then ((jacquardlaw36_few.f k l0_0 l0_1 l0_2 l0_3 l0_4 l2).bind fun t229 => (jacquardlaw36_CyclesSplits.j0 k l1 l2 (!t229) l0_0 l0_1 l0_2 l0_3 l0_4)) else (jacquardlaw36_CyclesSplits.j0 k l1 l2 true l0_0 l0_1 l0_2 l0_3 l0_4)) = some r := H
  have A6 := Aside0.mk A60
  clear A60
  by_cases c7 : t228 = true
  · subst c7
    have H1 : ((jacquardlaw36_few.f k l0_0 l0_1 l0_2 l0_3 l0_4 l2).bind fun t229 => (jacquardlaw36_CyclesSplits.j0 k l1 l2 (!t229) l0_0 l0_1 l0_2 l0_3 l0_4)) = some r := by rw [if_pos rfl] at H; exact H
    clear H
    have H := H1
    clear H1
    replace H := Option.bind_eq_some_iff.mp H
    obtain ⟨t229, A80, H⟩ := H
    replace H : (jacquardlaw36_CyclesSplits.j0 k l1 l2 (!t229) l0_0 l0_1 l0_2 l0_3 l0_4) = some r := H
    have A8 := Aside0.mk A80
    clear A80
    have H' := Aside0.mk H
    clear H
    go_wp2_with (first | ((with_reducible refine gate_callee (f := 9) rfl ?_); refine gL_ 19 Try.func9 #[] ?_; (with_reducible refine (jacquardlaw36_awake.calls k  true _ A6.out).mono ?_); rintro e w9 ⟨rfl, hb⟩; refine ⟨_, rfl, ?_⟩; have n0_ := Aside0.mk (blk_below (K_ BK227) hb); have n1_ := Aside0.mk (below_step bl_ hb); clear BK227; clear HB; have BK227 := n0_; have HB := n1_; clear n0_ n1_; (try clear hb); (try clear hb2); (try clear hk); (try clear hi); obtain ⟨hcz10_0, hcz10_1, hcz10_2, hcz10_3, hcz10_4⟩ := cells5 BK227; obtain ⟨hfz10_0, hfz10_1, hfz10_2, hfz10_3, hfz10_4⟩ := fz5 BK227) | (go_at_call 12; (with_reducible refine (jacquardlaw36_few.calls k _ _ l0_0 _ _ l0_1 _ _ l0_2 _ _ l0_3 _ _ l0_4 _ _ l2 t229 _ ?side1 ?side2 ?side3 ?side4 ?side5 ?side6 ?side7 ?side8 ?side9 ?side10 ?side11 ?side12 A8.out).mono ?_); (case side1 => exact CB_ HR0_0); (case side2 => exact HC0_0.out); (case side3 => exact CB_ HR0_1); (case side4 => exact HC0_1.out); (case side5 => exact CB_ HR0_2); (case side6 => exact HC0_2.out); (case side7 => exact CB_ HR0_3); (case side8 => exact HC0_3.out); (case side9 => exact CB_ HR0_4); (case side10 => exact HC0_4.out); (case side11 => exact CB_ HR2); (case side12 => exact HC2.out); rintro e w11 ⟨rfl, hb⟩; have n0_ := Aside0.mk (blk_below (K_ BK227) hb); have n1_ := Aside0.mk (below_step bl_ hb); clear BK227; clear HB; have BK227 := n0_; have HB := n1_; clear n0_ n1_; (try clear hb); (try clear hb2); (try clear hk); (try clear hi)))
    go_meet
    case rel => exact ⟨_, (!t229), (by first | rfl | (simp; done) | (simp [*]; done)), H', ⟨by first | omega | exact Nat.le_refl _⟩, ⟨K_ BK227⟩, ⟨bl_⟩⟩
  replace c7 := Bool.eq_false_iff.mpr c7
  subst c7
  have H1 : (jacquardlaw36_CyclesSplits.j0 k l1 l2 true l0_0 l0_1 l0_2 l0_3 l0_4) = some r := by rw [if_neg (show ¬ (false = true) by decide)] at H; exact H
  clear H
  have H := H1
  clear H1
  have H' := Aside0.mk H
  clear H
  go_wp2_with (first | ((with_reducible refine gate_callee (f := 9) rfl ?_); refine gL_ 19 Try.func9 #[] ?_; (with_reducible refine (jacquardlaw36_awake.calls k  false _ A6.out).mono ?_); rintro e w12 ⟨rfl, hb⟩; refine ⟨_, rfl, ?_⟩; have n0_ := Aside0.mk (blk_below (K_ BK227) hb); have n1_ := Aside0.mk (below_step bl_ hb); clear BK227; clear HB; have BK227 := n0_; have HB := n1_; clear n0_ n1_; (try clear hb); (try clear hb2); (try clear hk); (try clear hi)))
  go_meet
  case rel => exact ⟨_, (true), (by first | rfl | (simp; done) | (simp [*]; done)), H', ⟨by first | omega | exact Nat.le_refl _⟩, ⟨K_ BK227⟩, ⟨bl_⟩⟩
 clear HC4
 (try clear c1); (try clear c2); (try clear p2); (try clear c4); (try clear c7); (try clear c9); (try clear hcz10_0); (try clear hcz10_1); (try clear hcz10_2); (try clear hcz10_3); (try clear hcz10_4); (try clear hfz10_0); (try clear hfz10_1); (try clear hfz10_2); (try clear hfz10_3); (try clear hfz10_4)
 obtain ⟨kq, x26_3, rfl, HA, HJ3, BK227, HB⟩ := hcut
 cases kq with
 | zero => exact absurd HA.out (by simp [jacquardlaw36_CyclesSplits.j0])
 | succ kj3 => ?_
 have H := HA.out
 clear HA
 simp only [jacquardlaw36_CyclesSplits.j0] at H
 by_cases c13 : x26_3 = true
 · subst c13
   have H1 : ((jacquardlaw36_awake.f kj3).bind fun t230 => (some t230)) = some r := by rw [if_pos rfl] at H; exact H
   clear H
   have H := H1
   clear H1
   replace H := Option.bind_eq_some_iff.mp H
   obtain ⟨t230, A140, H⟩ := H
   replace H : (some t230) = some r := H
   have A14 := Aside0.mk A140
   clear A140
   obtain rfl := Option.some.inj H
   go_wp2_with (first | ((with_reducible refine gate_callee (f := 9) rfl ?_); refine gL_ 27 Try.func9 #[] ?_; (with_reducible refine (jacquardlaw36_awake.calls kj3  t230 _ A14.out).mono ?_); rintro e w15 ⟨rfl, hb⟩; refine ⟨_, rfl, ?_⟩; have n0_ := Aside0.mk (blk_below (K_ BK227) hb); have n1_ := Aside0.mk (below_step bl_ hb); clear BK227; clear HB; have BK227 := n0_; have HB := n1_; clear n0_ n1_; (try clear hb); (try clear hb2); (try clear hk); (try clear hi)))
   go_ret
   exact ⟨by first | rfl | (simp [errW_none, errW_some] <;> rfl) | (simp [*, errW_none, errW_some] <;> rfl), by repeat (first | (with_reducible first | exact HB.out | apply below_alloc | apply pw_below_drewN | apply below_drew1 | refine below_set ?_ GE227.out) | exact HB.out)⟩
 replace c13 := Bool.eq_false_iff.mpr c13
 subst c13
 have H1 : ((jacquardref27_Func.f kj3 l0_0 l0_1 l0_2 l0_3 l0_4).bind fun bt231 => ((jacquardref36_Scheds.f kj3 bt231.1 bt231.2.1 bt231.2.2.1 bt231.2.2.2.1 bt231.2.2.2.2.1 bt231.2.2.2.2.2 l1).bind fun t248 => ((jacquardref36_Walk.f kj3 bt231.1 bt231.2.1 bt231.2.2.1 bt231.2.2.2.1 bt231.2.2.2.2.1 bt231.2.2.2.2.2 l2).bind fun t251 => ((cycles_Split.f kj3 bt231.1 bt231.2.1 bt231.2.2.1 bt231.2.2.2.1 bt231.2.2.2.2.1 bt231.2.2.2.2.2 t248 t251).bind fun bt254 => (if bt254.2 = 0 then (jacquardlaw36_CyclesSplits.l0 kj3 t248 t251 bt254.1 ([] : List Int) 1 (bt254.1.length : Int) 0 bt231.1 bt231.2.1 bt231.2.2.1 bt231.2.2.2.1 bt231.2.2.2.2.1 bt231.2.2.2.2.2) else (some false)))))) = some r := by rw [if_neg (show ¬ (false = true) by decide)] at H; exact H
 clear H
 have H := H1
 clear H1
 replace H := Option.bind_eq_some_iff.mp H
 obtain ⟨⟨t231, t232, t235, t238, t241, t244⟩, A160, H⟩ := H
 replace H : ((jacquardref36_Scheds.f kj3 t231 t232 t235 t238 t241 t244 l1).bind fun t248 => ((jacquardref36_Walk.f kj3 t231 t232 t235 t238 t241 t244 l2).bind fun t251 => ((cycles_Split.f kj3 t231 t232 t235 t238 t241 t244 t248 t251).bind fun bt254 => (if bt254.2 = 0 then (jacquardlaw36_CyclesSplits.l0 kj3 t248 t251 bt254.1 ([] : List Int) 1 (bt254.1.length : Int) 0 t231 t232 t235 t238 t241 t244) else (some false))))) = some r := H
 have A16 := Aside0.mk A160
 clear A160
 replace H := Option.bind_eq_some_iff.mp H
 obtain ⟨t248, A170, H⟩ := H
 replace H : ((jacquardref36_Walk.f kj3 t231 t232 t235 t238 t241 t244 l2).bind fun t251 => ((cycles_Split.f kj3 t231 t232 t235 t238 t241 t244 t248 t251).bind fun bt254 => (if bt254.2 = 0 then (jacquardlaw36_CyclesSplits.l0 kj3 t248 t251 bt254.1 ([] : List Int) 1 (bt254.1.length : Int) 0 t231 t232 t235 t238 t241 t244) else (some false)))) = some r := H
 have A17 := Aside0.mk A170
 clear A170
 replace H := Option.bind_eq_some_iff.mp H
 obtain ⟨t251, A180, H⟩ := H
 replace H : ((cycles_Split.f kj3 t231 t232 t235 t238 t241 t244 t248 t251).bind fun bt254 => (if bt254.2 = 0 then (jacquardlaw36_CyclesSplits.l0 kj3 t248 t251 bt254.1 ([] : List Int) 1 (bt254.1.length : Int) 0 t231 t232 t235 t238 t241 t244) else (some false))) = some r := H
 have A18 := Aside0.mk A180
 clear A180
 replace H := Option.bind_eq_some_iff.mp H
 obtain ⟨⟨t254, t257⟩, A190, H⟩ := H
 replace H : (if t257 = 0 then (jacquardlaw36_CyclesSplits.l0 kj3 t248 t251 t254 ([] : List Int) 1 (t254.length : Int) 0 t231 t232 t235 t238 t241 t244) else (some false)) = some r := H
 have A19 := Aside0.mk A190
 clear A190
 by_cases c20 : t257 = 0
 · rw [if_pos c20] at H
   have c20b0 : (t257 == 0) = true := beq_iff_eq.mpr c20
   have c20b1 : (t257 != 0) = false := bne_eq_false_iff_eq.mpr c20
   clear c20
   have H' := Aside0.mk H
   clear H
   obtain ⟨hcz21_0, hcz21_1, hcz21_2, hcz21_3, hcz21_4⟩ := cells5 BK227
   obtain ⟨hfz21_0, hfz21_1, hfz21_2, hfz21_3, hfz21_4⟩ := fz5 BK227
   go_wp2_with (first | ((with_reducible refine gate_callee (f := 13) rfl ?_); refine gL_ 29 Try.func13 #[.agg #[.slice A0_0 l0_0.length c0_0, .slice A0_1 l0_1.length c0_1, .slice A0_2 l0_2.length c0_2, .slice A0_3 l0_3.length c0_3, .slice A0_4 l0_4.length c0_4]] ?_; (with_reducible refine (jacquardref27_Func.calls kj3 _ _ l0_0 _ _ l0_1 _ _ l0_2 _ _ l0_3 _ _ l0_4 t231 t232 t235 t238 t241 t244 _ ?side1 ?side2 ?side3 ?side4 ?side5 ?side6 ?side7 ?side8 ?side9 ?side10 A16.out).mono ?_); (case side1 => exact CB_ HR0_0); (case side2 => exact HC0_0.out); (case side3 => exact CB_ HR0_1); (case side4 => exact HC0_1.out); (case side5 => exact CB_ HR0_2); (case side6 => exact HC0_2.out); (case side7 => exact CB_ HR0_3); (case side8 => exact HC0_3.out); (case side9 => exact CB_ HR0_4); (case side10 => exact HC0_4.out); rintro e w22 ⟨v233, v236, v239, v242, v245, rfl, ho0, ho1, ho2, ho3, ho4, hb⟩; refine ⟨_, rfl, ?_⟩; have n0_ := Aside0.mk (Kd.R_lower ho0 (below_size bl_)); have n1_ := Aside0.mk (Kd.R_lower ho1 (below_size bl_)); have n2_ := Aside0.mk (Kd.R_lower ho2 (below_size bl_)); have n3_ := Aside0.mk (Kd.R_lower ho3 (below_size bl_)); have n4_ := Aside0.mk (Kd.R_lower ho4 (below_size bl_)); have n5_ := Aside0.mk (blk_below (K_ BK227) hb); have n6_ := Aside0.mk (below_step bl_ hb); clear BK227; clear HB; have HO234 := n0_; have HO237 := n1_; have HO240 := n2_; have HO243 := n3_; have HO246 := n4_; have BK227 := n5_; have HB := n6_; clear n0_ n1_ n2_ n3_ n4_ n5_ n6_; (try clear hb); (try clear hb2); (try clear hk); (try clear hi); (try clear ho0); (try clear ho1); (try clear ho2); (try clear ho3); (try clear ho4)) | ((with_reducible refine gate_dst (N := 7) rfl ?_); refine box_event ?hg (N := 7) ?hd (cs := #[.string (⟨#[]⟩ : ByteArray), .slice none 0 0, .slice none 0 0, .slice none 0 0, .slice none 0 0, .slice none 0 0]) (t := 27) ?hr ?_; (case hd => rfl); (case hg => rfl); (case hr => first | (go_simp; done) | (go_simp; rfl)); intro gb247 hg w23 hbox hb; have n0_ := Aside0.mk (Kd.R_below (R_ HO234) hb); have n1_ := Aside0.mk (Kd.R_below (R_ HO237) hb); have n2_ := Aside0.mk (Kd.R_below (R_ HO240) hb); have n3_ := Aside0.mk (Kd.R_below (R_ HO243) hb); have n4_ := Aside0.mk (Kd.R_below (R_ HO246) hb); have n5_ := Aside0.mk (blk_below (K_ BK227) hb); have n6_ := Aside0.mk (below_step bl_ hb); have n7_ := Aside0.mk (hbox); have n8_ := Aside0.mk (gl_ (w := w) hg); have n9_ := Aside0.mk (gl_ (w := w) hg); have n10_ := Aside0.mk (nl_ hg (K_ BK227)); have n11_ := Aside0.mk (ng_ hg (K_ BK227)); clear HO234; clear HO237; clear HO240; clear HO243; clear HO246; clear BK227; clear HB; have HO234 := n0_; have HO237 := n1_; have HO240 := n2_; have HO243 := n3_; have HO246 := n4_; have BK227 := n5_; have HB := n6_; have BK247 := n7_; have GW247 := n8_; have GE247 := n9_; have NB227_247 := n10_; have NB247_227 := n11_; clear n0_ n1_ n2_ n3_ n4_ n5_ n6_ n7_ n8_ n9_ n10_ n11_; clear hb hbox hg; have hnb24 := NB247_227.out; have hnc24 := NB227_247.out; obtain ⟨hcz25_0, hcz25_1, hcz25_2, hcz25_3, hcz25_4, hcz25_5⟩ := cells6 BK247; obtain ⟨hfz25_0, hfz25_1, hfz25_2, hfz25_3, hfz25_4, hfz25_5⟩ := fz6 BK247; obtain ⟨Ao26, co26, eo26⟩ := Kd.R_slice HO234.out; subst eo26; obtain ⟨Ao27, co27, eo27⟩ := Kd.R_slice HO237.out; subst eo27; obtain ⟨Ao28, co28, eo28⟩ := Kd.R_slice HO240.out; subst eo28; obtain ⟨Ao29, co29, eo29⟩ := Kd.R_slice HO243.out; subst eo29; obtain ⟨Ao30, co30, eo30⟩ := Kd.R_slice HO246.out; subst eo30) | ((with_reducible refine gate_callee (f := 14) rfl ?_); refine gL_ 32 Try.func14 #[.agg #[.string t231, .slice Ao26 t232.length co26, .slice Ao27 t235.length co27, .slice Ao28 t238.length co28, .slice Ao29 t241.length co29, .slice Ao30 t244.length co30], .slice A1 l1.length c1] ?_; (with_reducible refine (jacquardref36_Scheds.calls kj3 t231 _ _ t232 _ _ t235 _ _ t238 _ _ t241 _ _ t244 _ _ l1 t248 _ ?side1 ?side2 ?side3 ?side4 ?side5 ?side6 ?side7 ?side8 ?side9 ?side10 ?side11 ?side12 A17.out).mono ?_); (case side1 => refine (Kd.R_reads' (e := 3) (base := w.heap.size) (ok := fun k_ => some k_ ≠ (.slice Ao29 t241.length co29 : Value).ownBlock) (n := t232.length) (c := co26) ?_).2.2; exact (FR_ HO234 BK247)); (case side2 => exact (Kd.R_reads' HO234.out).2.1); (case side3 => refine (Kd.R_reads' (e := 75) (base := w.heap.size) (ok := fun k_ => True) (n := t235.length) (c := co27) ?_).2.2; exact (FR_ HO237 BK247)); (case side4 => exact (Kd.R_reads' HO237.out).2.1); (case side5 => refine (Kd.R_reads' (e := 77) (base := w.heap.size) (ok := fun k_ => True) (n := t238.length) (c := co28) ?_).2.2; exact (FR_ HO240 BK247)); (case side6 => exact (Kd.R_reads' HO240.out).2.1); (case side7 => refine (Kd.R_reads' (e := 3) (base := w.heap.size) (ok := fun k_ => some k_ ≠ (.slice Ao26 t232.length co26 : Value).ownBlock) (n := t241.length) (c := co29) ?_).2.2; exact (FR_ HO243 BK247)); (case side8 => exact (Kd.R_reads' HO243.out).2.1); (case side9 => refine (Kd.R_reads' (e := 66) (base := w.heap.size) (ok := fun k_ => (some k_ ≠ (.slice Ao26 t232.length co26 : Value).ownBlock ∧ some k_ ≠ (.slice Ao29 t241.length co29 : Value).ownBlock)) (n := t244.length) (c := co30) ?_).2.2; exact (FR_ HO246 BK247)); (case side10 => exact (Kd.R_reads' HO246.out).2.1); (case side11 => exact Kd.C_below HR1.out bl_); (case side12 => exact HC1.out); rintro e w31 ⟨v249, rfl, ho0, hb⟩; refine ⟨_, rfl, ?_⟩; have n0_ := Aside0.mk (Kd.R_below (FR_ HO234 BK247) hb); have n1_ := Aside0.mk (Kd.R_below (FR_ HO237 BK247) hb); have n2_ := Aside0.mk (Kd.R_below (FR_ HO240 BK247) hb); have n3_ := Aside0.mk (Kd.R_below (FR_ HO243 BK247) hb); have n4_ := Aside0.mk (Kd.R_below (FR_ HO246 BK247) hb); have n5_ := Aside0.mk (Kd.S_lower (Kd.S_new' (Kd.S_new' ho0 (Kd.R_lt (FR_ HO234 BK247))) (Kd.R_lt (FR_ HO243 BK247))) (below_size bl_)); have n6_ := Aside0.mk (blk_below (g := gb227) (o := .cells #[.slice A0_0 l0_0.length c0_0, .slice A0_1 l0_1.length c0_1, .slice A0_2 l0_2.length c0_2, .slice A0_3 l0_3.length c0_3, .slice A0_4 l0_4.length c0_4] 36 (0, 0)) (by (with_reducible repeat (first | refine blk_drewN ?_ _ | refine blk_drew ?_ | refine blk_alloc ?_ _)); refine blk_far ?_ NB227_247.out _; (with_reducible repeat (first | refine blk_drewN ?_ _ | refine blk_drew ?_ | refine blk_alloc ?_ _)); refine blk_far ?_ NB227_247.out _; (with_reducible repeat (first | refine blk_drewN ?_ _ | refine blk_drew ?_ | refine blk_alloc ?_ _)); refine blk_far ?_ NB227_247.out _; (with_reducible repeat (first | refine blk_drewN ?_ _ | refine blk_drew ?_ | refine blk_alloc ?_ _)); refine blk_far ?_ NB227_247.out _; (with_reducible repeat (first | refine blk_drewN ?_ _ | refine blk_drew ?_ | refine blk_alloc ?_ _)); refine blk_far ?_ NB227_247.out _; (with_reducible repeat (first | refine blk_drewN ?_ _ | refine blk_drew ?_ | refine blk_alloc ?_ _)); refine blk_far ?_ NB227_247.out _; (with_reducible repeat (first | refine blk_drewN ?_ _ | refine blk_drew ?_ | refine blk_alloc ?_ _)); exact BK227.out) hb); have n7_ := Aside0.mk (blk_below (g := gb247) (o := .cells #[.string t231, .slice Ao26 t232.length co26, .slice Ao27 t235.length co27, .slice Ao28 t238.length co28, .slice Ao29 t241.length co29, .slice Ao30 t244.length co30] 27 (0, 0)) (by (with_reducible repeat (first | refine blk_drewN ?_ _ | refine blk_drew ?_ | refine blk_alloc ?_ _)); refine blk_put (cs := #[.string t231, .slice Ao26 t232.length co26, .slice Ao27 t235.length co27, .slice Ao28 t238.length co28, .slice Ao29 t241.length co29, .slice none 0 0]) ?_ 5 _ rfl; (with_reducible repeat (first | refine blk_drewN ?_ _ | refine blk_drew ?_ | refine blk_alloc ?_ _)); refine blk_put (cs := #[.string t231, .slice Ao26 t232.length co26, .slice Ao27 t235.length co27, .slice Ao28 t238.length co28, .slice none 0 0, .slice none 0 0]) ?_ 4 _ rfl; (with_reducible repeat (first | refine blk_drewN ?_ _ | refine blk_drew ?_ | refine blk_alloc ?_ _)); refine blk_put (cs := #[.string t231, .slice Ao26 t232.length co26, .slice Ao27 t235.length co27, .slice none 0 0, .slice none 0 0, .slice none 0 0]) ?_ 3 _ rfl; (with_reducible repeat (first | refine blk_drewN ?_ _ | refine blk_drew ?_ | refine blk_alloc ?_ _)); refine blk_put (cs := #[.string t231, .slice Ao26 t232.length co26, .slice none 0 0, .slice none 0 0, .slice none 0 0, .slice none 0 0]) ?_ 2 _ rfl; (with_reducible repeat (first | refine blk_drewN ?_ _ | refine blk_drew ?_ | refine blk_alloc ?_ _)); refine blk_put (cs := #[.string t231, .slice none 0 0, .slice none 0 0, .slice none 0 0, .slice none 0 0, .slice none 0 0]) ?_ 1 _ rfl; (with_reducible repeat (first | refine blk_drewN ?_ _ | refine blk_drew ?_ | refine blk_alloc ?_ _)); refine blk_put (cs := #[.string (⟨#[]⟩ : ByteArray), .slice none 0 0, .slice none 0 0, .slice none 0 0, .slice none 0 0, .slice none 0 0]) ?_ 0 _ rfl; (with_reducible repeat (first | refine blk_drewN ?_ _ | refine blk_drew ?_ | refine blk_alloc ?_ _)); exact BK247.out) hb); have n8_ := Aside0.mk (below_step bl_ hb); clear HO234; clear HO237; clear HO240; clear HO243; clear HO246; clear BK227; clear BK247; clear HB; have HO234 := n0_; have HO237 := n1_; have HO240 := n2_; have HO243 := n3_; have HO246 := n4_; have HO250 := n5_; have BK227 := n6_; have BK247 := n7_; have HB := n8_; clear n0_ n1_ n2_ n3_ n4_ n5_ n6_ n7_ n8_; (try clear hb); (try clear hb2); (try clear hk); (try clear hi); (try clear ho0); obtain ⟨hcz32_0, hcz32_1, hcz32_2, hcz32_3, hcz32_4, hcz32_5⟩ := cells6 BK247; obtain ⟨hfz32_0, hfz32_1, hfz32_2, hfz32_3, hfz32_4, hfz32_5⟩ := fz6 BK247) | ((with_reducible refine gate_callee (f := 15) rfl ?_); refine gL_ 35 Try.func15 #[.agg #[.string t231, .slice Ao26 t232.length co26, .slice Ao27 t235.length co27, .slice Ao28 t238.length co28, .slice Ao29 t241.length co29, .slice Ao30 t244.length co30], .slice A2 l2.length c2] ?_; (with_reducible refine (jacquardref36_Walk.calls kj3 t231 _ _ t232 _ _ t235 _ _ t238 _ _ t241 _ _ t244 _ _ l2 t251 _ ?side1 ?side2 ?side3 ?side4 ?side5 ?side6 ?side7 ?side8 ?side9 ?side10 ?side11 ?side12 A18.out).mono ?_); (case side1 => exact CR_ HO234); (case side2 => exact (Kd.R_reads' HO234.out).2.1); (case side3 => exact CR_ HO237); (case side4 => exact (Kd.R_reads' HO237.out).2.1); (case side5 => exact CR_ HO240); (case side6 => exact (Kd.R_reads' HO240.out).2.1); (case side7 => exact CR_ HO243); (case side8 => exact (Kd.R_reads' HO243.out).2.1); (case side9 => exact CR_ HO246); (case side10 => exact (Kd.R_reads' HO246.out).2.1); (case side11 => exact CB_ HR2); (case side12 => exact HC2.out); rintro e w33 ⟨v252, rfl, ho0, hb⟩; refine ⟨_, rfl, ?_⟩; have n0_ := Aside0.mk (Kd.R_elder' (R_ HO234) (Kd.R_base ho0) hb); have n1_ := Aside0.mk (Kd.R_below (R_ HO237) hb); have n2_ := Aside0.mk (Kd.R_below (R_ HO240) hb); have n3_ := Aside0.mk (Kd.R_elder' (R_ HO243) (Kd.R_base ho0) hb); have n4_ := Aside0.mk (Kd.R_elder' (R_ HO246) (Kd.R_base ho0) hb); have n5_ := Aside0.mk (Kd.S_elder' (S_ HO250) (Kd.R_base ho0) hb); have n6_ := Aside0.mk (Kd.R_lower (Kd.R_new' (Kd.R_new' ho0 (Kd.R_lt (R_ HO234))) (Kd.R_lt (R_ HO243))) (below_size bl_)); have n7_ := Aside0.mk (blk_below (K_ BK227) hb); have n8_ := Aside0.mk (blk_below (K_ BK247) hb); have n9_ := Aside0.mk (below_step bl_ hb); clear HO234; clear HO237; clear HO240; clear HO243; clear HO246; clear HO250; clear BK227; clear BK247; clear HB; have HO234 := n0_; have HO237 := n1_; have HO240 := n2_; have HO243 := n3_; have HO246 := n4_; have HO250 := n5_; have HO253 := n6_; have BK227 := n7_; have BK247 := n8_; have HB := n9_; clear n0_ n1_ n2_ n3_ n4_ n5_ n6_ n7_ n8_ n9_; (try clear hb); (try clear hb2); (try clear hk); (try clear hi); (try clear ho0); obtain ⟨hcz34_0, hcz34_1, hcz34_2, hcz34_3, hcz34_4, hcz34_5⟩ := cells6 BK247; obtain ⟨hfz34_0, hfz34_1, hfz34_2, hfz34_3, hfz34_4, hfz34_5⟩ := fz6 BK247; obtain ⟨Ao35, co35, eo35⟩ := Kd.S_slice HO250.out; subst eo35; obtain ⟨Ao36, co36, eo36⟩ := Kd.R_slice HO253.out; subst eo36) | ((with_reducible refine gate_callee (f := 16) rfl ?_); refine gL_ 40 Try.func16 #[.agg #[.string t231, .slice Ao26 t232.length co26, .slice Ao27 t235.length co27, .slice Ao28 t238.length co28, .slice Ao29 t241.length co29, .slice Ao30 t244.length co30], .slice Ao35 t248.length co35, .slice Ao36 t251.length co36] ?_; (with_reducible refine (cycles_Split.calls kj3 t231 _ _ t232 _ _ t235 _ _ t238 _ _ t241 _ _ t244 _ _ t248 _ _ t251 t254 t257 _ ?side1 ?side2 ?side3 ?side4 ?side5 ?side6 ?side7 ?side8 ?side9 ?side10 ?side11 ?side12 ?side13 ?side14 A19.out).mono ?_); (case side1 => exact CR_ HO234); (case side2 => exact (Kd.R_reads' HO234.out).2.1); (case side3 => exact CR_ HO237); (case side4 => exact (Kd.R_reads' HO237.out).2.1); (case side5 => exact CR_ HO240); (case side6 => exact (Kd.R_reads' HO240.out).2.1); (case side7 => exact CR_ HO243); (case side8 => exact (Kd.R_reads' HO243.out).2.1); (case side9 => exact CR_ HO246); (case side10 => exact (Kd.R_reads' HO246.out).2.1); (case side11 => exact CS_ HO250); (case side12 => exact (Kd.S_reads' HO250.out).2.1); (case side13 => exact CR_ HO253); (case side14 => exact (Kd.R_reads' HO253.out).2.1); rintro e w37 ⟨v255, rfl, ho0, hb⟩; refine ⟨_, rfl, ?_⟩; have n0_ := Aside0.mk (Kd.R_below (R_ HO234) hb); have n1_ := Aside0.mk (Kd.R_below (R_ HO237) hb); have n2_ := Aside0.mk (Kd.R_below (R_ HO240) hb); have n3_ := Aside0.mk (Kd.R_below (R_ HO243) hb); have n4_ := Aside0.mk (Kd.R_below (R_ HO246) hb); have n5_ := Aside0.mk (Kd.S_below (S_ HO250) hb); have n6_ := Aside0.mk (Kd.R_below (R_ HO253) hb); have n7_ := Aside0.mk (Kd.R_lower ho0 (below_size bl_)); have n8_ := Aside0.mk (blk_below (K_ BK227) hb); have n9_ := Aside0.mk (blk_below (K_ BK247) hb); have n10_ := Aside0.mk (below_step bl_ hb); clear HO234; clear HO237; clear HO240; clear HO243; clear HO246; clear HO250; clear HO253; clear BK227; clear BK247; clear HB; have HO234 := n0_; have HO237 := n1_; have HO240 := n2_; have HO243 := n3_; have HO246 := n4_; have HO250 := n5_; have HO253 := n6_; have HO256 := n7_; have BK227 := n8_; have BK247 := n9_; have HB := n10_; clear n0_ n1_ n2_ n3_ n4_ n5_ n6_ n7_ n8_ n9_ n10_; (try clear hb); (try clear hb2); (try clear hk); (try clear hi); (try clear ho0); obtain ⟨Ao38, co38, eo38⟩ := Kd.R_slice HO256.out; subst eo38))
   go_loopg [12, 13, 47] kj3 (fun kq v12 v13 v47 w' => ∃ (x12_2 : List Int) (x13_2 : Int) (x47_2 : Int), v13 = .int .i64 x13_2 ∧ v47 = .int .i64 x47_2 ∧ Aside0 (jacquardlaw36_CyclesSplits.l0 kq t248 t251 t254 x12_2 x13_2 (t254.length : Int) x47_2 t231 t232 t235 t238 t241 t244 = some r) ∧ Aside0 (kq ≤ kj3) ∧ Aside0 (Kd.S k49 49 w' w.heap.size (fun k_ => some k_ ≠ ((.slice Ao36 t251.length co36) : Value).ownBlock ∧ some k_ ≠ (v12 : Value).ownBlock ∧ some k_ ≠ ((.slice Ao26 t232.length co26) : Value).ownBlock ∧ some k_ ≠ ((.slice Ao29 t241.length co29) : Value).ownBlock) (.slice Ao35 t248.length co35) t248) ∧ Aside0 (Kd.R (Kd.int .i64) 3 w' w.heap.size (fun k_ => some k_ ≠ (v12 : Value).ownBlock ∧ some k_ ≠ ((.slice Ao26 t232.length co26) : Value).ownBlock ∧ some k_ ≠ ((.slice Ao29 t241.length co29) : Value).ownBlock) (.slice Ao36 t251.length co36) t251) ∧ Aside0 (Kd.R k46 46 w' w.heap.size (fun _ => True) (.slice Ao38 t254.length co38) t254) ∧ Aside0 (Kd.R (Kd.int .i64) 3 w' w.heap.size (fun k_ => some k_ ≠ ((.slice Ao36 t251.length co36) : Value).ownBlock ∧ some k_ ≠ ((.slice Ao26 t232.length co26) : Value).ownBlock ∧ some k_ ≠ ((.slice Ao29 t241.length co29) : Value).ownBlock) v12 x12_2) ∧ Aside0 (Kd.R (Kd.int .i64) 3 w' w.heap.size (fun k_ => some k_ ≠ ((.slice Ao36 t251.length co36) : Value).ownBlock ∧ some k_ ≠ (v12 : Value).ownBlock ∧ some k_ ≠ ((.slice Ao29 t241.length co29) : Value).ownBlock) (.slice Ao26 t232.length co26) t232) ∧ Aside0 (Kd.R k75 75 w' w.heap.size (fun _ => True) (.slice Ao27 t235.length co27) t235) ∧ Aside0 (Kd.R k77 77 w' w.heap.size (fun _ => True) (.slice Ao28 t238.length co28) t238) ∧ Aside0 (Kd.R (Kd.int .i64) 3 w' w.heap.size (fun k_ => some k_ ≠ ((.slice Ao36 t251.length co36) : Value).ownBlock ∧ some k_ ≠ (v12 : Value).ownBlock ∧ some k_ ≠ ((.slice Ao26 t232.length co26) : Value).ownBlock) (.slice Ao29 t241.length co29) t241) ∧ Aside0 (Kd.R k66 66 w' w.heap.size (fun k_ => some k_ ≠ ((.slice Ao36 t251.length co36) : Value).ownBlock ∧ some k_ ≠ (v12 : Value).ownBlock ∧ some k_ ≠ ((.slice Ao26 t232.length co26) : Value).ownBlock ∧ some k_ ≠ ((.slice Ao29 t241.length co29) : Value).ownBlock) (.slice Ao30 t244.length co30) t244) ∧ Aside0 (w'.heap[gb227]? = some (.cells #[(.slice A0_0 l0_0.length c0_0), (.slice A0_1 l0_1.length c0_1), (.slice A0_2 l0_2.length c0_2), (.slice A0_3 l0_3.length c0_3), (.slice A0_4 l0_4.length c0_4)] 36 (0, 0))) ∧ Aside0 (w'.heap[gb247]? = some (.cells #[.string t231, (.slice Ao26 t232.length co26), (.slice Ao27 t235.length co27), (.slice Ao28 t238.length co28), (.slice Ao29 t241.length co29), (.slice Ao30 t244.length co30)] 27 (0, 0))) ∧ Aside0 (Below w.heap.size w w'))
   case atStart => exact ⟨(([] : List Int)), (1), (0), (by first | rfl | (simp; done) | (simp [*]; done)), (by first | rfl | (simp; done) | (simp [*]; done)), H', ⟨Nat.le_refl _⟩, ⟨by (with_reducible repeat (first | apply Kd.S_alloc | apply Kd.S_drewN | apply Kd.S_drew)); exact Kd.S_mono HO250.out (fun _ hk => ⟨hk.2, ⟨(by simp [Value.ownBlock]), ⟨hk.1.1.2, hk.1.2⟩⟩⟩)⟩, ⟨by (with_reducible repeat (first | apply Kd.R_alloc | apply Kd.R_drewN | apply Kd.R_drew)); exact Kd.R_mono HO253.out (fun _ hk => ⟨(by simp [Value.ownBlock]), ⟨hk.1.2, hk.2⟩⟩)⟩, ⟨R_ HO256⟩, ⟨by first | exact Kd.R_nil _ _ _ _ _ | exact Kd.N_nil _ _ _ _ _ | exact Kd.V_nil _ _ _ _ _ | exact Kd.Q_nil _ _ _ _ _ | exact Kd.S_nil _ _ _ _ _⟩, ⟨by (with_reducible repeat (first | apply Kd.R_alloc | apply Kd.R_drewN | apply Kd.R_drew)); exact Kd.R_mono HO234.out (fun _ hk => ⟨hk.2, ⟨(by simp [Value.ownBlock]), hk.1⟩⟩)⟩, ⟨R_ HO237⟩, ⟨R_ HO240⟩, ⟨by (with_reducible repeat (first | apply Kd.R_alloc | apply Kd.R_drewN | apply Kd.R_drew)); exact Kd.R_mono HO243.out (fun _ hk => ⟨hk.2, ⟨(by simp [Value.ownBlock]), hk.1⟩⟩)⟩, ⟨by (with_reducible repeat (first | apply Kd.R_alloc | apply Kd.R_drewN | apply Kd.R_drew)); exact Kd.R_mono HO246.out (fun _ hk => ⟨hk.2, ⟨(by simp [Value.ownBlock]), ⟨hk.1.1, hk.1.2⟩⟩⟩)⟩, ⟨K_ BK227⟩, ⟨K_ BK247⟩, ⟨bl_⟩⟩
   clear H'
   (try clear c1); (try clear c2); (try clear p2); (try clear c4); (try clear c7); (try clear c9); (try clear c13); (try clear c14); (try clear c15); (try clear c16); (try clear c20); (try clear c20b0); (try clear c20b1); (try clear c24); (try clear hcz10_0); (try clear hcz10_1); (try clear hcz10_2); (try clear hcz10_3); (try clear hcz10_4); (try clear hcz21_0); (try clear hcz21_1); (try clear hcz21_2); (try clear hcz21_3); (try clear hcz21_4); (try clear hcz25_0); (try clear hcz25_1); (try clear hcz25_2); (try clear hcz25_3); (try clear hcz25_4); (try clear hcz25_5); (try clear hcz32_0); (try clear hcz32_1); (try clear hcz32_2); (try clear hcz32_3); (try clear hcz32_4); (try clear hcz32_5); (try clear hcz34_0); (try clear hcz34_1); (try clear hcz34_2); (try clear hcz34_3)
   (try clear hcz34_4); (try clear hcz34_5); (try clear hfz10_0); (try clear hfz10_1); (try clear hfz10_2); (try clear hfz10_3); (try clear hfz10_4); (try clear hfz21_0); (try clear hfz21_1); (try clear hfz21_2); (try clear hfz21_3); (try clear hfz21_4); (try clear hfz25_0); (try clear hfz25_1); (try clear hfz25_2); (try clear hfz25_3); (try clear hfz25_4); (try clear hfz25_5); (try clear hfz32_0); (try clear hfz32_1); (try clear hfz32_2); (try clear hfz32_3); (try clear hfz32_4); (try clear hfz32_5); (try clear hfz34_0); (try clear hfz34_1); (try clear hfz34_2); (try clear hfz34_3); (try clear hfz34_4); (try clear hfz34_5); (try clear p2)
   obtain ⟨x12_2, x13_2, x47_2, rfl, rfl, HA, HK2, HO_8, HO_9, HO_10, HO_12, HO_248001, HO_248002, HO_248003, HO_248004, HO_248005, BK227, BK247, HB⟩ := hrel
   cases gk with
   | zero => exact absurd HA.out (by simp [jacquardlaw36_CyclesSplits.l0])
   | succ k2 => ?_
   have H := HA.out
   clear HA
   simp only [jacquardlaw36_CyclesSplits.l0] at H
   by_cases c39 : x47_2 < (t254.length : Int)
   · rw [if_pos c39] at H
     have c39b0 : decide (x47_2 < (t254.length : Int)) = true := decide_eq_true c39
     clear c39
     by_cases c40 : 0 ≤ x47_2
     · rw [if_pos c40] at H
       have c40b0 : decide (0 ≤ x47_2) = true := decide_eq_true c40
       clear c40
       by_cases c41 : x47_2 < (t254.length : Int)
       · rw [if_pos c41] at H
         have c41b0 : decide (x47_2 < (t254.length : Int)) = true := decide_eq_true c41
         clear c41
         replace H := Option.bind_eq_some_iff.mp H
         obtain ⟨t265, A420, H⟩ := H
         replace H : (if ((rd_T46 t254 x47_2).f1) < 1 then (jacquardlaw36_CyclesSplits.j2 k2 t248 t251 t254 x12_2 x13_2 (t254.length : Int) x47_2 true t231 t232 t235 t238 t241 t244 ((rd_T46 t254 x47_2).f0) ((rd_T46 t254 x47_2).f1)) else (if t265 ≥ 0 then (if x47_2 > 0 then (if 0 ≤ (wrap64 (x47_2 - 1)) then (if (wrap64 (x47_2 - 1)) < (t254.length : Int) then (jacquardlaw36_CyclesSplits.j2 k2 t248 t251 t254 x12_2 x13_2 (t254.length : Int) x47_2 (((rd_T46 t254 (wrap64 (x47_2 - 1))).f0) == ((rd_T46 t254 x47_2).f0)) t231 t232 t235 t238 t241 t244 ((rd_T46 t254 x47_2).f0) ((rd_T46 t254 x47_2).f1)) else (none)) else (none)) else (jacquardlaw36_CyclesSplits.j2 k2 t248 t251 t254 x12_2 x13_2 (t254.length : Int) x47_2 false t231 t232 t235 t238 t241 t244 ((rd_T46 t254 x47_2).f0) ((rd_T46 t254 x47_2).f1))) else (if ((rd_T46 t254 x47_2).f1) = 1 then (jacquardlaw36_CyclesSplits.j2 k2 t248 t251 t254 x12_2 x13_2 (t254.length : Int) x47_2 false t231 t232 t235 t238 t241 t244 ((rd_T46 t254 x47_2).f0) ((rd_T46 t254 x47_2).f1)) else (jacquardlaw36_CyclesSplits.j2 k2 t248 t251 t254 x12_2 x13_2 (t254.length : Int) x47_2 true t231 t232 t235 t238 t241 t244 ((rd_T46 t254 x47_2).f0) ((rd_T46 t254 x47_2).f1))))) = some r := H
         have A42 := Aside0.mk A420
         clear A420
         have HC43 := Aside0.mk H
         clear H
         have p263 : 0 ≤ (x47_2 : Int) := of_decide_eq_true (by first | (with_reducible assumption) | assumption)
         have q263 : x47_2 < (t254.length : Int) := of_decide_eq_true (by first | (with_reducible assumption) | assumption)
         obtain ⟨ad263, e263, hx263_0, hx263_1⟩ := at_T46 (Kd.R_reads' HO_10.out).2.2 x47_2 p263 q263
         cases e263
         replace p263 := eq_true p263
         replace q263 := eq_true q263
         go_upto_region 16 with (first | ((with_reducible refine gate_dst (N := 15) rfl ?_); refine box_event ?hg (N := 15) ?hd (cs := #[.int .i64 0, .int .i64 0]) (t := 46) ?hr ?_; (case hd => rfl); (case hg => rfl); (case hr => first | (go_simp; done) | (go_simp; rfl)); intro gb264 hg w44 hbox hb; have n0_ := Aside0.mk (Kd.S_below (S_ HO_8) hb); have n1_ := Aside0.mk (Kd.R_below (R_ HO_9) hb); have n2_ := Aside0.mk (Kd.R_below (Kd.R_elderB (R_ HO_10) gb264 (Nat.le_of_eq hg.symm)) hb); have n3_ := Aside0.mk (Kd.R_below (R_ HO_12) hb); have n4_ := Aside0.mk (Kd.R_below (R_ HO_248001) hb); have n5_ := Aside0.mk (Kd.R_below (R_ HO_248002) hb); have n6_ := Aside0.mk (Kd.R_below (R_ HO_248003) hb); have n7_ := Aside0.mk (Kd.R_below (R_ HO_248004) hb); have n8_ := Aside0.mk (Kd.R_below (R_ HO_248005) hb); have n9_ := Aside0.mk (blk_below (K_ BK227) hb); have n10_ := Aside0.mk (blk_below (K_ BK247) hb); have n11_ := Aside0.mk (below_step bl_ hb); have n12_ := Aside0.mk (hbox); have n13_ := Aside0.mk (gl_ (w := w) hg); have n14_ := Aside0.mk (gl_ (w := w) hg); have n15_ := Aside0.mk (nl_ hg (K_ BK227)); have n16_ := Aside0.mk (ng_ hg (K_ BK227)); have n17_ := Aside0.mk (nl_ hg (K_ BK247)); have n18_ := Aside0.mk (ng_ hg (K_ BK247)); clear HO_8; clear HO_9; clear HO_10; clear HO_12; clear HO_248001; clear HO_248002; clear HO_248003; clear HO_248004; clear HO_248005; clear BK227; clear BK247; clear HB; have HO_8 := n0_; have HO_9 := n1_; have HO_10 := n2_; have HO_12 := n3_; have HO_248001 := n4_; have HO_248002 := n5_; have HO_248003 := n6_; have HO_248004 := n7_; have HO_248005 := n8_; have BK227 := n9_; have BK247 := n10_; have HB := n11_; have BK264 := n12_; have GW264 := n13_; have GE264 := n14_; have NB227_264 := n15_; have NB264_227 := n16_; have NB247_264 := n17_; have NB264_247 := n18_; clear n0_ n1_ n2_ n3_ n4_ n5_ n6_ n7_ n8_ n9_ n10_ n11_ n12_ n13_ n14_ n15_ n16_ n17_ n18_; clear hb hbox hg; have hnb45 := NB264_227.out; have hnc45 := NB227_264.out; have hnb46 := NB264_247.out; have hnc46 := NB247_264.out; obtain ⟨hcz47_0, hcz47_1⟩ := cells2 BK264; obtain ⟨hfz47_0, hfz47_1⟩ := fz2 BK264; have hnb48 := NB247_227.out; have hnc48 := NB227_247.out; obtain ⟨hcz49_0, hcz49_1, hcz49_2, hcz49_3, hcz49_4, hcz49_5⟩ := cells6 BK247; obtain ⟨hfz49_0, hfz49_1, hfz49_2, hfz49_3, hfz49_4, hfz49_5⟩ := fz6 BK247) | ((with_reducible refine gate_callee (f := 11) rfl ?_); refine gL_ 58 Try.func11 #[.agg #[.string t231, .slice Ao26 t232.length co26, .slice Ao27 t235.length co27, .slice Ao28 t238.length co28, .slice Ao29 t241.length co29, .slice Ao30 t244.length co30], .slice Ao35 t248.length co35, .int .i64 ((rd_T46 t254 x47_2).f0)] ?_; (with_reducible refine (jacquardref36_Self.calls k2 t231 _ _ t232 _ _ t235 _ _ t238 _ _ t241 _ _ t244 _ _ t248 ((rd_T46 t254 x47_2).f0) t265 _ ?side1 ?side2 ?side3 ?side4 ?side5 ?side6 ?side7 ?side8 ?side9 ?side10 ?side11 ?side12 A42.out).mono ?_); (case side1 => refine (Kd.R_reads' (e := 3) (base := w.heap.size) (ok := fun k_ => (some k_ ≠ (.slice Ao36 t251.length co36 : Value).ownBlock ∧ (some k_ ≠ (u12 : Value).ownBlock ∧ some k_ ≠ (.slice Ao29 t241.length co29 : Value).ownBlock))) (n := t232.length) (c := co26) ?_).2.2; exact (FR_ HO_248001 BK264)); (case side2 => exact (Kd.R_reads' HO_248001.out).2.1); (case side3 => refine (Kd.R_reads' (e := 75) (base := w.heap.size) (ok := fun k_ => True) (n := t235.length) (c := co27) ?_).2.2; exact (FR_ HO_248002 BK264)); (case side4 => exact (Kd.R_reads' HO_248002.out).2.1); (case side5 => refine (Kd.R_reads' (e := 77) (base := w.heap.size) (ok := fun k_ => True) (n := t238.length) (c := co28) ?_).2.2; exact (FR_ HO_248003 BK264)); (case side6 => exact (Kd.R_reads' HO_248003.out).2.1); (case side7 => refine (Kd.R_reads' (e := 3) (base := w.heap.size) (ok := fun k_ => (some k_ ≠ (.slice Ao36 t251.length co36 : Value).ownBlock ∧ (some k_ ≠ (u12 : Value).ownBlock ∧ some k_ ≠ (.slice Ao26 t232.length co26 : Value).ownBlock))) (n := t241.length) (c := co29) ?_).2.2; exact (FR_ HO_248004 BK264)); (case side8 => exact (Kd.R_reads' HO_248004.out).2.1); (case side9 => refine (Kd.R_reads' (e := 66) (base := w.heap.size) (ok := fun k_ => (some k_ ≠ (.slice Ao36 t251.length co36 : Value).ownBlock ∧ (some k_ ≠ (u12 : Value).ownBlock ∧ (some k_ ≠ (.slice Ao26 t232.length co26 : Value).ownBlock ∧ some k_ ≠ (.slice Ao29 t241.length co29 : Value).ownBlock)))) (n := t244.length) (c := co30) ?_).2.2; exact (FR_ HO_248005 BK264)); (case side10 => exact (Kd.R_reads' HO_248005.out).2.1); (case side11 => refine (Kd.S_reads' (e := 49) (base := w.heap.size) (ok := fun k_ => (some k_ ≠ (.slice Ao36 t251.length co36 : Value).ownBlock ∧ (some k_ ≠ (u12 : Value).ownBlock ∧ (some k_ ≠ (.slice Ao26 t232.length co26 : Value).ownBlock ∧ some k_ ≠ (.slice Ao29 t241.length co29 : Value).ownBlock)))) (n := t248.length) (c := co35) ?_).2.2; exact (by (with_reducible repeat (first | apply Kd.S_alloc | apply Kd.S_drewN | apply Kd.S_drew)); exact (Kd.S_mono (Kd.S_far (p := ⟨gb264, 1, none⟩) (Kd.S_far (p := ⟨gb264, 0, none⟩) (Kd.S_types HO_8.out BK264.out (by decide)) (fun _ hk => hk.2) (.int .i64 ((rd_T46 t254 x47_2).f0))) (fun _ hk => hk.2) (.int .i64 ((rd_T46 t254 x47_2).f1))) (fun _ h_ => h_.1)))); (case side12 => exact (Kd.S_reads' HO_8.out).2.1); rintro e w50 ⟨rfl, hb⟩; refine ⟨_, rfl, ?_⟩; have n0_ := Aside0.mk (Kd.S_below (by (with_reducible repeat (first | apply Kd.S_alloc | apply Kd.S_drewN | apply Kd.S_drew)); exact (Kd.S_mono (Kd.S_far (p := ⟨gb264, 1, none⟩) (Kd.S_far (p := ⟨gb264, 0, none⟩) (Kd.S_types HO_8.out BK264.out (by decide)) (fun _ hk => hk.2) (.int .i64 ((rd_T46 t254 x47_2).f0))) (fun _ hk => hk.2) (.int .i64 ((rd_T46 t254 x47_2).f1))) (fun _ h_ => h_.1))) hb); have n1_ := Aside0.mk (Kd.R_below (FR_ HO_9 BK264) hb); have n2_ := Aside0.mk (Kd.R_below (by (with_reducible repeat (first | apply Kd.R_alloc | apply Kd.R_drewN | apply Kd.R_drew)); exact (Kd.R_mono (Kd.R_far (p := ⟨gb264, 1, none⟩) (Kd.R_far (p := ⟨gb264, 0, none⟩) (Kd.R_mono HO_10.out (fun k_ hk => (⟨hk, hk.2⟩ : _ ∧ k_ ≠ gb264))) (fun _ hk => hk.2) (.int .i64 ((rd_T46 t254 x47_2).f0))) (fun _ hk => hk.2) (.int .i64 ((rd_T46 t254 x47_2).f1))) (fun _ h_ => h_.1))) hb); have n3_ := Aside0.mk (Kd.R_below (FR_ HO_12 BK264) hb); have n4_ := Aside0.mk (Kd.R_below (FR_ HO_248001 BK264) hb); have n5_ := Aside0.mk (Kd.R_below (FR_ HO_248002 BK264) hb); have n6_ := Aside0.mk (Kd.R_below (FR_ HO_248003 BK264) hb); have n7_ := Aside0.mk (Kd.R_below (FR_ HO_248004 BK264) hb); have n8_ := Aside0.mk (Kd.R_below (FR_ HO_248005 BK264) hb); have n9_ := Aside0.mk (blk_below (g := gb227) (o := .cells #[.slice A0_0 l0_0.length c0_0, .slice A0_1 l0_1.length c0_1, .slice A0_2 l0_2.length c0_2, .slice A0_3 l0_3.length c0_3, .slice A0_4 l0_4.length c0_4] 36 (0, 0)) (by (with_reducible repeat (first | refine blk_drewN ?_ _ | refine blk_drew ?_ | refine blk_alloc ?_ _)); refine blk_far ?_ NB227_264.out _; (with_reducible repeat (first | refine blk_drewN ?_ _ | refine blk_drew ?_ | refine blk_alloc ?_ _)); refine blk_far ?_ NB227_264.out _; (with_reducible repeat (first | refine blk_drewN ?_ _ | refine blk_drew ?_ | refine blk_alloc ?_ _)); exact BK227.out) hb); have n10_ := Aside0.mk (blk_below (g := gb247) (o := .cells #[.string t231, .slice Ao26 t232.length co26, .slice Ao27 t235.length co27, .slice Ao28 t238.length co28, .slice Ao29 t241.length co29, .slice Ao30 t244.length co30] 27 (0, 0)) (by (with_reducible repeat (first | refine blk_drewN ?_ _ | refine blk_drew ?_ | refine blk_alloc ?_ _)); refine blk_far ?_ NB247_264.out _; (with_reducible repeat (first | refine blk_drewN ?_ _ | refine blk_drew ?_ | refine blk_alloc ?_ _)); refine blk_far ?_ NB247_264.out _; (with_reducible repeat (first | refine blk_drewN ?_ _ | refine blk_drew ?_ | refine blk_alloc ?_ _)); exact BK247.out) hb); have n11_ := Aside0.mk (blk_below (g := gb264) (o := .cells #[.int .i64 ((rd_T46 t254 x47_2).f0), .int .i64 ((rd_T46 t254 x47_2).f1)] 46 (0, 0)) (by (with_reducible repeat (first | refine blk_drewN ?_ _ | refine blk_drew ?_ | refine blk_alloc ?_ _)); refine blk_put (cs := #[.int .i64 ((rd_T46 t254 x47_2).f0), .int .i64 0]) ?_ 1 _ rfl; (with_reducible repeat (first | refine blk_drewN ?_ _ | refine blk_drew ?_ | refine blk_alloc ?_ _)); refine blk_put (cs := #[.int .i64 0, .int .i64 0]) ?_ 0 _ rfl; (with_reducible repeat (first | refine blk_drewN ?_ _ | refine blk_drew ?_ | refine blk_alloc ?_ _)); exact BK264.out) hb); have n12_ := Aside0.mk (below_step bl_ hb); clear HO_8; clear HO_9; clear HO_10; clear HO_12; clear HO_248001; clear HO_248002; clear HO_248003; clear HO_248004; clear HO_248005; clear BK227; clear BK247; clear BK264; clear HB; have HO_8 := n0_; have HO_9 := n1_; have HO_10 := n2_; have HO_12 := n3_; have HO_248001 := n4_; have HO_248002 := n5_; have HO_248003 := n6_; have HO_248004 := n7_; have HO_248005 := n8_; have BK227 := n9_; have BK247 := n10_; have BK264 := n11_; have HB := n12_; clear n0_ n1_ n2_ n3_ n4_ n5_ n6_ n7_ n8_ n9_ n10_ n11_ n12_; (try clear hb); (try clear hb2); (try clear hk); (try clear hi)))
         (try simp only [Act.put, List.setIfInBounds_toArray, List.set_cons_zero, List.set_cons_succ])
         go_cut [16, 89] (fun v16 v89 wc => v16 = .bool (decide (0 ≤ t265)) ∧ ∃ (kq : Nat) (x89_42 : Bool), v89 = .bool x89_42 ∧ Aside0 (jacquardlaw36_CyclesSplits.j2 kq t248 t251 t254 x12_2 x13_2 (t254.length : Int) x47_2 x89_42 t231 t232 t235 t238 t241 t244 ((rd_T46 t254 x47_2).f0) ((rd_T46 t254 x47_2).f1) = some r) ∧ Aside0 (kq ≤ k2) ∧ Aside0 (Kd.S k49 49 wc w.heap.size (fun k_ => some k_ ≠ ((.slice Ao36 t251.length co36) : Value).ownBlock ∧ some k_ ≠ (u12 : Value).ownBlock ∧ some k_ ≠ ((.slice Ao26 t232.length co26) : Value).ownBlock ∧ some k_ ≠ ((.slice Ao29 t241.length co29) : Value).ownBlock) (.slice Ao35 t248.length co35) t248) ∧ Aside0 (Kd.R (Kd.int .i64) 3 wc w.heap.size (fun k_ => some k_ ≠ (u12 : Value).ownBlock ∧ some k_ ≠ ((.slice Ao26 t232.length co26) : Value).ownBlock ∧ some k_ ≠ ((.slice Ao29 t241.length co29) : Value).ownBlock) (.slice Ao36 t251.length co36) t251) ∧ Aside0 (Kd.R k46 46 wc w.heap.size (fun k_ => k_ ≠ gb264) (.slice (some ad263) t254.length co38) t254) ∧ Aside0 (Kd.R (Kd.int .i64) 3 wc w.heap.size (fun k_ => some k_ ≠ ((.slice Ao36 t251.length co36) : Value).ownBlock ∧ some k_ ≠ ((.slice Ao26 t232.length co26) : Value).ownBlock ∧ some k_ ≠ ((.slice Ao29 t241.length co29) : Value).ownBlock) u12 x12_2) ∧ Aside0 (Kd.R (Kd.int .i64) 3 wc w.heap.size (fun k_ => some k_ ≠ ((.slice Ao36 t251.length co36) : Value).ownBlock ∧ some k_ ≠ (u12 : Value).ownBlock ∧ some k_ ≠ ((.slice Ao29 t241.length co29) : Value).ownBlock) (.slice Ao26 t232.length co26) t232) ∧ Aside0 (Kd.R k75 75 wc w.heap.size (fun _ => True) (.slice Ao27 t235.length co27) t235) ∧ Aside0 (Kd.R k77 77 wc w.heap.size (fun _ => True) (.slice Ao28 t238.length co28) t238) ∧ Aside0 (Kd.R (Kd.int .i64) 3 wc w.heap.size (fun k_ => some k_ ≠ ((.slice Ao36 t251.length co36) : Value).ownBlock ∧ some k_ ≠ (u12 : Value).ownBlock ∧ some k_ ≠ ((.slice Ao26 t232.length co26) : Value).ownBlock) (.slice Ao29 t241.length co29) t241) ∧ Aside0 (Kd.R k66 66 wc w.heap.size (fun k_ => some k_ ≠ ((.slice Ao36 t251.length co36) : Value).ownBlock ∧ some k_ ≠ (u12 : Value).ownBlock ∧ some k_ ≠ ((.slice Ao26 t232.length co26) : Value).ownBlock ∧ some k_ ≠ ((.slice Ao29 t241.length co29) : Value).ownBlock) (.slice Ao30 t244.length co30) t244) ∧ Aside0 (wc.heap[gb227]? = some (.cells #[(.slice A0_0 l0_0.length c0_0), (.slice A0_1 l0_1.length c0_1), (.slice A0_2 l0_2.length c0_2), (.slice A0_3 l0_3.length c0_3), (.slice A0_4 l0_4.length c0_4)] 36 (0, 0))) ∧ Aside0 (wc.heap[gb247]? = some (.cells #[.string t231, (.slice Ao26 t232.length co26), (.slice Ao27 t235.length co27), (.slice Ao28 t238.length co28), (.slice Ao29 t241.length co29), (.slice Ao30 t244.length co30)] 27 (0, 0))) ∧ Aside0 (wc.heap[gb264]? = some (.cells #[.int .i64 ((rd_T46 t254 x47_2).f0), .int .i64 ((rd_T46 t254 x47_2).f1)] 46 (0, 0))) ∧ Aside0 (Below w.heap.size w wc))
         case first =>
          have H := HC43.out
          clear HC43
          by_cases c51 : ((rd_T46 t254 x47_2).f1) < 1
          · rw [if_pos c51] at H
            have c51b0 : decide (((rd_T46 t254 x47_2).f1) < 1) = true := decide_eq_true c51
            clear c51
            (first | rw [c51b0] | (simp only [i64_w, i32_w]; rw [c51b0]) | skip)
            have H' := Aside0.mk H
            clear H
            try go_wp2
            have n0_ := Aside0.mk (Kd.S_drew HO_8.out)
            have n1_ := Aside0.mk (Kd.R_drew HO_9.out)
            have n2_ := Aside0.mk (Kd.R_drew HO_10.out)
            have n3_ := Aside0.mk (Kd.R_drew HO_12.out)
            have n4_ := Aside0.mk (Kd.R_drew HO_248001.out)
            have n5_ := Aside0.mk (Kd.R_drew HO_248002.out)
            have n6_ := Aside0.mk (Kd.R_drew HO_248003.out)
            have n7_ := Aside0.mk (Kd.R_drew HO_248004.out)
            have n8_ := Aside0.mk (Kd.R_drew HO_248005.out)
            have n9_ := Aside0.mk (blk_drew BK227.out)
            have n10_ := Aside0.mk (blk_drew BK247.out)
            have n11_ := Aside0.mk (blk_drew BK264.out)
            have n12_ := Aside0.mk (below_drew1 HB.out)
            clear HO_8
            clear HO_9
            clear HO_10
            clear HO_12
            clear HO_248001
            clear HO_248002
            clear HO_248003
            clear HO_248004
            clear HO_248005
            clear BK227
            clear BK247
            clear BK264
            clear HB
            have HO_8 := n0_
            have HO_9 := n1_
            have HO_10 := n2_
            have HO_12 := n3_
            have HO_248001 := n4_
            have HO_248002 := n5_
            have HO_248003 := n6_
            have HO_248004 := n7_
            have HO_248005 := n8_
            have BK227 := n9_
            have BK247 := n10_
            have BK264 := n11_
            have HB := n12_
            clear n0_ n1_ n2_ n3_ n4_ n5_ n6_ n7_ n8_ n9_ n10_ n11_ n12_
            refine start_ (n := 30) (S := fun w' => w'.cell? ⟨gb264, 0, none⟩ = some (.int .i64 ((rd_T46 t254 x47_2).f0)) ∧ w'.cell? ⟨gb264, 1, none⟩ = some (.int .i64 ((rd_T46 t254 x47_2).f1))) (ds := []) (bz 30 0) (by kernel_rfl) rfl rfl ⟨(blk_cell BK264.out 0).trans rfl, (blk_cell BK264.out 1).trans rfl⟩ (fun hHeld => ?_); refine with_tabW jacquardlaw36_CyclesSplits.tab16 jacquardlaw36_CyclesSplits.bits16 (fun HT_ HW_ => ?_)
            generalize w50.drew = w52 at HO_8 HO_9 HO_10 HO_12 HO_248001 HO_248002 HO_248003 HO_248004 HO_248005 BK227 BK247 BK264 HB hHeld ⊢
            refine pu_ 0 60 HT_ ?_
            refine tk_ 1 61 HT_ HW_ hHeld ?_ (hy := by rintro w' ⟨s0, s1⟩; go_simp; with_reducible rfl)
            refine pu_ 2 62 HT_ ?_
            refine pu_ 3 63 HT_ ?_
            refine pn_ 4 64 HT_ ?_
            refine pn_ 5 65 HT_ ?_
            refine pn_ 6 66 HT_ ?_
            refine pn_ 7 67 HT_ ?_
            refine pn_ 8 68 HT_ ?_
            refine pn_ 9 69 HT_ ?_
            refine pn_ 10 70 HT_ ?_
            refine pu_ 11 71 HT_ ?_
            refine pu_ 12 72 HT_ ?_
            refine pn_ 13 73 HT_ ?_
            refine pn_ 14 74 HT_ ?_
            refine pn_ 15 75 HT_ ?_
            refine pn_ 16 76 HT_ ?_
            refine pn_ 17 77 HT_ ?_
            refine pn_ 18 78 HT_ ?_
            refine pn_ 19 79 HT_ ?_
            refine pn_ 20 80 HT_ ?_
            refine pn_ 21 81 HT_ ?_
            refine pn_ 22 82 HT_ ?_
            refine pn_ 23 83 HT_ ?_
            refine pn_ 24 84 HT_ ?_
            refine pn_ 25 85 HT_ ?_
            refine pn_ 26 86 HT_ ?_
            refine pn_ 27 87 HT_ ?_
            refine pn_ 28 88 HT_ ?_
            refine pu_ 29 89 HT_ ?_
            refine done_ (done_of HT_.out (by kernel_rfl)) ?_
            try go_wp2
            go_meet
            case rel => exact ⟨by first | rfl | (rw [c53b0]; done) | (simp only [c53b0]; done), _, (true), (by first | rfl | (simp; done) | (simp [*]; done)), H', ⟨by have := HJ3.out; have := HK2.out; first | omega | exact Nat.le_refl _⟩, ⟨S_ HO_8⟩, ⟨R_ HO_9⟩, ⟨by (with_reducible repeat (first | apply Kd.R_alloc | apply Kd.R_drewN | apply Kd.R_drew)); exact Kd.R_mono HO_10.out (fun _ hk => hk.2)⟩, ⟨R_ HO_12⟩, ⟨R_ HO_248001⟩, ⟨R_ HO_248002⟩, ⟨R_ HO_248003⟩, ⟨R_ HO_248004⟩, ⟨R_ HO_248005⟩, ⟨K_ BK227⟩, ⟨K_ BK247⟩, ⟨K_ BK264⟩, ⟨bl_⟩⟩
          rw [if_neg c51] at H
          have c51b0 : decide (((rd_T46 t254 x47_2).f1) < 1) = false := decide_eq_false c51
          clear c51
          (first | rw [c51b0] | (simp only [i64_w, i32_w]; rw [c51b0]) | skip)
          by_cases c53 : t265 ≥ 0
          · rw [if_pos c53] at H
            have c53b0 : decide (0 ≤ t265) = true := decide_eq_true c53
            clear c53
            by_cases c54 : x47_2 > 0
            · rw [if_pos c54] at H
              have c54b0 : decide (0 < x47_2) = true := decide_eq_true c54
              clear c54
              obtain ⟨ji55, hji55⟩ : ∃ j_ : Int, (wrap64 (x47_2 - 1)) = j_ := ⟨_, rfl⟩
              replace H : (if 0 ≤ (ji55) then (if (ji55) < (t254.length : Int) then (jacquardlaw36_CyclesSplits.j2 k2 t248 t251 t254 x12_2 x13_2 (t254.length : Int) x47_2 (((rd_T46 t254 (ji55)).f0) == ((rd_T46 t254 x47_2).f0)) t231 t232 t235 t238 t241 t244 ((rd_T46 t254 x47_2).f0) ((rd_T46 t254 x47_2).f1)) else (none)) else (none)) = some r := by first | (rw [hji55] at H; exact H) | (simp only [hji55] at H ⊢; exact H)
              have hji55w : (IntKind.i64.wrap (x47_2 - 1)) = ji55 := (i64_w _).trans hji55
              by_cases c56 : 0 ≤ (ji55)
              · rw [if_pos c56] at H
                have c56b0 : decide (0 ≤ (ji55)) = true := decide_eq_true c56
                clear c56
                by_cases c57 : (ji55) < (t254.length : Int)
                · rw [if_pos c57] at H
                  have c57b0 : decide ((ji55) < (t254.length : Int)) = true := decide_eq_true c57
                  clear c57
                  have H' := Aside0.mk H
                  clear H
                  try go_wp2
                  have n0_ := Aside0.mk (Kd.S_drew HO_8.out)
                  have n1_ := Aside0.mk (Kd.R_drew HO_9.out)
                  have n2_ := Aside0.mk (Kd.R_drew HO_10.out)
                  have n3_ := Aside0.mk (Kd.R_drew HO_12.out)
                  have n4_ := Aside0.mk (Kd.R_drew HO_248001.out)
                  have n5_ := Aside0.mk (Kd.R_drew HO_248002.out)
                  have n6_ := Aside0.mk (Kd.R_drew HO_248003.out)
                  have n7_ := Aside0.mk (Kd.R_drew HO_248004.out)
                  have n8_ := Aside0.mk (Kd.R_drew HO_248005.out)
                  have n9_ := Aside0.mk (blk_drew BK227.out)
                  have n10_ := Aside0.mk (blk_drew BK247.out)
                  have n11_ := Aside0.mk (blk_drew BK264.out)
                  have n12_ := Aside0.mk (below_drew1 HB.out)
                  clear HO_8
                  clear HO_9
                  clear HO_10
                  clear HO_12
                  clear HO_248001
                  clear HO_248002
                  clear HO_248003
                  clear HO_248004
                  clear HO_248005
                  clear BK227
                  clear BK247
                  clear BK264
                  clear HB
                  have HO_8 := n0_
                  have HO_9 := n1_
                  have HO_10 := n2_
                  have HO_12 := n3_
                  have HO_248001 := n4_
                  have HO_248002 := n5_
                  have HO_248003 := n6_
                  have HO_248004 := n7_
                  have HO_248005 := n8_
                  have BK227 := n9_
                  have BK247 := n10_
                  have BK264 := n11_
                  have HB := n12_
                  clear n0_ n1_ n2_ n3_ n4_ n5_ n6_ n7_ n8_ n9_ n10_ n11_ n12_
                  have p266 : 0 ≤ ((ji55) : Int) := of_decide_eq_true (by first | (with_reducible assumption) | assumption)
                  have q266 : (ji55) < (t254.length : Int) := of_decide_eq_true (by first | (with_reducible assumption) | assumption)
                  obtain ⟨ad266, e266, hx266_0, hx266_1⟩ := at_T46 (Kd.R_reads' HO_10.out).2.2 (ji55) p266 q266
                  obtain rfl : ad263 = ad266 := (by injection e266)
                  replace p266 := eq_true p266
                  replace q266 := eq_true q266
                  refine start_ (n := 30) (S := fun w' => w'.cell? ⟨gb264, 0, none⟩ = some (.int .i64 ((rd_T46 t254 x47_2).f0)) ∧ w'.cell? ⟨gb264, 1, none⟩ = some (.int .i64 ((rd_T46 t254 x47_2).f1)) ∧ w'.cell? (ad263.add (((ji55)).toNat * 2)) = some (.int .i64 ((rd_T46 t254 (ji55)).f0)) ∧ w'.cell? ⟨(ad263.add (((ji55)).toNat * 2)).block, (ad263.add (((ji55)).toNat * 2)).off + 1, none⟩ = some (.int .i64 ((rd_T46 t254 (ji55)).f1))) (ds := []) (bz 30 0) (by kernel_rfl) rfl rfl ⟨(blk_cell BK264.out 0).trans rfl, (blk_cell BK264.out 1).trans rfl, hx266_0, hx266_1⟩ (fun hHeld => ?_); refine with_tabW jacquardlaw36_CyclesSplits.tab16 jacquardlaw36_CyclesSplits.bits16 (fun HT_ HW_ => ?_)
                  generalize w50.drew = w58 at HO_8 HO_9 HO_10 HO_12 HO_248001 HO_248002 HO_248003 HO_248004 HO_248005 BK227 BK247 BK264 HB hx266_0 hx266_1 hHeld ⊢
                  refine pu_ 0 60 HT_ ?_
                  refine tk_ 1 61 HT_ HW_ hHeld ?_ (hy := by rintro w' ⟨s0, s1, s2, s3⟩; go_simp; with_reducible rfl)
                  refine pu_ 2 62 HT_ ?_
                  refine pu_ 3 63 HT_ ?_
                  refine pu_ 4 64 HT_ ?_
                  refine pu_ 5 65 HT_ ?_
                  refine pu_ 6 66 HT_ ?_
                  refine pn_ 7 67 HT_ ?_
                  refine pn_ 8 68 HT_ ?_
                  refine pn_ 9 69 HT_ ?_
                  refine pu_ 10 70 HT_ ?_
                  refine pu_ 11 71 HT_ ?_
                  refine pu_ 12 72 HT_ ?_
                  refine pu_ 13 73 HT_ ?_
                  refine pu_ 14 74 HT_ ?_
                  refine pu_ 15 75 HT_ ?_
                  refine pu_ 16 76 HT_ ?_
                  refine pu_ 17 77 HT_ ?_
                  refine pu_ 18 78 HT_ ?_
                  refine pu_ 19 79 HT_ ?_
                  refine pu_ 20 80 HT_ ?_
                  refine pu_ 21 81 HT_ ?_
                  refine pu_ 22 82 HT_ ?_
                  refine pu_ 23 83 HT_ ?_
                  refine pu_ 25 85 HT_ ?_
                  refine tk_ 24 84 HT_ HW_ hHeld ?_ (hy := by rintro w' ⟨s0, s1, s2, s3⟩; go_simp; with_reducible rfl)
                  refine tk_ 26 86 HT_ HW_ hHeld ?_ (hy := by rintro w' ⟨s0, s1, s2, s3⟩; go_simp; with_reducible rfl)
                  refine pu_ 27 87 HT_ ?_
                  refine pu_ 28 88 HT_ ?_
                  refine pu_ 29 89 HT_ ?_
                  refine done_ (done_of HT_.out (by kernel_rfl)) ?_
                  try go_wp2
                  go_meet
                  case rel => exact ⟨by first | rfl | (rw [c53b0]; done) | (simp only [c53b0]; done), _, ((((rd_T46 t254 (ji55)).f0) == ((rd_T46 t254 x47_2).f0))), (by first | rfl | (simp; done) | (simp only [← hji55] <;> (first | rfl | simp)) | (simp [*]; done)), H', ⟨by have := HJ3.out; have := HK2.out; first | omega | exact Nat.le_refl _⟩, ⟨S_ HO_8⟩, ⟨R_ HO_9⟩, ⟨by (with_reducible repeat (first | apply Kd.R_alloc | apply Kd.R_drewN | apply Kd.R_drew)); exact Kd.R_mono HO_10.out (fun _ hk => hk.2)⟩, ⟨R_ HO_12⟩, ⟨R_ HO_248001⟩, ⟨R_ HO_248002⟩, ⟨R_ HO_248003⟩, ⟨R_ HO_248004⟩, ⟨R_ HO_248005⟩, ⟨K_ BK227⟩, ⟨K_ BK247⟩, ⟨K_ BK264⟩, ⟨bl_⟩⟩
                rw [if_neg c57] at H
                exact absurd H (by simp)
              rw [if_neg c56] at H
              exact absurd H (by simp)
            rw [if_neg c54] at H
            have c54b0 : decide (0 < x47_2) = false := decide_eq_false c54
            clear c54
            have H' := Aside0.mk H
            clear H
            try go_wp2
            have n0_ := Aside0.mk (Kd.S_drew HO_8.out)
            have n1_ := Aside0.mk (Kd.R_drew HO_9.out)
            have n2_ := Aside0.mk (Kd.R_drew HO_10.out)
            have n3_ := Aside0.mk (Kd.R_drew HO_12.out)
            have n4_ := Aside0.mk (Kd.R_drew HO_248001.out)
            have n5_ := Aside0.mk (Kd.R_drew HO_248002.out)
            have n6_ := Aside0.mk (Kd.R_drew HO_248003.out)
            have n7_ := Aside0.mk (Kd.R_drew HO_248004.out)
            have n8_ := Aside0.mk (Kd.R_drew HO_248005.out)
            have n9_ := Aside0.mk (blk_drew BK227.out)
            have n10_ := Aside0.mk (blk_drew BK247.out)
            have n11_ := Aside0.mk (blk_drew BK264.out)
            have n12_ := Aside0.mk (below_drew1 HB.out)
            clear HO_8
            clear HO_9
            clear HO_10
            clear HO_12
            clear HO_248001
            clear HO_248002
            clear HO_248003
            clear HO_248004
            clear HO_248005
            clear BK227
            clear BK247
            clear BK264
            clear HB
            have HO_8 := n0_
            have HO_9 := n1_
            have HO_10 := n2_
            have HO_12 := n3_
            have HO_248001 := n4_
            have HO_248002 := n5_
            have HO_248003 := n6_
            have HO_248004 := n7_
            have HO_248005 := n8_
            have BK227 := n9_
            have BK247 := n10_
            have BK264 := n11_
            have HB := n12_
            clear n0_ n1_ n2_ n3_ n4_ n5_ n6_ n7_ n8_ n9_ n10_ n11_ n12_
            refine start_ (n := 30) (S := fun w' => w'.cell? ⟨gb264, 0, none⟩ = some (.int .i64 ((rd_T46 t254 x47_2).f0)) ∧ w'.cell? ⟨gb264, 1, none⟩ = some (.int .i64 ((rd_T46 t254 x47_2).f1))) (ds := []) (bz 30 0) (by kernel_rfl) rfl rfl ⟨(blk_cell BK264.out 0).trans rfl, (blk_cell BK264.out 1).trans rfl⟩ (fun hHeld => ?_); refine with_tabW jacquardlaw36_CyclesSplits.tab16 jacquardlaw36_CyclesSplits.bits16 (fun HT_ HW_ => ?_)
            generalize w50.drew = w59 at HO_8 HO_9 HO_10 HO_12 HO_248001 HO_248002 HO_248003 HO_248004 HO_248005 BK227 BK247 BK264 HB hHeld ⊢
            refine pu_ 0 60 HT_ ?_
            refine tk_ 1 61 HT_ HW_ hHeld ?_ (hy := by rintro w' ⟨s0, s1⟩; go_simp; with_reducible rfl)
            refine pu_ 2 62 HT_ ?_
            refine pu_ 3 63 HT_ ?_
            refine pu_ 4 64 HT_ ?_
            refine pu_ 5 65 HT_ ?_
            refine pu_ 6 66 HT_ ?_
            refine pn_ 7 67 HT_ ?_
            refine pn_ 8 68 HT_ ?_
            refine pn_ 9 69 HT_ ?_
            refine pu_ 10 70 HT_ ?_
            refine pu_ 11 71 HT_ ?_
            refine pu_ 12 72 HT_ ?_
            refine pu_ 13 73 HT_ ?_
            refine pu_ 14 74 HT_ ?_
            refine pu_ 15 75 HT_ ?_
            refine pu_ 16 76 HT_ ?_
            refine pu_ 17 77 HT_ ?_
            refine pu_ 18 78 HT_ ?_
            refine pn_ 19 79 HT_ ?_
            refine pn_ 20 80 HT_ ?_
            refine pn_ 21 81 HT_ ?_
            refine pn_ 22 82 HT_ ?_
            refine pn_ 23 83 HT_ ?_
            refine pn_ 24 84 HT_ ?_
            refine pn_ 25 85 HT_ ?_
            refine pn_ 26 86 HT_ ?_
            refine pn_ 27 87 HT_ ?_
            refine pu_ 28 88 HT_ ?_
            refine pu_ 29 89 HT_ ?_
            refine done_ (done_of HT_.out (by kernel_rfl)) ?_
            try go_wp2
            go_meet
            case rel => exact ⟨by first | rfl | (rw [c53b0]; done) | (simp only [c53b0]; done), _, (false), (by first | rfl | (simp; done) | (simp [*]; done)), H', ⟨by have := HJ3.out; have := HK2.out; first | omega | exact Nat.le_refl _⟩, ⟨S_ HO_8⟩, ⟨R_ HO_9⟩, ⟨by (with_reducible repeat (first | apply Kd.R_alloc | apply Kd.R_drewN | apply Kd.R_drew)); exact Kd.R_mono HO_10.out (fun _ hk => hk.2)⟩, ⟨R_ HO_12⟩, ⟨R_ HO_248001⟩, ⟨R_ HO_248002⟩, ⟨R_ HO_248003⟩, ⟨R_ HO_248004⟩, ⟨R_ HO_248005⟩, ⟨K_ BK227⟩, ⟨K_ BK247⟩, ⟨K_ BK264⟩, ⟨bl_⟩⟩
          rw [if_neg c53] at H
          have c53b0 : decide (0 ≤ t265) = false := decide_eq_false c53
          clear c53
          by_cases c60 : ((rd_T46 t254 x47_2).f1) = 1
          · rw [if_pos c60] at H
            have c60b0 : (((rd_T46 t254 x47_2).f1) == 1) = true := beq_iff_eq.mpr c60
            have c60b1 : (((rd_T46 t254 x47_2).f1) != 1) = false := bne_eq_false_iff_eq.mpr c60
            clear c60
            have H' := Aside0.mk H
            clear H
            try go_wp2
            have n0_ := Aside0.mk (Kd.S_drew HO_8.out)
            have n1_ := Aside0.mk (Kd.R_drew HO_9.out)
            have n2_ := Aside0.mk (Kd.R_drew HO_10.out)
            have n3_ := Aside0.mk (Kd.R_drew HO_12.out)
            have n4_ := Aside0.mk (Kd.R_drew HO_248001.out)
            have n5_ := Aside0.mk (Kd.R_drew HO_248002.out)
            have n6_ := Aside0.mk (Kd.R_drew HO_248003.out)
            have n7_ := Aside0.mk (Kd.R_drew HO_248004.out)
            have n8_ := Aside0.mk (Kd.R_drew HO_248005.out)
            have n9_ := Aside0.mk (blk_drew BK227.out)
            have n10_ := Aside0.mk (blk_drew BK247.out)
            have n11_ := Aside0.mk (blk_drew BK264.out)
            have n12_ := Aside0.mk (below_drew1 HB.out)
            clear HO_8
            clear HO_9
            clear HO_10
            clear HO_12
            clear HO_248001
            clear HO_248002
            clear HO_248003
            clear HO_248004
            clear HO_248005
            clear BK227
            clear BK247
            clear BK264
            clear HB
            have HO_8 := n0_
            have HO_9 := n1_
            have HO_10 := n2_
            have HO_12 := n3_
            have HO_248001 := n4_
            have HO_248002 := n5_
            have HO_248003 := n6_
            have HO_248004 := n7_
            have HO_248005 := n8_
            have BK227 := n9_
            have BK247 := n10_
            have BK264 := n11_
            have HB := n12_
            clear n0_ n1_ n2_ n3_ n4_ n5_ n6_ n7_ n8_ n9_ n10_ n11_ n12_
            refine start_ (n := 30) (S := fun w' => w'.cell? ⟨gb264, 0, none⟩ = some (.int .i64 ((rd_T46 t254 x47_2).f0)) ∧ w'.cell? ⟨gb264, 1, none⟩ = some (.int .i64 ((rd_T46 t254 x47_2).f1))) (ds := []) (bz 30 0) (by kernel_rfl) rfl rfl ⟨(blk_cell BK264.out 0).trans rfl, (blk_cell BK264.out 1).trans rfl⟩ (fun hHeld => ?_); refine with_tabW jacquardlaw36_CyclesSplits.tab16 jacquardlaw36_CyclesSplits.bits16 (fun HT_ HW_ => ?_)
            generalize w50.drew = w61 at HO_8 HO_9 HO_10 HO_12 HO_248001 HO_248002 HO_248003 HO_248004 HO_248005 BK227 BK247 BK264 HB hHeld ⊢
            refine pu_ 0 60 HT_ ?_
            refine tk_ 1 61 HT_ HW_ hHeld ?_ (hy := by rintro w' ⟨s0, s1⟩; go_simp; with_reducible rfl)
            refine pu_ 2 62 HT_ ?_
            refine pu_ 3 63 HT_ ?_
            refine pu_ 4 64 HT_ ?_
            refine pu_ 5 65 HT_ ?_
            refine pu_ 6 66 HT_ ?_
            refine pu_ 7 67 HT_ ?_
            refine tk_ 8 68 HT_ HW_ hHeld ?_ (hy := by rintro w' ⟨s0, s1⟩; go_simp; with_reducible rfl)
            refine pu_ 9 69 HT_ ?_
            refine pu_ 10 70 HT_ ?_
            refine pu_ 11 71 HT_ ?_
            refine pu_ 12 72 HT_ ?_
            refine pu_ 13 73 HT_ ?_
            refine pu_ 14 74 HT_ ?_
            refine pn_ 15 75 HT_ ?_
            refine pn_ 16 76 HT_ ?_
            refine pu_ 17 77 HT_ ?_
            refine pu_ 18 78 HT_ ?_
            refine pn_ 19 79 HT_ ?_
            refine pn_ 20 80 HT_ ?_
            refine pn_ 21 81 HT_ ?_
            refine pn_ 22 82 HT_ ?_
            refine pn_ 23 83 HT_ ?_
            refine pn_ 24 84 HT_ ?_
            refine pn_ 25 85 HT_ ?_
            refine pn_ 26 86 HT_ ?_
            refine pn_ 27 87 HT_ ?_
            refine pu_ 28 88 HT_ ?_
            refine pu_ 29 89 HT_ ?_
            refine done_ (done_of HT_.out (by kernel_rfl)) ?_
            try go_wp2
            go_meet
            case rel => exact ⟨by first | rfl | (rw [c53b0]; done) | (simp only [c53b0]; done), _, (false), (by first | rfl | (simp; done) | (simp [*]; done)), H', ⟨by have := HJ3.out; have := HK2.out; first | omega | exact Nat.le_refl _⟩, ⟨S_ HO_8⟩, ⟨R_ HO_9⟩, ⟨by (with_reducible repeat (first | apply Kd.R_alloc | apply Kd.R_drewN | apply Kd.R_drew)); exact Kd.R_mono HO_10.out (fun _ hk => hk.2)⟩, ⟨R_ HO_12⟩, ⟨R_ HO_248001⟩, ⟨R_ HO_248002⟩, ⟨R_ HO_248003⟩, ⟨R_ HO_248004⟩, ⟨R_ HO_248005⟩, ⟨K_ BK227⟩, ⟨K_ BK247⟩, ⟨K_ BK264⟩, ⟨bl_⟩⟩
          rw [if_neg c60] at H
          have c60b0 : (((rd_T46 t254 x47_2).f1) == 1) = false := beq_eq_false_iff_ne.mpr c60
          have c60b1 : (((rd_T46 t254 x47_2).f1) != 1) = true := bne_iff_ne.mpr c60
          have H' := Aside0.mk H
          clear H
          try go_wp2
          have n0_ := Aside0.mk (Kd.S_drew HO_8.out)
          have n1_ := Aside0.mk (Kd.R_drew HO_9.out)
          have n2_ := Aside0.mk (Kd.R_drew HO_10.out)
          have n3_ := Aside0.mk (Kd.R_drew HO_12.out)
          have n4_ := Aside0.mk (Kd.R_drew HO_248001.out)
          have n5_ := Aside0.mk (Kd.R_drew HO_248002.out)
          have n6_ := Aside0.mk (Kd.R_drew HO_248003.out)
          have n7_ := Aside0.mk (Kd.R_drew HO_248004.out)
          have n8_ := Aside0.mk (Kd.R_drew HO_248005.out)
          have n9_ := Aside0.mk (blk_drew BK227.out)
          have n10_ := Aside0.mk (blk_drew BK247.out)
          have n11_ := Aside0.mk (blk_drew BK264.out)
          have n12_ := Aside0.mk (below_drew1 HB.out)
          clear HO_8
          clear HO_9
          clear HO_10
          clear HO_12
          clear HO_248001
          clear HO_248002
          clear HO_248003
          clear HO_248004
          clear HO_248005
          clear BK227
          clear BK247
          clear BK264
          clear HB
          have HO_8 := n0_
          have HO_9 := n1_
          have HO_10 := n2_
          have HO_12 := n3_
          have HO_248001 := n4_
          have HO_248002 := n5_
          have HO_248003 := n6_
          have HO_248004 := n7_
          have HO_248005 := n8_
          have BK227 := n9_
          have BK247 := n10_
          have BK264 := n11_
          have HB := n12_
          clear n0_ n1_ n2_ n3_ n4_ n5_ n6_ n7_ n8_ n9_ n10_ n11_ n12_
          refine start_ (n := 30) (S := fun w' => w'.cell? ⟨gb264, 0, none⟩ = some (.int .i64 ((rd_T46 t254 x47_2).f0)) ∧ w'.cell? ⟨gb264, 1, none⟩ = some (.int .i64 ((rd_T46 t254 x47_2).f1))) (ds := []) (bz 30 0) (by kernel_rfl) rfl rfl ⟨(blk_cell BK264.out 0).trans rfl, (blk_cell BK264.out 1).trans rfl⟩ (fun hHeld => ?_); refine with_tabW jacquardlaw36_CyclesSplits.tab16 jacquardlaw36_CyclesSplits.bits16 (fun HT_ HW_ => ?_)
          generalize w50.drew = w62 at HO_8 HO_9 HO_10 HO_12 HO_248001 HO_248002 HO_248003 HO_248004 HO_248005 BK227 BK247 BK264 HB hHeld ⊢
          refine pu_ 0 60 HT_ ?_
          refine tk_ 1 61 HT_ HW_ hHeld ?_ (hy := by rintro w' ⟨s0, s1⟩; go_simp; with_reducible rfl)
          refine pu_ 2 62 HT_ ?_
          refine pu_ 3 63 HT_ ?_
          refine pu_ 4 64 HT_ ?_
          refine pu_ 5 65 HT_ ?_
          refine pu_ 6 66 HT_ ?_
          refine pu_ 7 67 HT_ ?_
          refine tk_ 8 68 HT_ HW_ hHeld ?_ (hy := by rintro w' ⟨s0, s1⟩; go_simp; with_reducible rfl)
          refine pu_ 9 69 HT_ ?_
          refine pu_ 10 70 HT_ ?_
          refine pu_ 11 71 HT_ ?_
          refine pu_ 12 72 HT_ ?_
          refine pn_ 13 73 HT_ ?_
          refine pn_ 14 74 HT_ ?_
          refine pn_ 15 75 HT_ ?_
          refine pn_ 16 76 HT_ ?_
          refine pn_ 17 77 HT_ ?_
          refine pn_ 18 78 HT_ ?_
          refine pn_ 19 79 HT_ ?_
          refine pn_ 20 80 HT_ ?_
          refine pn_ 21 81 HT_ ?_
          refine pn_ 22 82 HT_ ?_
          refine pn_ 23 83 HT_ ?_
          refine pn_ 24 84 HT_ ?_
          refine pn_ 25 85 HT_ ?_
          refine pn_ 26 86 HT_ ?_
          refine pn_ 27 87 HT_ ?_
          refine pn_ 28 88 HT_ ?_
          refine pu_ 29 89 HT_ ?_
          refine done_ (done_of HT_.out (by kernel_rfl)) ?_
          try go_wp2
          go_meet
          case rel => exact ⟨by first | rfl | (rw [c53b0]; done) | (simp only [c53b0]; done), _, (true), (by first | rfl | (simp; done) | (simp [*]; done)), H', ⟨by have := HJ3.out; have := HK2.out; first | omega | exact Nat.le_refl _⟩, ⟨S_ HO_8⟩, ⟨R_ HO_9⟩, ⟨by (with_reducible repeat (first | apply Kd.R_alloc | apply Kd.R_drewN | apply Kd.R_drew)); exact Kd.R_mono HO_10.out (fun _ hk => hk.2)⟩, ⟨R_ HO_12⟩, ⟨R_ HO_248001⟩, ⟨R_ HO_248002⟩, ⟨R_ HO_248003⟩, ⟨R_ HO_248004⟩, ⟨R_ HO_248005⟩, ⟨K_ BK227⟩, ⟨K_ BK247⟩, ⟨K_ BK264⟩, ⟨bl_⟩⟩
         clear HC43
         (try clear p2); (try clear c5); (try clear c6); (try clear c53); (try clear c53b0); (try clear c60); (try clear c60b0); (try clear c60b1)
         obtain ⟨rfl, kq, x89_42, rfl, HA, HJ42, HO_8, HO_9, HO_10, HO_12, HO_248001, HO_248002, HO_248003, HO_248004, HO_248005, BK227, BK247, BK264, HB⟩ := hcut
         cases kq with
         | zero => exact absurd HA.out (by simp [jacquardlaw36_CyclesSplits.j2])
         | succ kj42 => ?_
         have H := HA.out
         clear HA
         simp only [jacquardlaw36_CyclesSplits.j2] at H
         by_cases c63 : x89_42 = true
         · subst c63
           have H1 : (some false) = some r := by rw [if_pos rfl] at H; exact H
           clear H
           have H := H1
           clear H1
           exact absurd ((Option.some.inj H).trans HRT_.out) Bool.false_ne_true
         replace c63 := Bool.eq_false_iff.mpr c63
         subst c63
         have H1 : (jacquardlaw36_CyclesSplits.l1 kj42 t248 t251 t254 x12_2 x13_2 (t254.length : Int) x47_2 ((rd_T46 t254 x47_2).f1) 0 t231 t232 t235 t238 t241 t244 ((rd_T46 t254 x47_2).f0) ((rd_T46 t254 x47_2).f1)) = some r := by rw [if_neg (show ¬ (false = true) by decide)] at H; exact H
         clear H
         have H := H1
         clear H1
         have H' := Aside0.mk H
         clear H
         have hnb64 := NB264_227.out
         have hnc64 := NB227_264.out
         have hnb65 := NB264_247.out
         have hnc65 := NB247_264.out
         obtain ⟨hcz66_0, hcz66_1⟩ := cells2 BK264
         obtain ⟨hfz66_0, hfz66_1⟩ := fz2 BK264
         go_wp2
         go_loopg [12, 92] kj42 (fun kq v12 v92 w' => ∃ (x12_4 : List Int) (x92_4 : Int), v92 = .int .i64 x92_4 ∧ Aside0 (jacquardlaw36_CyclesSplits.l1 kq t248 t251 t254 x12_4 x13_2 (t254.length : Int) x47_2 ((rd_T46 t254 x47_2).f1) x92_4 t231 t232 t235 t238 t241 t244 ((rd_T46 t254 x47_2).f0) ((rd_T46 t254 x47_2).f1) = some r) ∧ Aside0 (kq ≤ kj42) ∧ Aside0 (Kd.S k49 49 w' w.heap.size (fun k_ => some k_ ≠ ((.slice Ao36 t251.length co36) : Value).ownBlock ∧ some k_ ≠ (v12 : Value).ownBlock ∧ some k_ ≠ ((.slice Ao26 t232.length co26) : Value).ownBlock ∧ some k_ ≠ ((.slice Ao29 t241.length co29) : Value).ownBlock) (.slice Ao35 t248.length co35) t248) ∧ Aside0 (Kd.R (Kd.int .i64) 3 w' w.heap.size (fun k_ => some k_ ≠ (v12 : Value).ownBlock ∧ some k_ ≠ ((.slice Ao26 t232.length co26) : Value).ownBlock ∧ some k_ ≠ ((.slice Ao29 t241.length co29) : Value).ownBlock) (.slice Ao36 t251.length co36) t251) ∧ Aside0 (Kd.R k46 46 w' w.heap.size (fun k_ => k_ ≠ gb264) (.slice (some ad263) t254.length co38) t254) ∧ Aside0 (Kd.R (Kd.int .i64) 3 w' w.heap.size (fun k_ => some k_ ≠ ((.slice Ao36 t251.length co36) : Value).ownBlock ∧ some k_ ≠ ((.slice Ao26 t232.length co26) : Value).ownBlock ∧ some k_ ≠ ((.slice Ao29 t241.length co29) : Value).ownBlock) v12 x12_4) ∧ Aside0 (Kd.R (Kd.int .i64) 3 w' w.heap.size (fun k_ => some k_ ≠ ((.slice Ao36 t251.length co36) : Value).ownBlock ∧ some k_ ≠ (v12 : Value).ownBlock ∧ some k_ ≠ ((.slice Ao29 t241.length co29) : Value).ownBlock) (.slice Ao26 t232.length co26) t232) ∧ Aside0 (Kd.R k75 75 w' w.heap.size (fun _ => True) (.slice Ao27 t235.length co27) t235) ∧ Aside0 (Kd.R k77 77 w' w.heap.size (fun _ => True) (.slice Ao28 t238.length co28) t238) ∧ Aside0 (Kd.R (Kd.int .i64) 3 w' w.heap.size (fun k_ => some k_ ≠ ((.slice Ao36 t251.length co36) : Value).ownBlock ∧ some k_ ≠ (v12 : Value).ownBlock ∧ some k_ ≠ ((.slice Ao26 t232.length co26) : Value).ownBlock) (.slice Ao29 t241.length co29) t241) ∧ Aside0 (Kd.R k66 66 w' w.heap.size (fun k_ => some k_ ≠ ((.slice Ao36 t251.length co36) : Value).ownBlock ∧ some k_ ≠ (v12 : Value).ownBlock ∧ some k_ ≠ ((.slice Ao26 t232.length co26) : Value).ownBlock ∧ some k_ ≠ ((.slice Ao29 t241.length co29) : Value).ownBlock) (.slice Ao30 t244.length co30) t244) ∧ Aside0 (w'.heap[gb227]? = some (.cells #[(.slice A0_0 l0_0.length c0_0), (.slice A0_1 l0_1.length c0_1), (.slice A0_2 l0_2.length c0_2), (.slice A0_3 l0_3.length c0_3), (.slice A0_4 l0_4.length c0_4)] 36 (0, 0))) ∧ Aside0 (w'.heap[gb247]? = some (.cells #[.string t231, (.slice Ao26 t232.length co26), (.slice Ao27 t235.length co27), (.slice Ao28 t238.length co28), (.slice Ao29 t241.length co29), (.slice Ao30 t244.length co30)] 27 (0, 0))) ∧ Aside0 (w'.heap[gb264]? = some (.cells #[.int .i64 ((rd_T46 t254 x47_2).f0), .int .i64 ((rd_T46 t254 x47_2).f1)] 46 (0, 0))) ∧ Aside0 (Below w.heap.size w w'))
         case atStart => exact ⟨(x12_2), (0), (by first | rfl | (simp; done) | (simp [*]; done)), H', ⟨Nat.le_refl _⟩, ⟨S_ HO_8⟩, ⟨R_ HO_9⟩, ⟨R_ HO_10⟩, ⟨R_ HO_12⟩, ⟨R_ HO_248001⟩, ⟨R_ HO_248002⟩, ⟨R_ HO_248003⟩, ⟨R_ HO_248004⟩, ⟨R_ HO_248005⟩, ⟨K_ BK227⟩, ⟨K_ BK247⟩, ⟨K_ BK264⟩, ⟨bl_⟩⟩
         clear H'
         (try clear p2); (try clear c5); (try clear c6); (try clear c53); (try clear c53b0); (try clear c60); (try clear c60b0); (try clear c60b1); (try clear c63); (try clear c64); (try clear c65); (try clear hcz66_0); (try clear hcz66_1); (try clear hfz66_0); (try clear hfz66_1); (try clear p2)
         obtain ⟨x12_4, x92_4, rfl, HA, HK4, HO_8, HO_9, HO_10, HO_12, HO_248001, HO_248002, HO_248003, HO_248004, HO_248005, BK227, BK247, BK264, HB⟩ := hrel
         cases gk with
         | zero => exact absurd HA.out (by simp [jacquardlaw36_CyclesSplits.l1])
         | succ k4 => ?_
         have H := HA.out
         clear HA
         simp only [jacquardlaw36_CyclesSplits.l1] at H
         by_cases c67 : x92_4 < ((rd_T46 t254 x47_2).f1)
         · rw [if_pos c67] at H
           have c67b0 : decide (x92_4 < ((rd_T46 t254 x47_2).f1)) = true := decide_eq_true c67
           clear c67
           by_cases c68 : x12_4.length < 17592186044416
           · rw [if_pos c68] at H
             have LMc68 := Aside0.mk c68
             clear c68
             obtain ⟨y267, hy267⟩ : ∃ y_ : List Int, y_ = (x12_4 ++ [((rd_T46 t254 x47_2).f0)]) := ⟨_, rfl⟩
             replace H : (jacquardlaw36_CyclesSplits.l1 k4 t248 t251 t254 y267 x13_2 (t254.length : Int) x47_2 ((rd_T46 t254 x47_2).f1) (wrap64 (x92_4 + 1)) t231 t232 t235 t238 t241 t244 ((rd_T46 t254 x47_2).f0) ((rd_T46 t254 x47_2).f1)) = some r := by first | (rw [hy267]; with_reducible exact H) | (have H2_ := (Option.bind_some _ _).symm.trans H; rw [hy267]; with_reducible exact H2_) | (have H2_ := (Option.bind_some _ _).symm.trans H; with_reducible exact H2_) | with_reducible exact H | (rw [hy267]; exact H) | exact H
             have Ny267 := Aside0.mk hy267
             clear hy267
             have H' := Aside0.mk H
             clear H
             have hnb69 := NB264_227.out
             have hnc69 := NB227_264.out
             have hnb70 := NB264_247.out
             have hnc70 := NB247_264.out
             obtain ⟨hcz71_0, hcz71_1⟩ := cells2 BK264
             obtain ⟨hfz71_0, hfz71_1⟩ := fz2 BK264
             go_wp2_with (first | ((with_reducible refine gate_builtin (b := .append) (xs := #[.tmp 94, .tmp 97]) rfl ?_); at_builtin; refine Kd.R_append (Kd.int .i64) (w0 := w) w.heap.size rfl (.tmp 94) (.tmp 97) 22 3 (.int .i64 0) 8 rfl Try.underlying22 info3 rfl (by decide) (by omega) u12 x12_4 ((rd_T46 t254 x47_2).f0) [.int .i64 ((rd_T46 t254 x47_2).f0)] (fun k_ => some k_ ≠ (.slice Ao36 t251.length co36 : Value).ownBlock ∧ some k_ ≠ (.slice Ao26 t232.length co26 : Value).ownBlock ∧ some k_ ≠ (.slice Ao29 t241.length co29 : Value).ownBlock) (fun _ => False) rfl rfl ?aP (fun _ hk => hk.elim) ?aF ?aO ?aB ?aS ?aL ?_; (case aP => exact rfl); (case aB => exact bl_); (case aF => exact (fun k_ hk => ⟨Kd.fresh' (Kd.R_lt (R_ HO_9)) k_ hk, Kd.fresh' (Kd.R_lt (R_ HO_248001)) k_ hk, Kd.fresh' (Kd.R_lt (R_ HO_248004)) k_ hk⟩)); (case aO => exact (R_ HO_12)); (case aS => exact (below_size bl_)); (case aL => have := LMc68.out; omega); intro v268 w72 ho hb hg hat; rw [← Ny267.out] at ho; have n0_ := Aside0.mk (Kd.S_after (ok := (fun k_ => some k_ ≠ (.slice Ao36 t251.length co36 : Value).ownBlock ∧ some k_ ≠ (.slice Ao26 t232.length co26 : Value).ownBlock ∧ some k_ ≠ (.slice Ao29 t241.length co29 : Value).ownBlock)) (by (with_reducible repeat (first | apply Kd.S_alloc | apply Kd.S_drewN | apply Kd.S_drew)); exact Kd.S_mono HO_8.out (fun _ hk => ⟨⟨hk.1, ⟨hk.2.2.1, hk.2.2.2⟩⟩, hk.2.1⟩)) hg hat); have n1_ := Aside0.mk (Kd.R_after (ok := (fun k_ => some k_ ≠ (.slice Ao26 t232.length co26 : Value).ownBlock ∧ some k_ ≠ (.slice Ao29 t241.length co29 : Value).ownBlock)) (by (with_reducible repeat (first | apply Kd.R_alloc | apply Kd.R_drewN | apply Kd.R_drew)); exact Kd.R_mono HO_9.out (fun _ hk => ⟨⟨hk.2.1, hk.2.2⟩, hk.1⟩)) hg hat); have n2_ := Aside0.mk (Kd.R_over' (R_ HO_10) (Kd.R_typed (R_ HO_12)) (by decide) hg); have n3_ := Aside0.mk (Kd.R_after (ok := (fun k_ => some k_ ≠ (.slice Ao36 t251.length co36 : Value).ownBlock ∧ some k_ ≠ (.slice Ao29 t241.length co29 : Value).ownBlock)) (by (with_reducible repeat (first | apply Kd.R_alloc | apply Kd.R_drewN | apply Kd.R_drew)); exact Kd.R_mono HO_248001.out (fun _ hk => ⟨⟨hk.1, hk.2.2⟩, hk.2.1⟩)) hg hat); have n4_ := Aside0.mk (Kd.R_over' (R_ HO_248002) (Kd.R_typed (R_ HO_12)) (by decide) hg); have n5_ := Aside0.mk (Kd.R_over' (R_ HO_248003) (Kd.R_typed (R_ HO_12)) (by decide) hg); have n6_ := Aside0.mk (Kd.R_after (ok := (fun k_ => some k_ ≠ (.slice Ao36 t251.length co36 : Value).ownBlock ∧ some k_ ≠ (.slice Ao26 t232.length co26 : Value).ownBlock)) (by (with_reducible repeat (first | apply Kd.R_alloc | apply Kd.R_drewN | apply Kd.R_drew)); exact Kd.R_mono HO_248004.out (fun _ hk => ⟨⟨hk.1, hk.2.2⟩, hk.2.1⟩)) hg hat); have n7_ := Aside0.mk (Kd.R_after (ok := (fun k_ => some k_ ≠ (.slice Ao36 t251.length co36 : Value).ownBlock ∧ some k_ ≠ (.slice Ao26 t232.length co26 : Value).ownBlock ∧ some k_ ≠ (.slice Ao29 t241.length co29 : Value).ownBlock)) (by (with_reducible repeat (first | apply Kd.R_alloc | apply Kd.R_drewN | apply Kd.R_drew)); exact Kd.R_mono HO_248005.out (fun _ hk => ⟨⟨hk.1, ⟨hk.2.2.1, hk.2.2.2⟩⟩, hk.2.1⟩)) hg hat); have n8_ := Aside0.mk (blk_grown (K_ BK227) hg (Kd.R_ne HO_12.out BK227.out (by decide))); have n9_ := Aside0.mk (blk_grown (K_ BK247) hg (Kd.R_ne HO_12.out BK247.out (by decide))); have n10_ := Aside0.mk (blk_grown (K_ BK264) hg (Kd.R_ne HO_12.out BK264.out (by decide))); have n11_ := Aside0.mk (hb); have n12_ := Aside0.mk (ho); clear HO_8; clear HO_9; clear HO_10; clear HO_248001; clear HO_248002; clear HO_248003; clear HO_248004; clear HO_248005; clear BK227; clear BK247; clear BK264; clear HB; clear HO_12; have HO_8 := n0_; have HO_9 := n1_; have HO_10 := n2_; have HO_248001 := n3_; have HO_248002 := n4_; have HO_248003 := n5_; have HO_248004 := n6_; have HO_248005 := n7_; have BK227 := n8_; have BK247 := n9_; have BK264 := n10_; have HB := n11_; have HO269 := n12_; clear n0_ n1_ n2_ n3_ n4_ n5_ n6_ n7_ n8_ n9_ n10_ n11_ n12_; clear ho hb hg hat))
             go_roundg k4
             case measure => have := HJ3.out; have := HK2.out; have := HJ42.out; have := HK4.out; omega
             case rel => exact ⟨(y267), (wrap64 (x92_4 + 1)), (by first | rfl | (simp; done) | (simp [*]; done)), H', ⟨by have := HJ3.out; have := HK2.out; have := HJ42.out; have := HK4.out; omega⟩, ⟨by (with_reducible repeat (first | apply Kd.S_alloc | apply Kd.S_drewN | apply Kd.S_drew)); exact Kd.S_mono HO_8.out (fun _ hk => ⟨hk.1.1, ⟨hk.2, ⟨hk.1.2.1, hk.1.2.2⟩⟩⟩)⟩, ⟨by (with_reducible repeat (first | apply Kd.R_alloc | apply Kd.R_drewN | apply Kd.R_drew)); exact Kd.R_mono HO_9.out (fun _ hk => ⟨hk.2, ⟨hk.1.1, hk.1.2⟩⟩)⟩, ⟨R_ HO_10⟩, ⟨R_ HO269⟩, ⟨by (with_reducible repeat (first | apply Kd.R_alloc | apply Kd.R_drewN | apply Kd.R_drew)); exact Kd.R_mono HO_248001.out (fun _ hk => ⟨hk.1.1, ⟨hk.2, hk.1.2⟩⟩)⟩, ⟨R_ HO_248002⟩, ⟨R_ HO_248003⟩, ⟨by (with_reducible repeat (first | apply Kd.R_alloc | apply Kd.R_drewN | apply Kd.R_drew)); exact Kd.R_mono HO_248004.out (fun _ hk => ⟨hk.1.1, ⟨hk.2, hk.1.2⟩⟩)⟩, ⟨by (with_reducible repeat (first | apply Kd.R_alloc | apply Kd.R_drewN | apply Kd.R_drew)); exact Kd.R_mono HO_248005.out (fun _ hk => ⟨hk.1.1, ⟨hk.2, ⟨hk.1.2.1, hk.1.2.2⟩⟩⟩)⟩, ⟨K_ BK227⟩, ⟨K_ BK247⟩, ⟨K_ BK264⟩, ⟨bl_⟩⟩
           rw [if_neg c68] at H
           exact absurd H (by simp)
         rw [if_neg c67] at H
         have c67b0 : decide (x92_4 < ((rd_T46 t254 x47_2).f1)) = false := decide_eq_false c67
         clear c67
         by_cases c73 : 0 ≤ ((rd_T46 t254 x47_2).f0)
         · rw [if_pos c73] at H
           have c73b0 : decide (0 ≤ ((rd_T46 t254 x47_2).f0)) = true := decide_eq_true c73
           clear c73
           by_cases c74 : ((rd_T46 t254 x47_2).f0) < (t248.length : Int)
           · rw [if_pos c74] at H
             have c74b0 : decide (((rd_T46 t254 x47_2).f0) < (t248.length : Int)) = true := decide_eq_true c74
             clear c74
             replace H := Option.bind_eq_some_iff.mp H
             obtain ⟨t271, A750, H⟩ := H
             replace H : (jacquardlaw36_CyclesSplits.l0 k4 t248 t251 t254 x12_4 (wrap64 (x13_2 + t271)) (t254.length : Int) (wrap64 (x47_2 + 1)) t231 t232 t235 t238 t241 t244) = some r := H
             have A75 := Aside0.mk A750
             clear A750
             have H' := Aside0.mk H
             clear H
             try go_wp2
             have n0_ := Aside0.mk (Kd.S_drew HO_8.out)
             have n1_ := Aside0.mk (Kd.R_drew HO_9.out)
             have n2_ := Aside0.mk (Kd.R_drew HO_10.out)
             have n3_ := Aside0.mk (Kd.R_drew HO_12.out)
             have n4_ := Aside0.mk (Kd.R_drew HO_248001.out)
             have n5_ := Aside0.mk (Kd.R_drew HO_248002.out)
             have n6_ := Aside0.mk (Kd.R_drew HO_248003.out)
             have n7_ := Aside0.mk (Kd.R_drew HO_248004.out)
             have n8_ := Aside0.mk (Kd.R_drew HO_248005.out)
             have n9_ := Aside0.mk (blk_drew BK227.out)
             have n10_ := Aside0.mk (blk_drew BK247.out)
             have n11_ := Aside0.mk (blk_drew BK264.out)
             have n12_ := Aside0.mk (below_drew1 HB.out)
             clear HO_8
             clear HO_9
             clear HO_10
             clear HO_12
             clear HO_248001
             clear HO_248002
             clear HO_248003
             clear HO_248004
             clear HO_248005
             clear BK227
             clear BK247
             clear BK264
             clear HB
             have HO_8 := n0_
             have HO_9 := n1_
             have HO_10 := n2_
             have HO_12 := n3_
             have HO_248001 := n4_
             have HO_248002 := n5_
             have HO_248003 := n6_
             have HO_248004 := n7_
             have HO_248005 := n8_
             have BK227 := n9_
             have BK247 := n10_
             have BK264 := n11_
             have HB := n12_
             clear n0_ n1_ n2_ n3_ n4_ n5_ n6_ n7_ n8_ n9_ n10_ n11_ n12_
             have p270 : 0 ≤ (((rd_T46 t254 x47_2).f0) : Int) := of_decide_eq_true (by first | (with_reducible assumption) | assumption)
             have q270 : ((rd_T46 t254 x47_2).f0) < (t248.length : Int) := of_decide_eq_true (by first | (with_reducible assumption) | assumption)
             obtain ⟨ad270, A270_2, c270_2, A270_3, c270_3, A270_4, c270_4, e270, hx270_0, hx270_1, hx270_2, hx270_3, hx270_4, hl270_2, hi270_2, hl270_3, hi270_3, hl270_4, hi270_4⟩ := at_T49 (Kd.S_reads' HO_8.out).2.2 ((rd_T46 t254 x47_2).f0) p270 q270
             cases e270
             obtain ⟨ce270, hce270, hMe270, hcc270⟩ := Kd.S_get HO_8.out z49 ((rd_T46 t254 x47_2).f0) p270 (by first | exact q270 | exact of_decide_eq_true (by first | (with_reducible assumption) | assumption) | (have e_ := (Kd.S_reads' HO_8.out).1; omega))
             obtain ⟨ve270_2, ve270_3, ve270_4, rfl, ge270_2, ge270_3, ge270_4⟩ := k49_openM hMe270
             have hv270_2 := hcc270 2 _ rfl
             rw [add_field _ _ 2 (by omega)] at hv270_2
             replace hv270_2 := Option.some.inj (hv270_2.symm.trans hx270_2)
             rw [hv270_2] at ge270_2
             have HL270_2 := Aside0.mk (show Kd.R (Kd.int .i64) 3 _ _ _ _ ((rd_T49 t248 ((rd_T46 t254 x47_2).f0)).f2) from ge270_2)
             clear hv270_2 ge270_2
             have hv270_3 := hcc270 3 _ rfl
             rw [add_field _ _ 3 (by omega)] at hv270_3
             replace hv270_3 := Option.some.inj (hv270_3.symm.trans hx270_3)
             rw [hv270_3] at ge270_3
             have HL270_3 := Aside0.mk (show Kd.R (Kd.int .i64) 3 _ _ _ _ ((rd_T49 t248 ((rd_T46 t254 x47_2).f0)).f3) from ge270_3)
             clear hv270_3 ge270_3
             have hv270_4 := hcc270 4 _ rfl
             rw [add_field _ _ 4 (by omega)] at hv270_4
             replace hv270_4 := Option.some.inj (hv270_4.symm.trans hx270_4)
             rw [hv270_4] at ge270_4
             have HL270_4 := Aside0.mk (show Kd.R (Kd.int .i64) 3 _ _ _ _ ((rd_T49 t248 ((rd_T46 t254 x47_2).f0)).f4) from ge270_4)
             clear hv270_4 ge270_4
             clear hcc270 hce270
             have HR270_2 := Aside0.mk hi270_2
             have HC270_2 := Aside0.mk hl270_2
             clear hi270_2 hl270_2
             have HR270_3 := Aside0.mk hi270_3
             have HC270_3 := Aside0.mk hl270_3
             clear hi270_3 hl270_3
             have HR270_4 := Aside0.mk hi270_4
             have HC270_4 := Aside0.mk hl270_4
             clear hi270_4 hl270_4
             replace p270 := eq_true p270
             replace q270 := eq_true q270
             refine start_ (n := 11) (S := fun w' => w'.cell? ⟨gb264, 0, none⟩ = some (.int .i64 ((rd_T46 t254 x47_2).f0)) ∧ w'.cell? ⟨gb264, 1, none⟩ = some (.int .i64 ((rd_T46 t254 x47_2).f1)) ∧ w'.cell? (ad270.add ((((rd_T46 t254 x47_2).f0)).toNat * 5)) = some (.int .i64 ((rd_T49 t248 ((rd_T46 t254 x47_2).f0)).f0)) ∧ w'.cell? ⟨(ad270.add ((((rd_T46 t254 x47_2).f0)).toNat * 5)).block, (ad270.add ((((rd_T46 t254 x47_2).f0)).toNat * 5)).off + 1, none⟩ = some (.int .i64 ((rd_T49 t248 ((rd_T46 t254 x47_2).f0)).f1)) ∧ w'.cell? ⟨(ad270.add ((((rd_T46 t254 x47_2).f0)).toNat * 5)).block, (ad270.add ((((rd_T46 t254 x47_2).f0)).toNat * 5)).off + 2, none⟩ = some (.slice A270_2 ((rd_T49 t248 ((rd_T46 t254 x47_2).f0)).f2).length c270_2) ∧ w'.cell? ⟨(ad270.add ((((rd_T46 t254 x47_2).f0)).toNat * 5)).block, (ad270.add ((((rd_T46 t254 x47_2).f0)).toNat * 5)).off + 3, none⟩ = some (.slice A270_3 ((rd_T49 t248 ((rd_T46 t254 x47_2).f0)).f3).length c270_3) ∧ w'.cell? ⟨(ad270.add ((((rd_T46 t254 x47_2).f0)).toNat * 5)).block, (ad270.add ((((rd_T46 t254 x47_2).f0)).toNat * 5)).off + 4, none⟩ = some (.slice A270_4 ((rd_T49 t248 ((rd_T46 t254 x47_2).f0)).f4).length c270_4)) (ds := []) (bz 11 0) (by kernel_rfl) rfl rfl ⟨(blk_cell BK264.out 0).trans rfl, (blk_cell BK264.out 1).trans rfl, hx270_0, hx270_1, hx270_2, hx270_3, hx270_4⟩ (fun hHeld => ?_); refine with_tabW jacquardlaw36_CyclesSplits.tab22 jacquardlaw36_CyclesSplits.bits22 (fun HT_ HW_ => ?_)
             generalize wr.drew = w76 at HO_8 HO_9 HO_10 HO_12 HO_248001 HO_248002 HO_248003 HO_248004 HO_248005 BK227 BK247 BK264 HB HL270_2 HL270_3 HL270_4 HR270_2 HR270_3 HR270_4 hx270_0 hx270_1 hx270_2 hx270_3 hx270_4 hHeld ⊢
             refine pu_ 0 100 HT_ ?_
             refine pu_ 1 101 HT_ ?_
             refine pu_ 2 102 HT_ ?_
             refine pu_ 6 106 HT_ ?_
             refine tk_ 3 103 HT_ HW_ hHeld ?_ (hy := by rintro w' ⟨s0, s1, s2, s3, s4, s5, s6⟩; go_simp; with_reducible rfl)
             refine pu_ 4 104 HT_ ?_
             refine tk_ 5 105 HT_ HW_ hHeld ?_ (hy := by rintro w' ⟨s0, s1, s2, s3, s4, s5, s6⟩; go_simp; with_reducible rfl)
             refine tk_ 7 107 HT_ HW_ hHeld ?_ (hy := by rintro w' ⟨s0, s1, s2, s3, s4, s5, s6⟩; go_simp; with_reducible rfl)
             refine on_ 8 (some 108) HT_ (fun K hK => ?_)
             refine gs_ Try.func17 #[.agg #[.int .i64 ((rd_T49 t248 ((rd_T46 t254 x47_2).f0)).f0), .int .i64 ((rd_T49 t248 ((rd_T46 t254 x47_2).f0)).f1), .slice A270_2 ((rd_T49 t248 ((rd_T46 t254 x47_2).f0)).f2).length c270_2, .slice A270_3 ((rd_T49 t248 ((rd_T46 t254 x47_2).f0)).f3).length c270_3, .slice A270_4 ((rd_T49 t248 ((rd_T46 t254 x47_2).f0)).f4).length c270_4], .int .i64 ((rd_T46 t254 x47_2).f1)] ?_
             with_reducible refine (cycles_Visit.calls ((rd_T49 t248 ((rd_T46 t254 x47_2).f0)).f0) ((rd_T49 t248 ((rd_T46 t254 x47_2).f0)).f1) _ _ ((rd_T49 t248 ((rd_T46 t254 x47_2).f0)).f2) _ _ ((rd_T49 t248 ((rd_T46 t254 x47_2).f0)).f3) _ _ ((rd_T49 t248 ((rd_T46 t254 x47_2).f0)).f4) ((rd_T46 t254 x47_2).f1) t271 _ ?side1 ?side2 ?side3 ?side4 ?side5 ?side6 A75.out).mono ?_
             (case side1 => repeat (first | exact (by repeat (first | (with_reducible exact HR270_2.out) | (with_reducible refine Kd.C_alloc ?_ _) | (with_reducible refine Kd.C_drewN ?_ _) | (with_reducible refine Kd.C_drew ?_) | exact HR270_2.out)) | (with_reducible refine Kd.C_alloc ?_ _) | (with_reducible refine Kd.C_drewN ?_ _) | (with_reducible refine Kd.C_drew ?_)))
             (case side2 => exact HC270_2.out)
             (case side3 => repeat (first | exact (by repeat (first | (with_reducible exact HR270_3.out) | (with_reducible refine Kd.C_alloc ?_ _) | (with_reducible refine Kd.C_drewN ?_ _) | (with_reducible refine Kd.C_drew ?_) | exact HR270_3.out)) | (with_reducible refine Kd.C_alloc ?_ _) | (with_reducible refine Kd.C_drewN ?_ _) | (with_reducible refine Kd.C_drew ?_)))
             (case side4 => exact HC270_3.out)
             (case side5 => repeat (first | exact (by repeat (first | (with_reducible exact HR270_4.out) | (with_reducible refine Kd.C_alloc ?_ _) | (with_reducible refine Kd.C_drewN ?_ _) | (with_reducible refine Kd.C_drew ?_) | exact HR270_4.out)) | (with_reducible refine Kd.C_alloc ?_ _) | (with_reducible refine Kd.C_drewN ?_ _) | (with_reducible refine Kd.C_drew ?_)))
             (case side6 => exact HC270_4.out)
             rintro e w77 ⟨rfl, hb⟩
             have HS2_ := (hb.cell (World.block_lt_of_cell? _ _ (hHeld.2.2.1))).trans (hHeld.2.2.1)
             have HS3_ := (hb.cell (World.block_lt_of_cell? _ _ (hHeld.2.2.2.1))).trans (hHeld.2.2.2.1)
             have HS4_ := (hb.cell (World.block_lt_of_cell? _ _ (hHeld.2.2.2.2.1))).trans (hHeld.2.2.2.2.1)
             have HS5_ := (hb.cell (World.block_lt_of_cell? _ _ (hHeld.2.2.2.2.2.1))).trans (hHeld.2.2.2.2.2.1)
             have HS6_ := (hb.cell (World.block_lt_of_cell? _ _ (hHeld.2.2.2.2.2.2))).trans (hHeld.2.2.2.2.2.2)
             refine ⟨_, rfl, ?_⟩
             have n0_ := Aside0.mk (Kd.S_below (S_ HO_8) hb)
             have n1_ := Aside0.mk (Kd.R_below (R_ HO_9) hb)
             have n2_ := Aside0.mk (Kd.R_below (R_ HO_10) hb)
             have n3_ := Aside0.mk (Kd.R_below (R_ HO_12) hb)
             have n4_ := Aside0.mk (Kd.R_below (R_ HO_248001) hb)
             have n5_ := Aside0.mk (Kd.R_below (R_ HO_248002) hb)
             have n6_ := Aside0.mk (Kd.R_below (R_ HO_248003) hb)
             have n7_ := Aside0.mk (Kd.R_below (R_ HO_248004) hb)
             have n8_ := Aside0.mk (Kd.R_below (R_ HO_248005) hb)
             have n9_ := Aside0.mk (Kd.R_below (by (with_reducible repeat (first | apply Kd.R_alloc | apply Kd.R_drewN | apply Kd.R_drew)); exact HL270_2.out) hb)
             have n10_ := Aside0.mk (Kd.R_below (by (with_reducible repeat (first | apply Kd.R_alloc | apply Kd.R_drewN | apply Kd.R_drew)); exact HL270_3.out) hb)
             have n11_ := Aside0.mk (Kd.R_below (by (with_reducible repeat (first | apply Kd.R_alloc | apply Kd.R_drewN | apply Kd.R_drew)); exact HL270_4.out) hb)
             have n12_ := Aside0.mk (blk_below (K_ BK227) hb)
             have n13_ := Aside0.mk (blk_below (K_ BK247) hb)
             have n14_ := Aside0.mk (blk_below (K_ BK264) hb)
             have n15_ := Aside0.mk (Kd.C_below (by repeat (first | (with_reducible exact HR270_2.out) | (with_reducible refine Kd.C_alloc ?_ _) | (with_reducible refine Kd.C_drewN ?_ _) | (with_reducible refine Kd.C_drew ?_) | exact HR270_2.out)) hb)
             have n16_ := Aside0.mk (Kd.C_below (by repeat (first | (with_reducible exact HR270_3.out) | (with_reducible refine Kd.C_alloc ?_ _) | (with_reducible refine Kd.C_drewN ?_ _) | (with_reducible refine Kd.C_drew ?_) | exact HR270_3.out)) hb)
             have n17_ := Aside0.mk (Kd.C_below (by repeat (first | (with_reducible exact HR270_4.out) | (with_reducible refine Kd.C_alloc ?_ _) | (with_reducible refine Kd.C_drewN ?_ _) | (with_reducible refine Kd.C_drew ?_) | exact HR270_4.out)) hb)
             have n18_ := Aside0.mk (below_step bl_ hb)
             clear HO_8
             clear HO_9
             clear HO_10
             clear HO_12
             clear HO_248001
             clear HO_248002
             clear HO_248003
             clear HO_248004
             clear HO_248005
             clear HL270_2
             clear HL270_3
             clear HL270_4
             clear BK227
             clear BK247
             clear BK264
             clear HR270_2
             clear HR270_3
             clear HR270_4
             clear HB
             have HO_8 := n0_
             have HO_9 := n1_
             have HO_10 := n2_
             have HO_12 := n3_
             have HO_248001 := n4_
             have HO_248002 := n5_
             have HO_248003 := n6_
             have HO_248004 := n7_
             have HO_248005 := n8_
             have HL270_2 := n9_
             have HL270_3 := n10_
             have HL270_4 := n11_
             have BK227 := n12_
             have BK247 := n13_
             have BK264 := n14_
             have HR270_2 := n15_
             have HR270_3 := n16_
             have HR270_4 := n17_
             have HB := n18_
             clear n0_ n1_ n2_ n3_ n4_ n5_ n6_ n7_ n8_ n9_ n10_ n11_ n12_ n13_ n14_ n15_ n16_ n17_ n18_
             (try clear hb)
             (try clear hb2)
             (try clear hk)
             (try clear hi)
             refine hK.out _ _ ⟨(blk_cell BK264.out 0).trans rfl, (blk_cell BK264.out 1).trans rfl, HS2_, HS3_, HS4_, HS5_, HS6_⟩ (fun hHeld => ?_)
             clear hK K
             refine no_ 108 ?_
             refine pu_ 9 109 HT_ ?_
             refine pu_ 10 13 HT_ ?_
             refine done_ (done_of HT_.out (by kernel_rfl)) ?_
             try go_wp2
             go_roundg k4
             case measure => have := HJ3.out; have := HK2.out; have := HJ42.out; have := HK4.out; omega
             case rel => exact ⟨(x12_4), (wrap64 (x13_2 + t271)), (wrap64 (x47_2 + 1)), (by first | rfl | (simp; done) | (simp [*]; done)), (by first | rfl | (simp; done) | (simp [*]; done)), H', ⟨by have := HJ3.out; have := HK2.out; have := HJ42.out; have := HK4.out; omega⟩, ⟨S_ HO_8⟩, ⟨R_ HO_9⟩, ⟨by (with_reducible repeat (first | apply Kd.R_alloc | apply Kd.R_drewN | apply Kd.R_drew)); exact Kd.R_mono HO_10.out (fun _ hk => trivial)⟩, ⟨R_ HO_12⟩, ⟨R_ HO_248001⟩, ⟨R_ HO_248002⟩, ⟨R_ HO_248003⟩, ⟨R_ HO_248004⟩, ⟨R_ HO_248005⟩, ⟨K_ BK227⟩, ⟨K_ BK247⟩, ⟨bl_⟩⟩
           rw [if_neg c74] at H
           exact absurd H (by simp)
         rw [if_neg c73] at H
         exact absurd H (by simp)
       rw [if_neg c41] at H
       exact absurd H (by simp)
     rw [if_neg c40] at H
     exact absurd H (by simp)
   rw [if_neg c39] at H
   have c39b0 : decide (x47_2 < (t254.length : Int)) = false := decide_eq_false c39
   clear c39
   replace H := Option.bind_eq_some_iff.mp H
   obtain ⟨⟨t258, t261⟩, A780, H⟩ := H
   replace H : ((jacquardref08_Ints.f k2 x12_2 t251).bind fun t262 => (if t262 = true then (some (x13_2 == t261)) else (some false))) = some r := H
   have A78 := Aside0.mk A780
   clear A780
   replace H := Option.bind_eq_some_iff.mp H
   obtain ⟨t262, A790, H⟩ := H
   replace H : (if t262 = true then (some (x13_2 == t261)) else (some false)) = some r := H
   have A79 := Aside0.mk A790
   clear A790
   by_cases c80 : t262 = true
   · subst c80
     have H1 : (some (x13_2 == t261)) = some r := by rw [if_pos rfl] at H; exact H
     clear H
     have H := H1
     clear H1
     obtain rfl := Option.some.inj H
     have hnb81 := NB247_227.out
     have hnc81 := NB227_247.out
     obtain ⟨hcz82_0, hcz82_1, hcz82_2, hcz82_3, hcz82_4, hcz82_5⟩ := cells6 BK247
     obtain ⟨hfz82_0, hfz82_1, hfz82_2, hfz82_3, hfz82_4, hfz82_5⟩ := fz6 BK247
     go_wp2_with (first | ((with_reducible refine gate_callee (f := 18) rfl ?_); refine gL_ 115 Try.func18 #[.agg #[.string t231, .slice Ao26 t232.length co26, .slice Ao27 t235.length co27, .slice Ao28 t238.length co28, .slice Ao29 t241.length co29, .slice Ao30 t244.length co30], .slice Ao35 t248.length co35, .slice Ao36 t251.length co36] ?_; (with_reducible refine (jacquardref36_Issues.calls k2 t231 _ _ t232 _ _ t235 _ _ t238 _ _ t241 _ _ t244 _ _ t248 _ _ t251 t258 t261 _ ?side1 ?side2 ?side3 ?side4 ?side5 ?side6 ?side7 ?side8 ?side9 ?side10 ?side11 ?side12 ?side13 ?side14 A78.out).mono ?_); (case side1 => exact CR_ HO_248001); (case side2 => exact (Kd.R_reads' HO_248001.out).2.1); (case side3 => exact CR_ HO_248002); (case side4 => exact (Kd.R_reads' HO_248002.out).2.1); (case side5 => exact CR_ HO_248003); (case side6 => exact (Kd.R_reads' HO_248003.out).2.1); (case side7 => exact CR_ HO_248004); (case side8 => exact (Kd.R_reads' HO_248004.out).2.1); (case side9 => exact CR_ HO_248005); (case side10 => exact (Kd.R_reads' HO_248005.out).2.1); (case side11 => exact CS_ HO_8); (case side12 => exact (Kd.S_reads' HO_8.out).2.1); (case side13 => exact CR_ HO_9); (case side14 => exact (Kd.R_reads' HO_9.out).2.1); rintro e w83 ⟨v259, rfl, ho0, hb⟩; refine ⟨_, rfl, ?_⟩; have n0_ := Aside0.mk (Kd.S_elder' (S_ HO_8) (Kd.R_base ho0) hb); have n1_ := Aside0.mk (Kd.R_elder' (R_ HO_9) (Kd.R_base ho0) hb); have n2_ := Aside0.mk (Kd.R_below (R_ HO_10) hb); have n3_ := Aside0.mk (Kd.R_elder' (R_ HO_12) (Kd.R_base ho0) hb); have n4_ := Aside0.mk (Kd.R_elder' (R_ HO_248001) (Kd.R_base ho0) hb); have n5_ := Aside0.mk (Kd.R_below (R_ HO_248002) hb); have n6_ := Aside0.mk (Kd.R_below (R_ HO_248003) hb); have n7_ := Aside0.mk (Kd.R_elder' (R_ HO_248004) (Kd.R_base ho0) hb); have n8_ := Aside0.mk (Kd.R_elder' (R_ HO_248005) (Kd.R_base ho0) hb); have n9_ := Aside0.mk (Kd.R_lower (Kd.R_new' (Kd.R_new' (Kd.R_new' (Kd.R_new' ho0 (Kd.R_lt (R_ HO_9))) (Kd.R_lt (R_ HO_12))) (Kd.R_lt (R_ HO_248001))) (Kd.R_lt (R_ HO_248004))) (below_size bl_)); have n10_ := Aside0.mk (blk_below (K_ BK227) hb); have n11_ := Aside0.mk (blk_below (K_ BK247) hb); have n12_ := Aside0.mk (below_step bl_ hb); clear HO_8; clear HO_9; clear HO_10; clear HO_12; clear HO_248001; clear HO_248002; clear HO_248003; clear HO_248004; clear HO_248005; clear BK227; clear BK247; clear HB; have HO_8 := n0_; have HO_9 := n1_; have HO_10 := n2_; have HO_12 := n3_; have HO_248001 := n4_; have HO_248002 := n5_; have HO_248003 := n6_; have HO_248004 := n7_; have HO_248005 := n8_; have HO260 := n9_; have BK227 := n10_; have BK247 := n11_; have HB := n12_; clear n0_ n1_ n2_ n3_ n4_ n5_ n6_ n7_ n8_ n9_ n10_ n11_ n12_; (try clear hb); (try clear hb2); (try clear hk); (try clear hi); (try clear ho0); obtain ⟨Ao84, co84, eo84⟩ := Kd.R_slice HO_12.out; subst eo84) | ((with_reducible refine gate_callee (f := 19) rfl ?_); refine gL_ 120 Try.func19 #[.slice Ao84 x12_2.length co84, .slice Ao36 t251.length co36] ?_; (with_reducible refine (jacquardref08_Ints.calls k2 _ _ x12_2 _ _ t251 true _ ?side1 ?side2 ?side3 ?side4 A79.out).mono ?_); (case side1 => exact CR_ HO_12); (case side2 => exact (Kd.R_reads' HO_12.out).2.1); (case side3 => exact CR_ HO_9); (case side4 => exact (Kd.R_reads' HO_9.out).2.1); rintro e w' ⟨rfl, ⟨nd, rfl⟩⟩; refine ⟨_, rfl, ?_⟩))
     go_ret
     exact ⟨by first | rfl | (simp [errW_none, errW_some] <;> rfl) | (simp [*, errW_none, errW_some] <;> rfl), by repeat (first | (with_reducible first | exact HB.out | apply below_alloc | apply pw_below_drewN | apply below_drew1 | refine below_set ?_ GE227.out | refine below_set ?_ GE247.out) | exact HB.out)⟩
   replace c80 := Bool.eq_false_iff.mpr c80
   subst c80
   have H1 : (some false) = some r := by rw [if_neg (show ¬ (false = true) by decide)] at H; exact H
   clear H
   have H := H1
   clear H1
   exact absurd ((Option.some.inj H).trans HRT_.out) Bool.false_ne_true
 rw [if_neg c20] at H
 have c20b0 : (t257 == 0) = false := beq_eq_false_iff_ne.mpr c20
 have c20b1 : (t257 != 0) = true := bne_iff_ne.mpr c20
 exact absurd ((Option.some.inj H).trans HRT_.out) Bool.false_ne_true
end Go.Proofs.Ytmefaegcoogmiaa.PAll
