import Derived.Test.YtmacdopdogodoaaVmE
/- The units: the two functions of the unit answer alike. -/
set_option linter.all false
namespace Go.Proofs.Ytmacdopdogodoaa.vm
open Go Go.RowKit Go.Vm
theorem w64 {x : Int} (h0 : -9223372036854775808 ≤ x) (h1 : x ≤ 9223372036854775807) : wrap64 x = x := by
  unfold wrap64; omega
theorem wu64 {x : Int} (h0 : 0 ≤ x) (h1 : x < 18446744073709551616) : wr .u64 x = x := by
  show IntKind.wrap .u64 x = x
  rw [show IntKind.wrap .u64 x = x % 18446744073709551616 by simp [IntKind.wrap, IntKind.bits, IntKind.signed]]; omega
theorem e29 (k : Nat) (x : Int) (h : 0 ≤ x ∧ x ≤ 18446744073709551615) : evF T (k + 1) 29 [.int .u64 x] [] = some ([.int .i64 (Lib.bitLen x.toNat : Nat)], []) := by
  rw [show evF T (k + 1) 29 [.int .u64 x] [] = xLen [.int .u64 x] [] from by kernel_rfl]
  show (if 0 ≤ x ∧ x ≤ 18446744073709551615 then _ else none) = _
  rw [if_pos h]
theorem lev15 (k : Nat) (w : Int) (h0 : 1 ≤ w) (h1 : w ≤ 70) : evF T (k + 2) 15 [.int .i64 w] [] = some ([.int .i64 (Lib.bitLen (w - 1).toNat : Nat)], []) := by
  rw [f15_eq, if_neg (by omega), w64 (x := w - 1) (by omega) (by omega), wu64 (x := w - 1) (by omega) (by omega), e29 _ _ ⟨by omega, by omega⟩]
  rfl
def pl : Nat → Int → Int → Int → Option Int
  | 0, _, _, _ => none
  | m + 1, x0, x3, x4 => if x4 < x0 then if x3 < 62 then pl m x0 (wrap64 (x3 + 1)) (wrap64 (2 * x4)) else some x3 else some x3
theorem l17_pl (k : Nat) : ∀ (m : Nat) (x0 x3 x4 r : Int), pl m x0 x3 x4 = some r → l17_0 k m x0 x3 x4 = some ([.int .i64 r], [])
  | 0, _, _, _, _, h => by simp [pl] at h
  | m + 1, x0, x3, x4, r, h => by
    rw [l17_0_eq]; unfold pl at h
    by_cases c1 : x4 < x0
    · rw [if_pos c1] at h ⊢
      by_cases c2 : x3 < 62
      · rw [if_pos c2] at h ⊢; exact l17_pl k m _ _ _ _ h
      · rw [if_neg c2] at h ⊢; cases h; rfl
    · rw [if_neg c1] at h ⊢; cases h; rfl
theorem pl_all : ∀ w : Fin 70, pl 40 ((w.val : Int) + 1) 0 1 = some (Lib.bitLen w.val : Nat) := by decide +kernel
theorem lev17 (w : Int) (h0 : 1 ≤ w) (h1 : w ≤ 70) : evF T 41 17 [.int .i64 w] [] = some ([.int .i64 (Lib.bitLen (w - 1).toNat : Nat)], []) := by
  have h := pl_all ⟨(w - 1).toNat, by omega⟩
  simp only [] at h
  rw [show ((w - 1).toNat : Int) + 1 = w from by omega] at h
  exact (f17_eq 40 w).trans (l17_pl 40 40 w 0 1 _ h)
theorem e28 (a0 a1 a2 : Int) : evF T 41 28 [.int .i64 a0, .int .i64 a1, .int .i64 a2] [] = some ([.agg [.int .i64 (0 : Int), .int .i64 a0, .int .i64 a1, .int .i64 (0 : Int), .int .i64 (0 : Int), .int .i64 a2]], []) := f28_eq 40 a0 a1 a2
def SameAt (op w : Int) : Prop := ∃ u0 u1 u2 u3 u4 u5, evF T 42 11 [.int .i64 op, .int .i64 w] [] = some ([.agg [.int .i64 u0, .int .i64 u1, .int .i64 u2, .int .i64 u3, .int .i64 u4, .int .i64 u5], .int .i64 0], []) ∧ evF T 42 14 [.int .i64 op, .int .i64 w] [] = some ([.agg [.int .i64 u0, .int .i64 u1, .int .i64 u2, .int .i64 u3, .int .i64 u4, .int .i64 u5]], [])
theorem unit2 (w : Int) (h1 : ¬ w < 1) (h2 : ¬ w > 64) (l1 : evF T 41 15 [.int .i64 w] [] = some ([.int .i64 (Lib.bitLen (w - 1).toNat : Nat)], [])) (l2 : evF T 41 15 [.int .i64 (wrap64 (w + 1))] [] = some ([.int .i64 (Lib.bitLen w.toNat : Nat)], [])) (l3 : evF T 41 17 [.int .i64 w] [] = some ([.int .i64 (Lib.bitLen (w - 1).toNat : Nat)], [])) (l4 : evF T 41 17 [.int .i64 (wrap64 (w + 1))] [] = some ([.int .i64 (Lib.bitLen w.toNat : Nat)], [])) : SameAt 2 w := by
  unfold SameAt
  rw [f11_eq 41, f14_eq 41]
  simp only [h1, h2, l1, l2, l3, l4, e28, j11_0_eq, j11_1_eq, j11_2_eq, j11_3_eq, j11_4_eq, j11_5_eq, j14_0_eq, j14_1_eq, j14_2_eq, j14_3_eq, j14_4_eq, j14_5_eq, Option.bind_some, res15_eq, res17_eq, res28_eq, if_true, if_false, reduceIte, Int.reduceEq, Int.reduceLE, ge_iff_le, gt_iff_lt, Int.reduceLT, decide_true, decide_false, Bool.false_eq_true]
  exact ⟨_, _, _, _, _, _, rfl, rfl⟩
theorem unit3 (w : Int) (h1 : ¬ w < 1) (h2 : ¬ w > 64) (l1 : evF T 41 15 [.int .i64 w] [] = some ([.int .i64 (Lib.bitLen (w - 1).toNat : Nat)], [])) (l2 : evF T 41 15 [.int .i64 (wrap64 (w + 1))] [] = some ([.int .i64 (Lib.bitLen w.toNat : Nat)], [])) (l3 : evF T 41 17 [.int .i64 w] [] = some ([.int .i64 (Lib.bitLen (w - 1).toNat : Nat)], [])) (l4 : evF T 41 17 [.int .i64 (wrap64 (w + 1))] [] = some ([.int .i64 (Lib.bitLen w.toNat : Nat)], [])) : SameAt 3 w := by
  unfold SameAt
  rw [f11_eq 41, f14_eq 41]
  simp only [h1, h2, l1, l2, l3, l4, e28, j11_0_eq, j11_1_eq, j11_2_eq, j11_3_eq, j11_4_eq, j11_5_eq, j14_0_eq, j14_1_eq, j14_2_eq, j14_3_eq, j14_4_eq, j14_5_eq, Option.bind_some, res15_eq, res17_eq, res28_eq, if_true, if_false, reduceIte, Int.reduceEq, Int.reduceLE, ge_iff_le, gt_iff_lt, Int.reduceLT, decide_true, decide_false, Bool.false_eq_true]
  exact ⟨_, _, _, _, _, _, rfl, rfl⟩
theorem unit4 (w : Int) (h1 : ¬ w < 1) (h2 : ¬ w > 64) (l1 : evF T 41 15 [.int .i64 w] [] = some ([.int .i64 (Lib.bitLen (w - 1).toNat : Nat)], [])) (l2 : evF T 41 15 [.int .i64 (wrap64 (w + 1))] [] = some ([.int .i64 (Lib.bitLen w.toNat : Nat)], [])) (l3 : evF T 41 17 [.int .i64 w] [] = some ([.int .i64 (Lib.bitLen (w - 1).toNat : Nat)], [])) (l4 : evF T 41 17 [.int .i64 (wrap64 (w + 1))] [] = some ([.int .i64 (Lib.bitLen w.toNat : Nat)], [])) : SameAt 4 w := by
  unfold SameAt
  rw [f11_eq 41, f14_eq 41]
  simp only [h1, h2, l1, l2, l3, l4, e28, j11_0_eq, j11_1_eq, j11_2_eq, j11_3_eq, j11_4_eq, j11_5_eq, j14_0_eq, j14_1_eq, j14_2_eq, j14_3_eq, j14_4_eq, j14_5_eq, Option.bind_some, res15_eq, res17_eq, res28_eq, if_true, if_false, reduceIte, Int.reduceEq, Int.reduceLE, ge_iff_le, gt_iff_lt, Int.reduceLT, decide_true, decide_false, Bool.false_eq_true]
  exact ⟨_, _, _, _, _, _, rfl, rfl⟩
theorem unit5 (w : Int) (h1 : ¬ w < 1) (h2 : ¬ w > 64) (l1 : evF T 41 15 [.int .i64 w] [] = some ([.int .i64 (Lib.bitLen (w - 1).toNat : Nat)], [])) (l2 : evF T 41 15 [.int .i64 (wrap64 (w + 1))] [] = some ([.int .i64 (Lib.bitLen w.toNat : Nat)], [])) (l3 : evF T 41 17 [.int .i64 w] [] = some ([.int .i64 (Lib.bitLen (w - 1).toNat : Nat)], [])) (l4 : evF T 41 17 [.int .i64 (wrap64 (w + 1))] [] = some ([.int .i64 (Lib.bitLen w.toNat : Nat)], [])) : SameAt 5 w := by
  unfold SameAt
  rw [f11_eq 41, f14_eq 41]
  simp only [h1, h2, l1, l2, l3, l4, e28, j11_0_eq, j11_1_eq, j11_2_eq, j11_3_eq, j11_4_eq, j11_5_eq, j14_0_eq, j14_1_eq, j14_2_eq, j14_3_eq, j14_4_eq, j14_5_eq, Option.bind_some, res15_eq, res17_eq, res28_eq, if_true, if_false, reduceIte, Int.reduceEq, Int.reduceLE, ge_iff_le, gt_iff_lt, Int.reduceLT, decide_true, decide_false, Bool.false_eq_true]
  exact ⟨_, _, _, _, _, _, rfl, rfl⟩
theorem unit6 (w : Int) (h1 : ¬ w < 1) (h2 : ¬ w > 64) (l1 : evF T 41 15 [.int .i64 w] [] = some ([.int .i64 (Lib.bitLen (w - 1).toNat : Nat)], [])) (l2 : evF T 41 15 [.int .i64 (wrap64 (w + 1))] [] = some ([.int .i64 (Lib.bitLen w.toNat : Nat)], [])) (l3 : evF T 41 17 [.int .i64 w] [] = some ([.int .i64 (Lib.bitLen (w - 1).toNat : Nat)], [])) (l4 : evF T 41 17 [.int .i64 (wrap64 (w + 1))] [] = some ([.int .i64 (Lib.bitLen w.toNat : Nat)], [])) : SameAt 6 w := by
  unfold SameAt
  rw [f11_eq 41, f14_eq 41]
  simp only [h1, h2, l1, l2, l3, l4, e28, j11_0_eq, j11_1_eq, j11_2_eq, j11_3_eq, j11_4_eq, j11_5_eq, j14_0_eq, j14_1_eq, j14_2_eq, j14_3_eq, j14_4_eq, j14_5_eq, Option.bind_some, res15_eq, res17_eq, res28_eq, if_true, if_false, reduceIte, Int.reduceEq, Int.reduceLE, ge_iff_le, gt_iff_lt, Int.reduceLT, decide_true, decide_false, Bool.false_eq_true]
  exact ⟨_, _, _, _, _, _, rfl, rfl⟩
theorem unit7 (w : Int) (h1 : ¬ w < 1) (h2 : ¬ w > 64) (l1 : evF T 41 15 [.int .i64 w] [] = some ([.int .i64 (Lib.bitLen (w - 1).toNat : Nat)], [])) (l2 : evF T 41 15 [.int .i64 (wrap64 (w + 1))] [] = some ([.int .i64 (Lib.bitLen w.toNat : Nat)], [])) (l3 : evF T 41 17 [.int .i64 w] [] = some ([.int .i64 (Lib.bitLen (w - 1).toNat : Nat)], [])) (l4 : evF T 41 17 [.int .i64 (wrap64 (w + 1))] [] = some ([.int .i64 (Lib.bitLen w.toNat : Nat)], [])) : SameAt 7 w := by
  unfold SameAt
  rw [f11_eq 41, f14_eq 41]
  simp only [h1, h2, l1, l2, l3, l4, e28, j11_0_eq, j11_1_eq, j11_2_eq, j11_3_eq, j11_4_eq, j11_5_eq, j14_0_eq, j14_1_eq, j14_2_eq, j14_3_eq, j14_4_eq, j14_5_eq, Option.bind_some, res15_eq, res17_eq, res28_eq, if_true, if_false, reduceIte, Int.reduceEq, Int.reduceLE, ge_iff_le, gt_iff_lt, Int.reduceLT, decide_true, decide_false, Bool.false_eq_true]
  exact ⟨_, _, _, _, _, _, rfl, rfl⟩
theorem unit8 (w : Int) (h1 : ¬ w < 1) (h2 : ¬ w > 64) (l1 : evF T 41 15 [.int .i64 w] [] = some ([.int .i64 (Lib.bitLen (w - 1).toNat : Nat)], [])) (l2 : evF T 41 15 [.int .i64 (wrap64 (w + 1))] [] = some ([.int .i64 (Lib.bitLen w.toNat : Nat)], [])) (l3 : evF T 41 17 [.int .i64 w] [] = some ([.int .i64 (Lib.bitLen (w - 1).toNat : Nat)], [])) (l4 : evF T 41 17 [.int .i64 (wrap64 (w + 1))] [] = some ([.int .i64 (Lib.bitLen w.toNat : Nat)], [])) : SameAt 8 w := by
  unfold SameAt
  rw [f11_eq 41, f14_eq 41]
  simp only [h1, h2, l1, l2, l3, l4, e28, j11_0_eq, j11_1_eq, j11_2_eq, j11_3_eq, j11_4_eq, j11_5_eq, j14_0_eq, j14_1_eq, j14_2_eq, j14_3_eq, j14_4_eq, j14_5_eq, Option.bind_some, res15_eq, res17_eq, res28_eq, if_true, if_false, reduceIte, Int.reduceEq, Int.reduceLE, ge_iff_le, gt_iff_lt, Int.reduceLT, decide_true, decide_false, Bool.false_eq_true]
  exact ⟨_, _, _, _, _, _, rfl, rfl⟩
theorem unit9 (w : Int) (h1 : ¬ w < 1) (h2 : ¬ w > 64) (l1 : evF T 41 15 [.int .i64 w] [] = some ([.int .i64 (Lib.bitLen (w - 1).toNat : Nat)], [])) (l2 : evF T 41 15 [.int .i64 (wrap64 (w + 1))] [] = some ([.int .i64 (Lib.bitLen w.toNat : Nat)], [])) (l3 : evF T 41 17 [.int .i64 w] [] = some ([.int .i64 (Lib.bitLen (w - 1).toNat : Nat)], [])) (l4 : evF T 41 17 [.int .i64 (wrap64 (w + 1))] [] = some ([.int .i64 (Lib.bitLen w.toNat : Nat)], [])) : SameAt 9 w := by
  unfold SameAt
  rw [f11_eq 41, f14_eq 41]
  simp only [h1, h2, l1, l2, l3, l4, e28, j11_0_eq, j11_1_eq, j11_2_eq, j11_3_eq, j11_4_eq, j11_5_eq, j14_0_eq, j14_1_eq, j14_2_eq, j14_3_eq, j14_4_eq, j14_5_eq, Option.bind_some, res15_eq, res17_eq, res28_eq, if_true, if_false, reduceIte, Int.reduceEq, Int.reduceLE, ge_iff_le, gt_iff_lt, Int.reduceLT, decide_true, decide_false, Bool.false_eq_true]
  exact ⟨_, _, _, _, _, _, rfl, rfl⟩
theorem unit10 (w : Int) (h1 : ¬ w < 1) (h2 : ¬ w > 64) (l1 : evF T 41 15 [.int .i64 w] [] = some ([.int .i64 (Lib.bitLen (w - 1).toNat : Nat)], [])) (l2 : evF T 41 15 [.int .i64 (wrap64 (w + 1))] [] = some ([.int .i64 (Lib.bitLen w.toNat : Nat)], [])) (l3 : evF T 41 17 [.int .i64 w] [] = some ([.int .i64 (Lib.bitLen (w - 1).toNat : Nat)], [])) (l4 : evF T 41 17 [.int .i64 (wrap64 (w + 1))] [] = some ([.int .i64 (Lib.bitLen w.toNat : Nat)], [])) : SameAt 10 w := by
  unfold SameAt
  rw [f11_eq 41, f14_eq 41]
  simp only [h1, h2, l1, l2, l3, l4, e28, j11_0_eq, j11_1_eq, j11_2_eq, j11_3_eq, j11_4_eq, j11_5_eq, j14_0_eq, j14_1_eq, j14_2_eq, j14_3_eq, j14_4_eq, j14_5_eq, Option.bind_some, res15_eq, res17_eq, res28_eq, if_true, if_false, reduceIte, Int.reduceEq, Int.reduceLE, ge_iff_le, gt_iff_lt, Int.reduceLT, decide_true, decide_false, Bool.false_eq_true]
  exact ⟨_, _, _, _, _, _, rfl, rfl⟩
theorem unit11 (w : Int) (h1 : ¬ w < 1) (h2 : ¬ w > 64) (l1 : evF T 41 15 [.int .i64 w] [] = some ([.int .i64 (Lib.bitLen (w - 1).toNat : Nat)], [])) (l2 : evF T 41 15 [.int .i64 (wrap64 (w + 1))] [] = some ([.int .i64 (Lib.bitLen w.toNat : Nat)], [])) (l3 : evF T 41 17 [.int .i64 w] [] = some ([.int .i64 (Lib.bitLen (w - 1).toNat : Nat)], [])) (l4 : evF T 41 17 [.int .i64 (wrap64 (w + 1))] [] = some ([.int .i64 (Lib.bitLen w.toNat : Nat)], [])) : SameAt 11 w := by
  unfold SameAt
  rw [f11_eq 41, f14_eq 41]
  simp only [h1, h2, l1, l2, l3, l4, e28, j11_0_eq, j11_1_eq, j11_2_eq, j11_3_eq, j11_4_eq, j11_5_eq, j14_0_eq, j14_1_eq, j14_2_eq, j14_3_eq, j14_4_eq, j14_5_eq, Option.bind_some, res15_eq, res17_eq, res28_eq, if_true, if_false, reduceIte, Int.reduceEq, Int.reduceLE, ge_iff_le, gt_iff_lt, Int.reduceLT, decide_true, decide_false, Bool.false_eq_true]
  exact ⟨_, _, _, _, _, _, rfl, rfl⟩
theorem unit12 (w : Int) (h1 : ¬ w < 1) (h2 : ¬ w > 64) (l1 : evF T 41 15 [.int .i64 w] [] = some ([.int .i64 (Lib.bitLen (w - 1).toNat : Nat)], [])) (l2 : evF T 41 15 [.int .i64 (wrap64 (w + 1))] [] = some ([.int .i64 (Lib.bitLen w.toNat : Nat)], [])) (l3 : evF T 41 17 [.int .i64 w] [] = some ([.int .i64 (Lib.bitLen (w - 1).toNat : Nat)], [])) (l4 : evF T 41 17 [.int .i64 (wrap64 (w + 1))] [] = some ([.int .i64 (Lib.bitLen w.toNat : Nat)], [])) : SameAt 12 w := by
  unfold SameAt
  rw [f11_eq 41, f14_eq 41]
  simp only [h1, h2, l1, l2, l3, l4, e28, j11_0_eq, j11_1_eq, j11_2_eq, j11_3_eq, j11_4_eq, j11_5_eq, j14_0_eq, j14_1_eq, j14_2_eq, j14_3_eq, j14_4_eq, j14_5_eq, Option.bind_some, res15_eq, res17_eq, res28_eq, if_true, if_false, reduceIte, Int.reduceEq, Int.reduceLE, ge_iff_le, gt_iff_lt, Int.reduceLT, decide_true, decide_false, Bool.false_eq_true]
  exact ⟨_, _, _, _, _, _, rfl, rfl⟩
theorem unit13 (w : Int) (h1 : ¬ w < 1) (h2 : ¬ w > 64) (l1 : evF T 41 15 [.int .i64 w] [] = some ([.int .i64 (Lib.bitLen (w - 1).toNat : Nat)], [])) (l2 : evF T 41 15 [.int .i64 (wrap64 (w + 1))] [] = some ([.int .i64 (Lib.bitLen w.toNat : Nat)], [])) (l3 : evF T 41 17 [.int .i64 w] [] = some ([.int .i64 (Lib.bitLen (w - 1).toNat : Nat)], [])) (l4 : evF T 41 17 [.int .i64 (wrap64 (w + 1))] [] = some ([.int .i64 (Lib.bitLen w.toNat : Nat)], [])) : SameAt 13 w := by
  unfold SameAt
  rw [f11_eq 41, f14_eq 41]
  simp only [h1, h2, l1, l2, l3, l4, e28, j11_0_eq, j11_1_eq, j11_2_eq, j11_3_eq, j11_4_eq, j11_5_eq, j14_0_eq, j14_1_eq, j14_2_eq, j14_3_eq, j14_4_eq, j14_5_eq, Option.bind_some, res15_eq, res17_eq, res28_eq, if_true, if_false, reduceIte, Int.reduceEq, Int.reduceLE, ge_iff_le, gt_iff_lt, Int.reduceLT, decide_true, decide_false, Bool.false_eq_true]
  exact ⟨_, _, _, _, _, _, rfl, rfl⟩
theorem unit14 (w : Int) (h1 : ¬ w < 1) (h2 : ¬ w > 64) (l1 : evF T 41 15 [.int .i64 w] [] = some ([.int .i64 (Lib.bitLen (w - 1).toNat : Nat)], [])) (l2 : evF T 41 15 [.int .i64 (wrap64 (w + 1))] [] = some ([.int .i64 (Lib.bitLen w.toNat : Nat)], [])) (l3 : evF T 41 17 [.int .i64 w] [] = some ([.int .i64 (Lib.bitLen (w - 1).toNat : Nat)], [])) (l4 : evF T 41 17 [.int .i64 (wrap64 (w + 1))] [] = some ([.int .i64 (Lib.bitLen w.toNat : Nat)], [])) : SameAt 14 w := by
  unfold SameAt
  rw [f11_eq 41, f14_eq 41]
  simp only [h1, h2, l1, l2, l3, l4, e28, j11_0_eq, j11_1_eq, j11_2_eq, j11_3_eq, j11_4_eq, j11_5_eq, j14_0_eq, j14_1_eq, j14_2_eq, j14_3_eq, j14_4_eq, j14_5_eq, Option.bind_some, res15_eq, res17_eq, res28_eq, if_true, if_false, reduceIte, Int.reduceEq, Int.reduceLE, ge_iff_le, gt_iff_lt, Int.reduceLT, decide_true, decide_false, Bool.false_eq_true]
  exact ⟨_, _, _, _, _, _, rfl, rfl⟩
theorem unit15 (w : Int) (h1 : ¬ w < 1) (h2 : ¬ w > 64) (l1 : evF T 41 15 [.int .i64 w] [] = some ([.int .i64 (Lib.bitLen (w - 1).toNat : Nat)], [])) (l2 : evF T 41 15 [.int .i64 (wrap64 (w + 1))] [] = some ([.int .i64 (Lib.bitLen w.toNat : Nat)], [])) (l3 : evF T 41 17 [.int .i64 w] [] = some ([.int .i64 (Lib.bitLen (w - 1).toNat : Nat)], [])) (l4 : evF T 41 17 [.int .i64 (wrap64 (w + 1))] [] = some ([.int .i64 (Lib.bitLen w.toNat : Nat)], [])) : SameAt 15 w := by
  unfold SameAt
  rw [f11_eq 41, f14_eq 41]
  simp only [h1, h2, l1, l2, l3, l4, e28, j11_0_eq, j11_1_eq, j11_2_eq, j11_3_eq, j11_4_eq, j11_5_eq, j14_0_eq, j14_1_eq, j14_2_eq, j14_3_eq, j14_4_eq, j14_5_eq, Option.bind_some, res15_eq, res17_eq, res28_eq, if_true, if_false, reduceIte, Int.reduceEq, Int.reduceLE, ge_iff_le, gt_iff_lt, Int.reduceLT, decide_true, decide_false, Bool.false_eq_true]
  exact ⟨_, _, _, _, _, _, rfl, rfl⟩
theorem unit16 (w : Int) (h1 : ¬ w < 1) (h2 : ¬ w > 64) (l1 : evF T 41 15 [.int .i64 w] [] = some ([.int .i64 (Lib.bitLen (w - 1).toNat : Nat)], [])) (l2 : evF T 41 15 [.int .i64 (wrap64 (w + 1))] [] = some ([.int .i64 (Lib.bitLen w.toNat : Nat)], [])) (l3 : evF T 41 17 [.int .i64 w] [] = some ([.int .i64 (Lib.bitLen (w - 1).toNat : Nat)], [])) (l4 : evF T 41 17 [.int .i64 (wrap64 (w + 1))] [] = some ([.int .i64 (Lib.bitLen w.toNat : Nat)], [])) : SameAt 16 w := by
  unfold SameAt
  rw [f11_eq 41, f14_eq 41]
  simp only [h1, h2, l1, l2, l3, l4, e28, j11_0_eq, j11_1_eq, j11_2_eq, j11_3_eq, j11_4_eq, j11_5_eq, j14_0_eq, j14_1_eq, j14_2_eq, j14_3_eq, j14_4_eq, j14_5_eq, Option.bind_some, res15_eq, res17_eq, res28_eq, if_true, if_false, reduceIte, Int.reduceEq, Int.reduceLE, ge_iff_le, gt_iff_lt, Int.reduceLT, decide_true, decide_false, Bool.false_eq_true]
  exact ⟨_, _, _, _, _, _, rfl, rfl⟩
theorem unit17 (w : Int) (h1 : ¬ w < 1) (h2 : ¬ w > 64) (l1 : evF T 41 15 [.int .i64 w] [] = some ([.int .i64 (Lib.bitLen (w - 1).toNat : Nat)], [])) (l2 : evF T 41 15 [.int .i64 (wrap64 (w + 1))] [] = some ([.int .i64 (Lib.bitLen w.toNat : Nat)], [])) (l3 : evF T 41 17 [.int .i64 w] [] = some ([.int .i64 (Lib.bitLen (w - 1).toNat : Nat)], [])) (l4 : evF T 41 17 [.int .i64 (wrap64 (w + 1))] [] = some ([.int .i64 (Lib.bitLen w.toNat : Nat)], [])) : SameAt 17 w := by
  unfold SameAt
  rw [f11_eq 41, f14_eq 41]
  simp only [h1, h2, l1, l2, l3, l4, e28, j11_0_eq, j11_1_eq, j11_2_eq, j11_3_eq, j11_4_eq, j11_5_eq, j14_0_eq, j14_1_eq, j14_2_eq, j14_3_eq, j14_4_eq, j14_5_eq, Option.bind_some, res15_eq, res17_eq, res28_eq, if_true, if_false, reduceIte, Int.reduceEq, Int.reduceLE, ge_iff_le, gt_iff_lt, Int.reduceLT, decide_true, decide_false, Bool.false_eq_true]
  exact ⟨_, _, _, _, _, _, rfl, rfl⟩
theorem unit18 (w : Int) (h1 : ¬ w < 1) (h2 : ¬ w > 64) (l1 : evF T 41 15 [.int .i64 w] [] = some ([.int .i64 (Lib.bitLen (w - 1).toNat : Nat)], [])) (l2 : evF T 41 15 [.int .i64 (wrap64 (w + 1))] [] = some ([.int .i64 (Lib.bitLen w.toNat : Nat)], [])) (l3 : evF T 41 17 [.int .i64 w] [] = some ([.int .i64 (Lib.bitLen (w - 1).toNat : Nat)], [])) (l4 : evF T 41 17 [.int .i64 (wrap64 (w + 1))] [] = some ([.int .i64 (Lib.bitLen w.toNat : Nat)], [])) : SameAt 18 w := by
  unfold SameAt
  rw [f11_eq 41, f14_eq 41]
  simp only [h1, h2, l1, l2, l3, l4, e28, j11_0_eq, j11_1_eq, j11_2_eq, j11_3_eq, j11_4_eq, j11_5_eq, j14_0_eq, j14_1_eq, j14_2_eq, j14_3_eq, j14_4_eq, j14_5_eq, Option.bind_some, res15_eq, res17_eq, res28_eq, if_true, if_false, reduceIte, Int.reduceEq, Int.reduceLE, ge_iff_le, gt_iff_lt, Int.reduceLT, decide_true, decide_false, Bool.false_eq_true]
  exact ⟨_, _, _, _, _, _, rfl, rfl⟩
theorem unit19 (w : Int) (h1 : ¬ w < 1) (h2 : ¬ w > 64) (l1 : evF T 41 15 [.int .i64 w] [] = some ([.int .i64 (Lib.bitLen (w - 1).toNat : Nat)], [])) (l2 : evF T 41 15 [.int .i64 (wrap64 (w + 1))] [] = some ([.int .i64 (Lib.bitLen w.toNat : Nat)], [])) (l3 : evF T 41 17 [.int .i64 w] [] = some ([.int .i64 (Lib.bitLen (w - 1).toNat : Nat)], [])) (l4 : evF T 41 17 [.int .i64 (wrap64 (w + 1))] [] = some ([.int .i64 (Lib.bitLen w.toNat : Nat)], [])) : SameAt 19 w := by
  unfold SameAt
  rw [f11_eq 41, f14_eq 41]
  simp only [h1, h2, l1, l2, l3, l4, e28, j11_0_eq, j11_1_eq, j11_2_eq, j11_3_eq, j11_4_eq, j11_5_eq, j14_0_eq, j14_1_eq, j14_2_eq, j14_3_eq, j14_4_eq, j14_5_eq, Option.bind_some, res15_eq, res17_eq, res28_eq, if_true, if_false, reduceIte, Int.reduceEq, Int.reduceLE, ge_iff_le, gt_iff_lt, Int.reduceLT, decide_true, decide_false, Bool.false_eq_true]
  exact ⟨_, _, _, _, _, _, rfl, rfl⟩
theorem unit20 (w : Int) (h1 : ¬ w < 1) (h2 : ¬ w > 64) (l1 : evF T 41 15 [.int .i64 w] [] = some ([.int .i64 (Lib.bitLen (w - 1).toNat : Nat)], [])) (l2 : evF T 41 15 [.int .i64 (wrap64 (w + 1))] [] = some ([.int .i64 (Lib.bitLen w.toNat : Nat)], [])) (l3 : evF T 41 17 [.int .i64 w] [] = some ([.int .i64 (Lib.bitLen (w - 1).toNat : Nat)], [])) (l4 : evF T 41 17 [.int .i64 (wrap64 (w + 1))] [] = some ([.int .i64 (Lib.bitLen w.toNat : Nat)], [])) : SameAt 20 w := by
  unfold SameAt
  rw [f11_eq 41, f14_eq 41]
  simp only [h1, h2, l1, l2, l3, l4, e28, j11_0_eq, j11_1_eq, j11_2_eq, j11_3_eq, j11_4_eq, j11_5_eq, j14_0_eq, j14_1_eq, j14_2_eq, j14_3_eq, j14_4_eq, j14_5_eq, Option.bind_some, res15_eq, res17_eq, res28_eq, if_true, if_false, reduceIte, Int.reduceEq, Int.reduceLE, ge_iff_le, gt_iff_lt, Int.reduceLT, decide_true, decide_false, Bool.false_eq_true]
  exact ⟨_, _, _, _, _, _, rfl, rfl⟩
theorem unit21 (w : Int) (h1 : ¬ w < 1) (h2 : ¬ w > 64) (l1 : evF T 41 15 [.int .i64 w] [] = some ([.int .i64 (Lib.bitLen (w - 1).toNat : Nat)], [])) (l2 : evF T 41 15 [.int .i64 (wrap64 (w + 1))] [] = some ([.int .i64 (Lib.bitLen w.toNat : Nat)], [])) (l3 : evF T 41 17 [.int .i64 w] [] = some ([.int .i64 (Lib.bitLen (w - 1).toNat : Nat)], [])) (l4 : evF T 41 17 [.int .i64 (wrap64 (w + 1))] [] = some ([.int .i64 (Lib.bitLen w.toNat : Nat)], [])) : SameAt 21 w := by
  unfold SameAt
  rw [f11_eq 41, f14_eq 41]
  simp only [h1, h2, l1, l2, l3, l4, e28, j11_0_eq, j11_1_eq, j11_2_eq, j11_3_eq, j11_4_eq, j11_5_eq, j14_0_eq, j14_1_eq, j14_2_eq, j14_3_eq, j14_4_eq, j14_5_eq, Option.bind_some, res15_eq, res17_eq, res28_eq, if_true, if_false, reduceIte, Int.reduceEq, Int.reduceLE, ge_iff_le, gt_iff_lt, Int.reduceLT, decide_true, decide_false, Bool.false_eq_true]
  exact ⟨_, _, _, _, _, _, rfl, rfl⟩
theorem unit22 (w : Int) (h1 : ¬ w < 1) (h2 : ¬ w > 64) (l1 : evF T 41 15 [.int .i64 w] [] = some ([.int .i64 (Lib.bitLen (w - 1).toNat : Nat)], [])) (l2 : evF T 41 15 [.int .i64 (wrap64 (w + 1))] [] = some ([.int .i64 (Lib.bitLen w.toNat : Nat)], [])) (l3 : evF T 41 17 [.int .i64 w] [] = some ([.int .i64 (Lib.bitLen (w - 1).toNat : Nat)], [])) (l4 : evF T 41 17 [.int .i64 (wrap64 (w + 1))] [] = some ([.int .i64 (Lib.bitLen w.toNat : Nat)], [])) : SameAt 22 w := by
  unfold SameAt
  rw [f11_eq 41, f14_eq 41]
  simp only [h1, h2, l1, l2, l3, l4, e28, j11_0_eq, j11_1_eq, j11_2_eq, j11_3_eq, j11_4_eq, j11_5_eq, j14_0_eq, j14_1_eq, j14_2_eq, j14_3_eq, j14_4_eq, j14_5_eq, Option.bind_some, res15_eq, res17_eq, res28_eq, if_true, if_false, reduceIte, Int.reduceEq, Int.reduceLE, ge_iff_le, gt_iff_lt, Int.reduceLT, decide_true, decide_false, Bool.false_eq_true]
  exact ⟨_, _, _, _, _, _, rfl, rfl⟩
theorem unit23 (w : Int) (h1 : ¬ w < 1) (h2 : ¬ w > 64) (l1 : evF T 41 15 [.int .i64 w] [] = some ([.int .i64 (Lib.bitLen (w - 1).toNat : Nat)], [])) (l2 : evF T 41 15 [.int .i64 (wrap64 (w + 1))] [] = some ([.int .i64 (Lib.bitLen w.toNat : Nat)], [])) (l3 : evF T 41 17 [.int .i64 w] [] = some ([.int .i64 (Lib.bitLen (w - 1).toNat : Nat)], [])) (l4 : evF T 41 17 [.int .i64 (wrap64 (w + 1))] [] = some ([.int .i64 (Lib.bitLen w.toNat : Nat)], [])) : SameAt 23 w := by
  unfold SameAt
  rw [f11_eq 41, f14_eq 41]
  simp only [h1, h2, l1, l2, l3, l4, e28, j11_0_eq, j11_1_eq, j11_2_eq, j11_3_eq, j11_4_eq, j11_5_eq, j14_0_eq, j14_1_eq, j14_2_eq, j14_3_eq, j14_4_eq, j14_5_eq, Option.bind_some, res15_eq, res17_eq, res28_eq, if_true, if_false, reduceIte, Int.reduceEq, Int.reduceLE, ge_iff_le, gt_iff_lt, Int.reduceLT, decide_true, decide_false, Bool.false_eq_true]
  exact ⟨_, _, _, _, _, _, rfl, rfl⟩
theorem unit24 (w : Int) (h1 : ¬ w < 1) (h2 : ¬ w > 64) (l1 : evF T 41 15 [.int .i64 w] [] = some ([.int .i64 (Lib.bitLen (w - 1).toNat : Nat)], [])) (l2 : evF T 41 15 [.int .i64 (wrap64 (w + 1))] [] = some ([.int .i64 (Lib.bitLen w.toNat : Nat)], [])) (l3 : evF T 41 17 [.int .i64 w] [] = some ([.int .i64 (Lib.bitLen (w - 1).toNat : Nat)], [])) (l4 : evF T 41 17 [.int .i64 (wrap64 (w + 1))] [] = some ([.int .i64 (Lib.bitLen w.toNat : Nat)], [])) : SameAt 24 w := by
  unfold SameAt
  rw [f11_eq 41, f14_eq 41]
  simp only [h1, h2, l1, l2, l3, l4, e28, j11_0_eq, j11_1_eq, j11_2_eq, j11_3_eq, j11_4_eq, j11_5_eq, j14_0_eq, j14_1_eq, j14_2_eq, j14_3_eq, j14_4_eq, j14_5_eq, Option.bind_some, res15_eq, res17_eq, res28_eq, if_true, if_false, reduceIte, Int.reduceEq, Int.reduceLE, ge_iff_le, gt_iff_lt, Int.reduceLT, decide_true, decide_false, Bool.false_eq_true]
  exact ⟨_, _, _, _, _, _, rfl, rfl⟩
theorem unitAt {op : Int} (F : ∀ (w : Int) (h1 : ¬ w < 1) (h2 : ¬ w > 64) (l1 : evF T 41 15 [.int .i64 w] [] = some ([.int .i64 (Lib.bitLen (w - 1).toNat : Nat)], [])) (l2 : evF T 41 15 [.int .i64 (wrap64 (w + 1))] [] = some ([.int .i64 (Lib.bitLen w.toNat : Nat)], [])) (l3 : evF T 41 17 [.int .i64 w] [] = some ([.int .i64 (Lib.bitLen (w - 1).toNat : Nat)], [])) (l4 : evF T 41 17 [.int .i64 (wrap64 (w + 1))] [] = some ([.int .i64 (Lib.bitLen w.toNat : Nat)], [])), SameAt op w) (w : Int) (h0 : 1 ≤ w) (h1 : w ≤ 64) : SameAt op w := by
  have e : wrap64 (w + 1) = w + 1 := w64 (by omega) (by omega)
  have e' : (w + 1 - 1) = w := by omega
  have a2 := lev15 39 (w + 1) (by omega) (by omega)
  have a4 := lev17 (w + 1) (by omega) (by omega)
  rw [e'] at a2 a4
  exact F w (by omega) (by omega) (lev15 39 w h0 (by omega)) (by rw [e]; exact a2) (lev17 w h0 (by omega)) (by rw [e]; exact a4)
end Go.Proofs.Ytmacdopdogodoaa.vm
