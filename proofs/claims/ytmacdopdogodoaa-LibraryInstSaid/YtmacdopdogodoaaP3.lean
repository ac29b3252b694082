import Derived.Test.YtmacdopdogodoaaP2
/- The law's function answers true for every input. -/
set_option linter.all false
namespace Go.Proofs.Ytmacdopdogodoaa.vm
open Go Go.RowKit Go.Vm
theorem awake : evF T 43 10 [] [] = some ([.bool true], []) := by kernel_rfl
theorem thr_all (op a b : Int) (p0 : 1 ≤ op) (p1 : op ≤ 28) (a0 : 1 ≤ a) (a1 : a ≤ 64) (b0 : 1 ≤ b) (b1 : b ≤ 64) : ThrAt op a b := by
  have h : op = 1 ∨ op = 2 ∨ op = 3 ∨ op = 4 ∨ op = 5 ∨ op = 6 ∨ op = 7 ∨ op = 8 ∨ op = 9 ∨ op = 10 ∨ op = 11 ∨ op = 12 ∨ op = 13 ∨ op = 14 ∨ op = 15 ∨ op = 16 ∨ op = 17 ∨ op = 18 ∨ op = 19 ∨ op = 20 ∨ op = 21 ∨ op = 22 ∨ op = 23 ∨ op = 24 ∨ op = 25 ∨ op = 26 ∨ op = 27 ∨ op = 28 := by omega
  rcases h with rfl | rfl | rfl | rfl | rfl | rfl | rfl | rfl | rfl | rfl | rfl | rfl | rfl | rfl | rfl | rfl | rfl | rfl | rfl | rfl | rfl | rfl | rfl | rfl | rfl | rfl | rfl | rfl
  · exact thr1 a b a0 a1 b0 b1
  · exact thr2 a b a0 a1 b0 b1
  · exact thr3 a b a0 a1 b0 b1
  · exact thr4 a b a0 a1 b0 b1
  · exact thr5 a b a0 a1 b0 b1
  · exact thr6 a b a0 a1 b0 b1
  · exact thr7 a b a0 a1 b0 b1
  · exact thr8 a b a0 a1 b0 b1
  · exact thr9 a b a0 a1 b0 b1
  · exact thr10 a b a0 a1 b0 b1
  · exact thr11 a b a0 a1 b0 b1
  · exact thr12 a b a0 a1 b0 b1
  · exact thr13 a b a0 a1 b0 b1
  · exact thr14 a b a0 a1 b0 b1
  · exact thr15 a b a0 a1 b0 b1
  · exact thr16 a b a0 a1 b0 b1
  · exact thr17 a b a0 a1 b0 b1
  · exact thr18 a b a0 a1 b0 b1
  · exact thr19 a b a0 a1 b0 b1
  · exact thr20 a b a0 a1 b0 b1
  · exact thr21 a b a0 a1 b0 b1
  · exact thr22 a b a0 a1 b0 b1
  · exact thr23 a b a0 a1 b0 b1
  · exact thr24 a b a0 a1 b0 b1
  · exact thr25 a b a0 a1 b0 b1
  · exact thr26 a b a0 a1 b0 b1
  · exact thr27 a b a0 a1 b0 b1
  · exact thr28 a b a0 a1 b0 b1
theorem one_mod (x : Int) (n : Int) (hn : 0 < n) (hn' : n ≤ 64) (h0 : 0 ≤ x) (h1 : x ≤ 255) : 1 ≤ wrap64 (1 + (wrap64 x).tmod n) ∧ wrap64 (1 + (wrap64 x).tmod n) ≤ n := by
  rw [w64 (x := x) (by omega) (by omega)]
  have e : x.tmod n = x % n := Int.tmod_eq_emod_of_nonneg h0
  have l0 := Int.emod_nonneg x (show n ≠ 0 by omega)
  have l1 := Int.emod_lt_of_pos x hn
  rw [e, w64 (x := 1 + x % n) (by omega) (by omega)]
  omega
theorem sorted_ok (op x y : Int) (p0 : 1 ≤ op) (p1 : op ≤ 28) (x0 : 1 ≤ x) (x1 : x ≤ 64) (y0 : 1 ≤ y) (y1 : y ≤ 64) :
    (j22_0 42 op x y [] [] [] [] [] [] (0 : Int) (0 : Int) (0 : Int) (0 : Int) []).bind cont = some ([.bool true], []) := by
  rw [j22_0_eq]
  by_cases c : x = y
  · rw [if_pos c]
    refine thr_all op _ _ p0 p1 ?_ ?_ ?_ ?_
    · split <;> omega
    · rw [w64 (x := y - 1) (by omega) (by omega)]; split <;> omega
    · split <;> omega
    · split <;> omega
  · rw [if_neg c]; exact thr_all op x y p0 p1 x0 x1 y0 y1
theorem inst_true (a0 x y : Int) (h0 : 0 ≤ a0) (h1 : a0 ≤ 255) (x0 : 0 ≤ x) (x1 : x ≤ 255) (y0 : 0 ≤ y) (y1 : y ≤ 255) :
    evF T 44 8 [.int .u8 a0, .agg [.int .u8 x, .int .u8 y]] [] = some ([.bool true], []) := by
  obtain ⟨p0, p1⟩ := one_mod a0 28 (by decide) (by decide) h0 h1
  obtain ⟨q0, q1⟩ := one_mod x 64 (by decide) (by decide) x0 x1
  obtain ⟨r0, r1⟩ := one_mod y 64 (by decide) (by decide) y0 y1
  rw [f8_eq 43, awake, Option.bind_some, res10_eq, if_neg (by decide), if_neg (by decide)]
  show (evF T 43 22 _ []).bind cont = _
  rw [f22_eq 42, if_pos (by decide), if_pos (by decide), if_neg (by decide), if_pos (by decide), if_pos (by decide), if_neg (by decide)]
  split
  · exact sorted_ok _ _ _ p0 p1 r0 r1 q0 q1
  · exact sorted_ok _ _ _ p0 p1 q0 q1 r0 r1
end Go.Proofs.Ytmacdopdogodoaa.vm
