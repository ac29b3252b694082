-- Written for this claim by programs of this session (wip/print2 in its repo: a changed printer, a shortener, a packer). Lean checks it.
import Derived.Test.YtpmlbbglekaidaaP0
import Derived.Test.YtpmlbbglekaidaaF12
import Derived.Test.YtpmlbbglekaidaaF30
namespace Go.Proofs.Ytpmlbbglekaidaa.PAll
open Go.RowKit Go.Proofs.YtpmlbbglekaidaaW.PrintWords Go.Proofs.YtpmlbbglekaidaaW.PrintLast Go.Proofs.YtpmlbbglekaidaaW.PrintMore
attribute [local go_sem] max2_int min2_int max_two min_two max_three min_three max_four min_four   -- for this text's walks alone
set_option linter.unusedVariables false
set_option linter.unusedSimpArgs false

/-! ### jacquardref33_settles: function 21 -/
mutual
def jacquardref33_settles.l0 : Nat → Int → List (S44) → Int → List Int → Int → Int → Int → Int → Bool → List (S48) → List (S50) → List (S52) → Option (Bool)
  | 0, _, _, _, _, _, _, _, _, _, _, _, _ => none
  | k + 1, x1, x2, x7, x8, x23, x24, x388000, x388001, x388002, x388003, x388004, x388005 => if x24 < x23 then (if 0 ≤ x24 then (if x24 < (x2.length : Int) then (if 0 ≤ ((rd_T44 x2 x24).f0) then (if ((rd_T44 x2 x24).f0) < (x8.length : Int) then (jacquardref33_settles.l0 k x1 x2 x7 (x8.set (((rd_T44 x2 x24).f0) : Int).toNat ((rd_T44 x2 x24).f1)) x23 (wrap64 (x24 + 1)) x388000 x388001 x388002 x388003 x388004 x388005) else (none)) else (none)) else (none)) else (none)) else (jacquardref33_settles.l1 k x1 x2 x8 (wrap64 (x1 * (wrap64 (x7 + 1)))) (x388003.length : Int) 0 x388000 x388001 x388002 x388003 x388004 x388005)
def jacquardref33_settles.l1 : Nat → Int → List (S44) → List Int → Int → Int → Int → Int → Int → Bool → List (S48) → List (S50) → List (S52) → Option (Bool)
  | 0, _, _, _, _, _, _, _, _, _, _, _, _ => none
  | k + 1, x1, x2, x8, x10, x46, x47, x388000, x388001, x388002, x388003, x388004, x388005 => if x47 < x46 then (if 0 ≤ x47 then (if x47 < (x388003.length : Int) then (jacquardref33_settles.l1 k x1 x2 x8 (wrap64 (x10 + ((rd_T48 x388003 x47).f2))) x46 (wrap64 (x47 + 1)) x388000 x388001 x388002 x388003 x388004 x388005) else (none)) else (none)) else (jacquardref33_settles.l2 k x1 x2 x8 x10 true x388000 x388001 x388002 x388003 x388004 x388005)
def jacquardref33_settles.l2 : Nat → Int → List (S44) → List Int → Int → Bool → Int → Int → Bool → List (S48) → List (S50) → List (S52) → Option (Bool)
  | 0, _, _, _, _, _, _, _, _, _, _, _ => none
  | k + 1, x1, x2, x8, x10, x12, x388000, x388001, x388002, x388003, x388004, x388005 => if x12 = true then (jacquardref33_settles.l3 k x1 x2 x8 x10 false (x388003.length : Int) 0 x388000 x388001 x388002 x388003 x388004 x388005) else (some true)
def jacquardref33_settles.l3 : Nat → Int → List (S44) → List Int → Int → Bool → Int → Int → Int → Int → Bool → List (S48) → List (S50) → List (S52) → Option (Bool)
  | 0, _, _, _, _, _, _, _, _, _, _, _, _, _ => none
  | k + 1, x1, x2, x8, x10, x12, x62, x63, x388000, x388001, x388002, x388003, x388004, x388005 => if x63 < x62 then (if 0 ≤ x63 then (if x63 < (x388003.length : Int) then (if 0 ≤ ((rd_T48 x388003 x63).f0) then (if ((rd_T48 x388003 x63).f0) < (x8.length : Int) then ((jacquardref28_Weight.f ((rd_T48 x388003 x63).f0) ((rd_T48 x388003 x63).f1) ((rd_T48 x388003 x63).f2) ((rd_T48 x388003 x63).f3) x1).bind fun t399 => (if 0 ≤ ((rd_T48 x388003 x63).f1) then (if ((rd_T48 x388003 x63).f1) < (x8.length : Int) then (if (rd x8 ((rd_T48 x388003 x63).f1)) ≥ (wrap64 ((rd x8 ((rd_T48 x388003 x63).f0)) + t399)) then (jacquardref33_settles.l3 k x1 x2 x8 x10 x12 x62 (wrap64 (x63 + 1)) x388000 x388001 x388002 x388003 x388004 x388005) else ((jacquardref33_slot.f k x388000 x388001 x388002 x388003 x388004 x388005 x2 ((rd_T48 x388003 x63).f1)).bind fun t401 => (if t401 ≥ 0 then ((jacquardref33_mod.f (wrap64 (t401 - (wrap64 ((rd x8 ((rd_T48 x388003 x63).f0)) + t399)))) x1).bind fun t402 => (jacquardref33_settles.j4 k x1 x2 x8 x10 (wrap64 ((wrap64 ((rd x8 ((rd_T48 x388003 x63).f0)) + t399)) + t402)) x62 x63 x388000 x388001 x388002 x388003 x388004 x388005 ((rd_T48 x388003 x63).f0) ((rd_T48 x388003 x63).f1) ((rd_T48 x388003 x63).f2) ((rd_T48 x388003 x63).f3))) else (jacquardref33_settles.j4 k x1 x2 x8 x10 (wrap64 ((rd x8 ((rd_T48 x388003 x63).f0)) + t399)) x62 x63 x388000 x388001 x388002 x388003 x388004 x388005 ((rd_T48 x388003 x63).f0) ((rd_T48 x388003 x63).f1) ((rd_T48 x388003 x63).f2) ((rd_T48 x388003 x63).f3))))) else (none)) else (none))) else (none)) else (none)) else (none)) else (none)) else (jacquardref33_settles.l2 k x1 x2 x8 x10 x12 x388000 x388001 x388002 x388003 x388004 x388005)
def jacquardref33_settles.j4 : Nat → Int → List (S44) → List Int → Int → Int → Int → Int → Int → Int → Bool → List (S48) → List (S50) → List (S52) → Int → Int → Int → Int → Option (Bool)
  | 0, _, _, _, _, _, _, _, _, _, _, _, _, _, _, _, _, _ => none
  | k + 1, x1, x2, x8, x10, x15, x62, x63, x388000, x388001, x388002, x388003, x388004, x388005, x398000, x398001, x398002, x398003 => if 0 ≤ x398001 then (if x398001 < (x8.length : Int) then ((some (x8.set (x398001 : Int).toNat x15 : List Int)).bind fun y403 => (if x15 > x10 then (jacquardref33_settles.j5 k x1 x2 y403 x10 true x62 x63 true x388000 x388001 x388002 x388003 x388004 x388005) else ((jacquardref28_Source.f x388000 x388001 x388002 x388003 x388004 x388005).bind fun t404 => (if x398001 = t404 then (jacquardref33_settles.j5 k x1 x2 y403 x10 true x62 x63 (decide (x15 > 0)) x388000 x388001 x388002 x388003 x388004 x388005) else (jacquardref33_settles.j5 k x1 x2 y403 x10 true x62 x63 false x388000 x388001 x388002 x388003 x388004 x388005))))) else (none)) else (none)
def jacquardref33_settles.j5 : Nat → Int → List (S44) → List Int → Int → Bool → Int → Int → Bool → Int → Int → Bool → List (S48) → List (S50) → List (S52) → Option (Bool)
  | 0, _, _, _, _, _, _, _, _, _, _, _, _, _, _ => none
  | k + 1, x1, x2, x8, x10, x12, x62, x63, x119, x388000, x388001, x388002, x388003, x388004, x388005 => if x119 = true then (some false) else (jacquardref33_settles.l3 k x1 x2 x8 x10 x12 x62 (wrap64 (x63 + 1)) x388000 x388001 x388002 x388003 x388004 x388005)
end
def jacquardref33_settles.f (k : Nat) (a0_0 : Int) (a0_1 : Int) (a0_2 : Bool) (l0_3 : List (S48)) (l0_4 : List (S50)) (l0_5 : List (S52)) (a1 : Int) (l2 : List (S44)) : Option (Bool) := (jacquardref28_End.f a0_0 a0_1 a0_2 l0_3 l0_4 l0_5).bind fun t388 => (if 0 ≤ (wrap64 (t388 + 1)) then (if (wrap64 (t388 + 1) : Int).toNat ≤ 35184372088832 then (jacquardref33_settles.l0 k a1 l2 (wrap64 (t388 + 1)) (List.replicate (wrap64 (t388 + 1) : Int).toNat 0) (l2.length : Int) 0 a0_0 a0_1 a0_2 l0_3 l0_4 l0_5) else (none)) else (none))
theorem jacquardref33_settles.mono_l : ∀ k, (∀ y0 y1 y2 y3 y4 y5 y6 y7 y8 y9 y10 y11, LeO (jacquardref33_settles.l0 k y0 y1 y2 y3 y4 y5 y6 y7 y8 y9 y10 y11) (jacquardref33_settles.l0 (k + 1) y0 y1 y2 y3 y4 y5 y6 y7 y8 y9 y10 y11)) ∧ (∀ y0 y1 y2 y3 y4 y5 y6 y7 y8 y9 y10 y11, LeO (jacquardref33_settles.l1 k y0 y1 y2 y3 y4 y5 y6 y7 y8 y9 y10 y11) (jacquardref33_settles.l1 (k + 1) y0 y1 y2 y3 y4 y5 y6 y7 y8 y9 y10 y11)) ∧ (∀ y0 y1 y2 y3 y4 y5 y6 y7 y8 y9 y10, LeO (jacquardref33_settles.l2 k y0 y1 y2 y3 y4 y5 y6 y7 y8 y9 y10) (jacquardref33_settles.l2 (k + 1) y0 y1 y2 y3 y4 y5 y6 y7 y8 y9 y10)) ∧ (∀ y0 y1 y2 y3 y4 y5 y6 y7 y8 y9 y10 y11 y12, LeO (jacquardref33_settles.l3 k y0 y1 y2 y3 y4 y5 y6 y7 y8 y9 y10 y11 y12) (jacquardref33_settles.l3 (k + 1) y0 y1 y2 y3 y4 y5 y6 y7 y8 y9 y10 y11 y12)) ∧ (∀ y0 y1 y2 y3 y4 y5 y6 y7 y8 y9 y10 y11 y12 y13 y14 y15 y16, LeO (jacquardref33_settles.j4 k y0 y1 y2 y3 y4 y5 y6 y7 y8 y9 y10 y11 y12 y13 y14 y15 y16) (jacquardref33_settles.j4 (k + 1) y0 y1 y2 y3 y4 y5 y6 y7 y8 y9 y10 y11 y12 y13 y14 y15 y16)) ∧ (∀ y0 y1 y2 y3 y4 y5 y6 y7 y8 y9 y10 y11 y12 y13, LeO (jacquardref33_settles.j5 k y0 y1 y2 y3 y4 y5 y6 y7 y8 y9 y10 y11 y12 y13) (jacquardref33_settles.j5 (k + 1) y0 y1 y2 y3 y4 y5 y6 y7 y8 y9 y10 y11 y12 y13))
  | 0 => by refine ⟨?_, ?_, ?_, ?_, ?_, ?_⟩ <;> intros <;> intro r h <;> simp [jacquardref33_settles.l0, jacquardref33_settles.l1, jacquardref33_settles.l2, jacquardref33_settles.l3, jacquardref33_settles.j4, jacquardref33_settles.j5] at h
  | k + 1 => by
    obtain ⟨ih0, ih1, ih2, ih3, ih4, ih5⟩ := jacquardref33_settles.mono_l k
    refine ⟨?_, ?_, ?_, ?_, ?_, ?_⟩ <;> intros <;> (first | unfold jacquardref33_settles.l0 | unfold jacquardref33_settles.l1 | unfold jacquardref33_settles.l2 | unfold jacquardref33_settles.l3 | unfold jacquardref33_settles.j4 | unfold jacquardref33_settles.j5) <;> repeat' first | (with_reducible first | apply ih0 | apply ih1 | apply ih2 | apply ih3 | apply ih4 | apply ih5 | apply jacquardref33_slot.mono | exact LeO.refl _ | exact LeO.none _ | refine LeO.ite ?_ ?_ | refine LeO.bind ?_ (fun _ => ?_)) | apply ih0 | apply ih1 | apply ih2 | apply ih3 | apply ih4 | apply ih5 | apply jacquardref33_slot.mono | exact LeO.none _ | refine LeO.ite ?_ ?_ | refine LeO.bind ?_ (fun _ => ?_)
theorem jacquardref33_settles.mono : ∀ a0 a1 a2 a3 a4 a5 a6 a7 k, LeO (jacquardref33_settles.f k a0 a1 a2 a3 a4 a5 a6 a7) (jacquardref33_settles.f (k + 1) a0 a1 a2 a3 a4 a5 a6 a7) := by
 intro a0 a1 a2 a3 a4 a5 a6 a7 k
 obtain ⟨ih0, ih1, ih2, ih3, ih4, ih5⟩ := jacquardref33_settles.mono_l k
 unfold jacquardref33_settles.f
 repeat' first | (with_reducible first | apply ih0 | apply ih1 | apply ih2 | apply ih3 | apply ih4 | apply ih5 | apply jacquardref33_slot.mono | exact LeO.refl _ | exact LeO.none _ | refine LeO.ite ?_ ?_ | refine LeO.bind ?_ (fun _ => ?_)) | apply ih0 | apply ih1 | apply ih2 | apply ih3 | apply ih4 | apply ih5 | apply jacquardref33_slot.mono | exact LeO.none _ | refine LeO.ite ?_ ?_ | refine LeO.bind ?_ (fun _ => ?_)
def jacquardref33_settles.T6 : Bool × List (List Nat × List Nat) := (true, [([], []), ([], []), ([], []), ([1, 2], [1, 2]), ([3], [3]), ([4], [4]), ([], []), ([], []), ([6, 7], [6, 7]), ([8], [8]), ([9], [9]), ([0, 5, 0, 1, 2, 3, 4, 5, 6, 7, 8, 9, 10], [0, 5]), ([11, 10, 0, 1, 2, 3, 4, 5, 6, 7, 8, 9, 10], [10, 11])])
def jacquardref33_settles.B6 : List Nat := [0, 0, 0, 6, 14, 30, 0, 0, 192, 448, 960, 2047, 4095]
theorem jacquardref33_settles.tab6 : rtab .any (opsOf Try.f21 6) = jacquardref33_settles.T6 := by kernel_rfl
theorem jacquardref33_settles.bits6 : waitsOk jacquardref33_settles.T6.2 jacquardref33_settles.B6 = true := by kernel_rfl
def jacquardref33_settles.T21 : Bool × List (List Nat × List Nat) := (true, [([], []), ([], []), ([1], [1]), ([0, 2], [0, 2]), ([3], [3]), ([], []), ([], []), ([5, 6], [5, 6]), ([4, 7], [4, 7]), ([8, 7, 0, 1, 2, 3, 4, 5, 6, 7, 8], [8])])
def jacquardref33_settles.B21 : List Nat := [0, 0, 2, 7, 15, 0, 0, 96, 255, 511]
theorem jacquardref33_settles.tab21 : rtab .any (opsOf Try.f21 21) = jacquardref33_settles.T21 := by kernel_rfl
theorem jacquardref33_settles.bits21 : waitsOk jacquardref33_settles.T21.2 jacquardref33_settles.B21 = true := by kernel_rfl
def jacquardref33_settles.T28 : Bool × List (List Nat × List Nat) := (true, [([], []), ([], []), ([0, 1], [0, 1]), ([2], [2]), ([3], [3]), ([4, 3], [3, 4]), ([3], [3]), ([6, 3, 3], [3, 6]), ([5, 7, 3], [3, 5, 7]), ([8, 7, 3], [3, 8]), ([9], [9]), ([10, 9], [9, 10]), ([9, 11, 3], [3, 9, 11]), ([3, 12], [3, 12])])
def jacquardref33_settles.B28 : List Nat := [0, 0, 3, 7, 15, 31, 15, 79, 255, 511, 1023, 2047, 4095, 8191]
theorem jacquardref33_settles.tab28 : rtab .any (opsOf Try.f21 28) = jacquardref33_settles.T28 := by kernel_rfl
theorem jacquardref33_settles.bits28 : waitsOk jacquardref33_settles.T28.2 jacquardref33_settles.B28 = true := by kernel_rfl
set_option maxHeartbeats 8000000 in
set_option maxRecDepth 100000 in
theorem jacquardref33_settles.calls (k : Nat) (a0_0 : Int) (a0_1 : Int) (a0_2 : Bool) (A0_3 : Option Addr) (c0_3 : Nat) (l0_3 : List (S48)) (A0_4 : Option Addr) (c0_4 : Nat) (l0_4 : List (S50)) (A0_5 : Option Addr) (c0_5 : Nat) (l0_5 : List (S52)) (a1 : Int) (A2 : Option Addr) (c2 : Nat) (l2 : List (S44)) (r : Bool) (w : World) (hr0_3 : Kd.C k48 w A0_3 l0_3.length l0_3) (hc0_3 : l0_3.length ≤ c0_3) (hr0_4 : Kd.C k50 w A0_4 l0_4.length l0_4) (hc0_4 : l0_4.length ≤ c0_4) (hr0_5 : Kd.C k52 w A0_5 l0_5.length l0_5) (hc0_5 : l0_5.length ≤ c0_5) (hr2 : Kd.C k44 w A2 l2.length l2) (hc2 : l2.length ≤ c2) (h : jacquardref33_settles.f k a0_0 a0_1 a0_2 l0_3 l0_4 l0_5 a1 l2 = some r) :
    Calls Try.prog 21 #[.agg #[.int .i64 a0_0, .int .i64 a0_1, .bool a0_2, .slice A0_3 l0_3.length c0_3, .slice A0_4 l0_4.length c0_4, .slice A0_5 l0_5.length c0_5], .int .i64 a1, .slice A2 l2.length c2] w fun e w' => e = .returned (.bool r) ∧ Below w.heap.size w w' := by
 have hu26 := Try.underlying26
 have hu48 := Try.underlying48
 have HR0_3 := Aside0.mk hr0_3
 have HC0_3 := Aside0.mk hc0_3
 clear hr0_3 hc0_3
 have HR0_4 := Aside0.mk hr0_4
 have HC0_4 := Aside0.mk hc0_4
 clear hr0_4 hc0_4
 have HR0_5 := Aside0.mk hr0_5
 have HC0_5 := Aside0.mk hc0_5
 clear hr0_5 hc0_5
 have HR2 := Aside0.mk hr2
 have HC2 := Aside0.mk hc2
 clear hr2 hc2
 have HB := Aside0.mk (Below.refl w.heap.size w)
 have H : ((jacquardref28_End.f a0_0 a0_1 a0_2 l0_3 l0_4 l0_5).bind fun t388 => (if 0 ≤ (wrap64 (t388 + 1)) then (if (wrap64 (t388 + 1) : Int).toNat ≤ 35184372088832 then (jacquardref33_settles.l0 k a1 l2 (wrap64 (t388 + 1)) (List.replicate (wrap64 (t388 + 1) : Int).toNat 0) (l2.length : Int) 0 a0_0 a0_1 a0_2 l0_3 l0_4 l0_5) else (none)) else (none))) = some r := h
 clear h
 replace H := Option.bind_eq_some_iff.mp H
 obtain ⟨t388, A40, H⟩ := H
 replace H : (if 0 ≤ (wrap64 (t388 + 1)) then (if (wrap64 (t388 + 1) : Int).toNat ≤ 35184372088832 then (jacquardref33_settles.l0 k a1 l2 (wrap64 (t388 + 1)) (List.replicate (wrap64 (t388 + 1) : Int).toNat 0) (l2.length : Int) 0 a0_0 a0_1 a0_2 l0_3 l0_4 l0_5) else (none)) else (none)) = some r := H
 have A4 := Aside0.mk A40
 clear A40
 obtain ⟨ji5, hji5⟩ : ∃ j_ : Int, (wrap64 (t388 + 1)) = j_ := ⟨_, rfl⟩
 replace H : (if 0 ≤ (ji5) then (if (ji5 : Int).toNat ≤ 35184372088832 then (jacquardref33_settles.l0 k a1 l2 ji5 (List.replicate (ji5 : Int).toNat 0) (l2.length : Int) 0 a0_0 a0_1 a0_2 l0_3 l0_4 l0_5) else (none)) else (none)) = some r := by first | (rw [hji5] at H; exact H) | (simp only [hji5] at H ⊢; exact H)
 (try rw [hji5] at A4)
 have hji5w : (IntKind.i64.wrap (t388 + 1)) = ji5 := (i64_w _).trans hji5
 by_cases c6 : 0 ≤ (ji5)
 · rw [if_pos c6] at H
   have c6b0 := eq_true c6
   have c6b1 : decide (0 ≤ (ji5)) = true := decide_eq_true c6
   clear c6
   by_cases c7 : (ji5 : Int).toNat ≤ 35184372088832
   · rw [if_pos c7] at H
     have c7b0 := eq_true c7
     have c7b1 : decide ((ji5 : Int).toNat ≤ 35184372088832) = true := decide_eq_true c7
     clear c7
     obtain ⟨y389, hy389⟩ : ∃ y_ : List Int, y_ = (List.replicate (ji5 : Int).toNat 0) := ⟨_, rfl⟩
     replace H : (jacquardref33_settles.l0 k a1 l2 ji5 y389 (l2.length : Int) 0 a0_0 a0_1 a0_2 l0_3 l0_4 l0_5) = some r := by first | (rw [hy389]; with_reducible exact H) | (have H2_ := (Option.bind_some _ _).symm.trans H; rw [hy389]; with_reducible exact H2_) | (have H2_ := (Option.bind_some _ _).symm.trans H; with_reducible exact H2_) | with_reducible exact H | (rw [hy389]; exact H) | exact H
     have Ny389 := Aside0.mk hy389
     clear hy389
     have H' := Aside0.mk H
     clear H
     go_enter Try.func21, Try.ntmps21
     go_wp2_with (first | ((with_reducible refine gate_dst (N := 3) rfl ?_); refine box_event ?hg (N := 3) ?hd (cs := #[.int .i64 a0_0, .int .i64 a0_1, .bool a0_2, .slice A0_3 l0_3.length c0_3, .slice A0_4 l0_4.length c0_4, .slice A0_5 l0_5.length c0_5]) (t := 26) ?hr ?_; (case hd => rfl); (case hg => rfl); (case hr => first | (go_simp; done) | (go_simp; rfl)); intro gb387 hg w8 hbox hb; have n0_ := Aside0.mk (below_step bl_ hb); have n1_ := Aside0.mk (hbox); have n2_ := Aside0.mk (gl_ (w := w) hg); have n3_ := Aside0.mk (gl_ (w := w) hg); clear HB; have HB := n0_; have BK387 := n1_; have GW387 := n2_; have GE387 := n3_; clear n0_ n1_ n2_ n3_; clear hb hbox hg; obtain ⟨hcz9_0, hcz9_1, hcz9_2, hcz9_3, hcz9_4, hcz9_5⟩ := cells6 BK387; obtain ⟨hfz9_0, hfz9_1, hfz9_2, hfz9_3, hfz9_4, hfz9_5⟩ := fz6 BK387) | ((with_reducible refine gate_callee (f := 29) rfl ?_); refine gL_ 18 Try.func29 #[.agg #[.int .i64 a0_0, .int .i64 a0_1, .bool a0_2, .slice A0_3 l0_3.length c0_3, .slice A0_4 l0_4.length c0_4, .slice A0_5 l0_5.length c0_5]] ?_; (with_reducible refine (jacquardref28_End.calls a0_0 a0_1 a0_2 _ _ l0_3 _ _ l0_4 _ _ l0_5 t388 _ ?side1 ?side2 ?side3 ?side4 ?side5 ?side6 A4.out).mono ?_); (case side1 => exact CB_ HR0_3); (case side2 => exact HC0_3.out); (case side3 => exact CB_ HR0_4); (case side4 => exact HC0_4.out); (case side5 => exact CB_ HR0_5); (case side6 => exact HC0_5.out); rintro e w10 ⟨rfl, hb⟩; refine ⟨_, rfl, ?_⟩; have n0_ := Aside0.mk (blk_below (K_ BK387) hb); have n1_ := Aside0.mk (below_step bl_ hb); clear BK387; clear HB; have BK387 := n0_; have HB := n1_; clear n0_ n1_; (try clear hb); (try clear hb2); (try clear hk); (try clear hi)) | ((with_reducible refine gate_dst (N := 21) rfl ?_); refine Kd.R_make (Kd.int .i64) _ 3 rfl (N := 21) rfl 31 _ _ rfl ji5 rfl rfl Try.underlying31 (.int .i64 0) 8 info3 rfl (by decide) (by omega) 0 (ok := fun _ => True) (okp := fun _ => True) rfl (fun _ hk => hk) trivial (of_decide_eq_true (by first | (with_reducible assumption) | assumption)) (Nat.le_trans (Nat.mul_le_mul_right _ (of_decide_eq_true (by first | (with_reducible assumption) | assumption) : ji5.toNat ≤ 35184372088832)) (by omega)) (Below.refl _ _) (Nat.le_refl _) ?_; intro v390 w11 ho12 hb hg_ hnew_; clear hg_ hnew_; (first | rw [← Ny389.out] at ho12 | (simp only [Int.reduceToNat] at ho12; rw [← Ny389.out] at ho12)); have n0_ := Aside0.mk (Kd.R_lower ho12 (below_size bl_)); have n1_ := Aside0.mk (blk_below (K_ BK387) hb); have n2_ := Aside0.mk (below_step bl_ hb); clear BK387; clear HB; have HO391 := n0_; have BK387 := n1_; have HB := n2_; clear n0_ n1_ n2_; clear hb ho12))
     go_loopg [24] k (fun kq v24 w' => ∃ (x8_1 : List Int) (x24_1 : Int), v24 = .int .i64 x24_1 ∧ Aside0 (jacquardref33_settles.l0 kq a1 l2 ji5 x8_1 (l2.length : Int) x24_1 a0_0 a0_1 a0_2 l0_3 l0_4 l0_5 = some r) ∧ Aside0 (kq ≤ k) ∧ Aside0 (Kd.R (Kd.int .i64) 3 w' w.heap.size (fun _ => True) v390 x8_1) ∧ Aside0 (w'.heap[gb387]? = some (.cells #[.int .i64 a0_0, .int .i64 a0_1, .bool a0_2, (.slice A0_3 l0_3.length c0_3), (.slice A0_4 l0_4.length c0_4), (.slice A0_5 l0_5.length c0_5)] 26 (0, 0))) ∧ Aside0 (Below w.heap.size w w'))
     case atStart => exact ⟨(y389), (0), (by first | rfl | (simp; done) | (simp [*]; done)), H', ⟨Nat.le_refl _⟩, ⟨R_ HO391⟩, ⟨K_ BK387⟩, ⟨bl_⟩⟩
     clear H'
     obtain ⟨x8_1, x24_1, rfl, HA, HK1, HO_8, BK387, HB⟩ := hrel
     cases gk with
     | zero => exact absurd HA.out (by simp [jacquardref33_settles.l0])
     | succ k1 => ?_
     have H := HA.out
     clear HA
     simp only [jacquardref33_settles.l0] at H
     by_cases c13 : x24_1 < (l2.length : Int)
     · rw [if_pos c13] at H
       have c13b0 : decide (x24_1 < (l2.length : Int)) = true := decide_eq_true c13
       clear c13
       by_cases c14 : 0 ≤ x24_1
       · rw [if_pos c14] at H
         have c14b0 : decide (0 ≤ x24_1) = true := decide_eq_true c14
         clear c14
         by_cases c15 : x24_1 < (l2.length : Int)
         · rw [if_pos c15] at H
           have c15b0 : decide (x24_1 < (l2.length : Int)) = true := decide_eq_true c15
           clear c15
           by_cases c16 : 0 ≤ ((rd_T44 l2 x24_1).f0)
           · rw [if_pos c16] at H
             have c16b0 : decide (0 ≤ ((rd_T44 l2 x24_1).f0)) = true := decide_eq_true c16
             clear c16
             by_cases c17 : ((rd_T44 l2 x24_1).f0) < (x8_1.length : Int)
             · rw [if_pos c17] at H
               have c17b0 : decide (((rd_T44 l2 x24_1).f0) < (x8_1.length : Int)) = true := decide_eq_true c17
               clear c17
               obtain ⟨y394, hy394⟩ : ∃ y_ : List Int, y_ = (x8_1.set (((rd_T44 l2 x24_1).f0) : Int).toNat ((rd_T44 l2 x24_1).f1)) := ⟨_, rfl⟩
               replace H : (jacquardref33_settles.l0 k1 a1 l2 ji5 y394 (l2.length : Int) (wrap64 (x24_1 + 1)) a0_0 a0_1 a0_2 l0_3 l0_4 l0_5) = some r := by first | (rw [hy394]; with_reducible exact H) | (have H2_ := (Option.bind_some _ _).symm.trans H; rw [hy394]; with_reducible exact H2_) | (have H2_ := (Option.bind_some _ _).symm.trans H; with_reducible exact H2_) | with_reducible exact H | (rw [hy394]; exact H) | exact H
               have Ny394 := Aside0.mk hy394
               clear hy394
               have H' := Aside0.mk H
               clear H
               try go_wp2
               have n0_ := Aside0.mk (Kd.R_drew HO_8.out)
               have n1_ := Aside0.mk (blk_drew BK387.out)
               have n2_ := Aside0.mk (below_drew1 HB.out)
               clear HO_8
               clear BK387
               clear HB
               have HO_8 := n0_
               have BK387 := n1_
               have HB := n2_
               clear n0_ n1_ n2_
               have p392 : 0 ≤ (x24_1 : Int) := of_decide_eq_true (by first | (with_reducible assumption) | assumption)
               have q392 : x24_1 < (l2.length : Int) := of_decide_eq_true (by first | (with_reducible assumption) | assumption)
               obtain ⟨ad392, e392, hx392_0, hx392_1, hx392_2⟩ := at_T44 HR2.out x24_1 p392 q392
               have hw392_2 := hx392_2
               have hw392_1 := hx392_1
               have hw392_0 := hx392_0
               cases e392
               replace hx392_0 := hc_ HB hx392_0
               replace hx392_1 := hc_ HB hx392_1
               replace hx392_2 := hc_ HB hx392_2
               replace p392 := eq_true p392
               replace q392 := eq_true q392
               have p393 : 0 ≤ (x24_1 : Int) := of_decide_eq_true (by first | (with_reducible assumption) | assumption)
               have q393 : x24_1 < (l2.length : Int) := of_decide_eq_true (by first | (with_reducible assumption) | assumption)
               obtain ⟨ad393, e393, hx393_0, hx393_1, hx393_2⟩ := at_T44 HR2.out x24_1 p393 q393
               have hw393_2 := hx393_2
               have hw393_1 := hx393_1
               have hw393_0 := hx393_0
               obtain rfl : ad392 = ad393 := (by injection e393)
               replace hx393_0 := hc_ HB hx393_0
               replace hx393_1 := hc_ HB hx393_1
               replace hx393_2 := hc_ HB hx393_2
               replace p393 := eq_true p393
               replace q393 := eq_true q393
               have p18 : 0 ≤ (((rd_T44 l2 x24_1).f0) : Int) := of_decide_eq_true (by first | (with_reducible assumption) | assumption)
               have q18 : (((rd_T44 l2 x24_1).f0) : Int) < ((x8_1.length : Int) : Int) := of_decide_eq_true (by first | (with_reducible assumption) | assumption)
               obtain ⟨go18, co18, eo18, gb18, gl18, cl18, HG18⟩ := Kd.R_form HO_8.out (by omega)
               (first | cases eo18 | (injection eo18 with ea_ en_ ec_; (first | subst ea_ | (injection ea_ with ea_; subst ea_)); subst ec_; clear en_))
               have GB18 := Aside0.mk gb18
               have GG18 := Aside0.mk HG18
               clear gb18 gl18 HG18
               obtain ⟨hx18_0, hf18_0⟩ := Kd.R_celln 0 HO_8.out (((rd_T44 l2 x24_1).f0) : Int) p18 q18
               replace p18 := eq_true p18
               replace q18 := eq_true q18
               have HP20 := Kd.R_putn HO_8.out (((rd_T44 l2 x24_1).f0) : Int) ((rd_T44 l2 x24_1).f1)
               rw [← Ny394.out] at HP20
               have HQ20 := Aside0.mk HP20
               clear HP20
               refine start_ (n := 13) (S := fun w' => w'.cell? (ad392.add ((x24_1).toNat * 3)) = some (.int .i64 ((rd_T44 l2 x24_1).f0)) ∧ w'.cell? ⟨(ad392.add ((x24_1).toNat * 3)).block, (ad392.add ((x24_1).toNat * 3)).off + 1, none⟩ = some (.int .i64 ((rd_T44 l2 x24_1).f1)) ∧ w'.cell? ⟨(ad392.add ((x24_1).toNat * 3)).block, (ad392.add ((x24_1).toNat * 3)).off + 2, none⟩ = some (.int .i64 ((rd_T44 l2 x24_1).f2)) ∧ w'.cell? (ad392.add ((x24_1).toNat * 3)) = some (.int .i64 ((rd_T44 l2 x24_1).f0)) ∧ w'.cell? ⟨(ad392.add ((x24_1).toNat * 3)).block, (ad392.add ((x24_1).toNat * 3)).off + 1, none⟩ = some (.int .i64 ((rd_T44 l2 x24_1).f1)) ∧ w'.cell? ⟨(ad392.add ((x24_1).toNat * 3)).block, (ad392.add ((x24_1).toNat * 3)).off + 2, none⟩ = some (.int .i64 ((rd_T44 l2 x24_1).f2))) (ds := [12]) (bz 13 0) (by kernel_rfl) rfl rfl ⟨(hc_ HB hw392_0), (hc_ HB hw392_1), (hc_ HB hw392_2), (hc_ HB hw393_0), (hc_ HB hw393_1), (hc_ HB hw393_2)⟩ (fun hHeld => ?_); refine with_tabW jacquardref33_settles.tab6 jacquardref33_settles.bits6 (fun HT_ HW_ => ?_)
               generalize wr.drew = w19 at HO_8 BK387 HB GG18 HQ20 hf18_0 hx18_0 hx392_0 hx392_1 hx392_2 hx393_0 hx393_1 hx393_2 hHeld ⊢
               refine pu_ 0 27 HT_ ?_
               refine pu_ 1 28 HT_ ?_
               refine pu_ 2 29 HT_ ?_
               refine pu_ 3 30 HT_ ?_
               refine pu_ 4 31 HT_ ?_
               refine pu_ 6 33 HT_ ?_
               refine pu_ 7 34 HT_ ?_
               refine pu_ 8 35 HT_ ?_
               refine pu_ 9 36 HT_ ?_
               refine tk_ 5 32 HT_ HW_ hHeld ?_ (hy := by rintro w' ⟨s0, s1, s2, s3, s4, s5⟩; go_simp; with_reducible rfl)
               refine tk_ 10 37 HT_ HW_ hHeld ?_ (hy := by rintro w' ⟨s0, s1, s2, s3, s4, s5⟩; go_simp; with_reducible rfl)
               refine pu_ 11 38 HT_ ?_
               refine la_ 12 none HT_ (fun K hK => ?_)
               refine skip_ (w1 := ?_) (by rfl) rfl ?_ ?_
               rotate_left
               · go_simp
                 rfl
               refine hK.out _ _ ?_
               clear hK K
               refine done_ (done_of HT_.out (by kernel_rfl)) ?_
               try go_wp2
               go_roundg k1
               case measure => have := HK1.out; omega
               case rel => exact ⟨(y394), (wrap64 (x24_1 + 1)), (by first | rfl | (simp; done) | (simp [*]; done)), H', ⟨by have := HK1.out; omega⟩, ⟨by (with_reducible repeat (first | apply Kd.R_alloc | apply Kd.R_drewN | apply Kd.R_drew)); exact HQ20.out⟩, ⟨by (with_reducible repeat (first | refine blk_drewN ?_ _ | refine blk_drew ?_ | refine blk_alloc ?_ _)); refine blk_far ?_ (by have h_ := Kd.R_ne HO_8.out BK387.out (by decide); intro e_; exact h_ (by rw [e_]; rfl)) _; (with_reducible repeat (first | refine blk_drewN ?_ _ | refine blk_drew ?_ | refine blk_alloc ?_ _)); exact BK387.out⟩, ⟨by repeat (first | (with_reducible first | exact HB.out | apply below_alloc | apply pw_below_drewN | apply below_drew1 | refine below_set ?_ GB18.out | refine below_set ?_ GE387.out) | exact HB.out)⟩⟩
             rw [if_neg c17] at H
             exact absurd H (by simp)
           rw [if_neg c16] at H
           exact absurd H (by simp)
         rw [if_neg c15] at H
         exact absurd H (by simp)
       rw [if_neg c14] at H
       exact absurd H (by simp)
     rw [if_neg c13] at H
     have c13b0 : decide (x24_1 < (l2.length : Int)) = false := decide_eq_false c13
     clear c13
     have H' := Aside0.mk H
     clear H
     obtain ⟨hcz21_0, hcz21_1, hcz21_2, hcz21_3, hcz21_4, hcz21_5⟩ := cells6 BK387
     obtain ⟨hfz21_0, hfz21_1, hfz21_2, hfz21_3, hfz21_4, hfz21_5⟩ := fz6 BK387
     go_wp2
     go_loopg [10, 47] k1 (fun kq v10 v47 w' => ∃ (x10_2 : Int) (x47_2 : Int), v10 = .int .i64 x10_2 ∧ v47 = .int .i64 x47_2 ∧ Aside0 (jacquardref33_settles.l1 kq a1 l2 x8_1 x10_2 (l0_3.length : Int) x47_2 a0_0 a0_1 a0_2 l0_3 l0_4 l0_5 = some r) ∧ Aside0 (kq ≤ k1) ∧ Aside0 (Kd.R (Kd.int .i64) 3 w' w.heap.size (fun _ => True) v390 x8_1) ∧ Aside0 (w'.heap[gb387]? = some (.cells #[.int .i64 a0_0, .int .i64 a0_1, .bool a0_2, (.slice A0_3 l0_3.length c0_3), (.slice A0_4 l0_4.length c0_4), (.slice A0_5 l0_5.length c0_5)] 26 (0, 0))) ∧ Aside0 (Below w.heap.size w w'))
     case atStart => exact ⟨(wrap64 (a1 * (wrap64 (ji5 + 1)))), (0), (by first | rfl | (simp; done) | (simp only [← hji5] <;> (first | rfl | simp)) | (simp [*]; done)), (by first | rfl | (simp; done) | (simp [*]; done)), H', ⟨Nat.le_refl _⟩, ⟨R_ HO_8⟩, ⟨K_ BK387⟩, ⟨bl_⟩⟩
     clear H'
     obtain ⟨x10_2, x47_2, rfl, rfl, HA, HK2, HO_8, BK387, HB⟩ := hrel
     cases gk with
     | zero => exact absurd HA.out (by simp [jacquardref33_settles.l1])
     | succ k2 => ?_
     have H := HA.out
     clear HA
     simp only [jacquardref33_settles.l1] at H
     by_cases c22 : x47_2 < (l0_3.length : Int)
     · rw [if_pos c22] at H
       have c22b0 : decide (x47_2 < (l0_3.length : Int)) = true := decide_eq_true c22
       clear c22
       by_cases c23 : 0 ≤ x47_2
       · rw [if_pos c23] at H
         have c23b0 : decide (0 ≤ x47_2) = true := decide_eq_true c23
         clear c23
         by_cases c24 : x47_2 < (l0_3.length : Int)
         · rw [if_pos c24] at H
           have c24b0 : decide (x47_2 < (l0_3.length : Int)) = true := decide_eq_true c24
           clear c24
           have H' := Aside0.mk H
           clear H
           obtain ⟨hcz25_0, hcz25_1, hcz25_2, hcz25_3, hcz25_4, hcz25_5⟩ := cells6 BK387
           obtain ⟨hfz25_0, hfz25_1, hfz25_2, hfz25_3, hfz25_4, hfz25_5⟩ := fz6 BK387
           have p395 : 0 ≤ (x47_2 : Int) := of_decide_eq_true (by first | (with_reducible assumption) | assumption)
           have q395 : x47_2 < (l0_3.length : Int) := of_decide_eq_true (by first | (with_reducible assumption) | assumption)
           obtain ⟨ad395, e395, hx395_0, hx395_1, hx395_2, hx395_3⟩ := at_T48 HR0_3.out x47_2 p395 q395
           cases e395
           replace hx395_0 := hc_ HB hx395_0
           replace hx395_1 := hc_ HB hx395_1
           replace hx395_2 := hc_ HB hx395_2
           replace hx395_3 := hc_ HB hx395_3
           replace p395 := eq_true p395
           replace q395 := eq_true q395
           go_wp2
           go_roundg k2
           case measure => have := HK1.out; have := HK2.out; omega
           case rel => exact ⟨(wrap64 (x10_2 + ((rd_T48 l0_3 x47_2).f2))), (wrap64 (x47_2 + 1)), (by first | rfl | (simp; done) | (simp [*]; done)), (by first | rfl | (simp; done) | (simp [*]; done)), H', ⟨by have := HK1.out; have := HK2.out; omega⟩, ⟨R_ HO_8⟩, ⟨K_ BK387⟩, ⟨bl_⟩⟩
         rw [if_neg c24] at H
         exact absurd H (by simp)
       rw [if_neg c23] at H
       exact absurd H (by simp)
     rw [if_neg c22] at H
     have c22b0 : decide (x47_2 < (l0_3.length : Int)) = false := decide_eq_false c22
     clear c22
     have H' := Aside0.mk H
     clear H
     go_wp2
     go_loopg [12] k2 (fun kq v12 w' => ∃ (x8_3 : List Int) (x12_3 : Bool), v12 = .bool x12_3 ∧ Aside0 (jacquardref33_settles.l2 kq a1 l2 x8_3 x10_2 x12_3 a0_0 a0_1 a0_2 l0_3 l0_4 l0_5 = some r) ∧ Aside0 (kq ≤ k2) ∧ Aside0 (Kd.R (Kd.int .i64) 3 w' w.heap.size (fun _ => True) v390 x8_3) ∧ Aside0 (w'.heap[gb387]? = some (.cells #[.int .i64 a0_0, .int .i64 a0_1, .bool a0_2, (.slice A0_3 l0_3.length c0_3), (.slice A0_4 l0_4.length c0_4), (.slice A0_5 l0_5.length c0_5)] 26 (0, 0))) ∧ Aside0 (Below w.heap.size w w'))
     case atStart => exact ⟨(x8_1), (true), (by first | rfl | (simp; done) | (simp [*]; done)), H', ⟨Nat.le_refl _⟩, ⟨R_ HO_8⟩, ⟨K_ BK387⟩, ⟨bl_⟩⟩
     clear H'
     obtain ⟨x8_3, x12_3, rfl, HA, HK3, HO_8, BK387, HB⟩ := hrel
     cases gk with
     | zero => exact absurd HA.out (by simp [jacquardref33_settles.l2])
     | succ k3 => ?_
     have H := HA.out
     clear HA
     simp only [jacquardref33_settles.l2] at H
     by_cases c26 : x12_3 = true
     · subst c26
       have H1 : (jacquardref33_settles.l3 k3 a1 l2 x8_3 x10_2 false (l0_3.length : Int) 0 a0_0 a0_1 a0_2 l0_3 l0_4 l0_5) = some r := by rw [if_pos rfl] at H; exact H
       clear H
       have H := H1
       clear H1
       have H' := Aside0.mk H
       clear H
       obtain ⟨hcz27_0, hcz27_1, hcz27_2, hcz27_3, hcz27_4, hcz27_5⟩ := cells6 BK387
       obtain ⟨hfz27_0, hfz27_1, hfz27_2, hfz27_3, hfz27_4, hfz27_5⟩ := fz6 BK387
       go_wp2
       go_loopg [12, 63] k3 (fun kq v12 v63 w' => ∃ (x8_4 : List Int) (x12_4 : Bool) (x63_4 : Int), v12 = .bool x12_4 ∧ v63 = .int .i64 x63_4 ∧ Aside0 (jacquardref33_settles.l3 kq a1 l2 x8_4 x10_2 x12_4 (l0_3.length : Int) x63_4 a0_0 a0_1 a0_2 l0_3 l0_4 l0_5 = some r) ∧ Aside0 (kq ≤ k3) ∧ Aside0 (Kd.R (Kd.int .i64) 3 w' w.heap.size (fun _ => True) v390 x8_4) ∧ Aside0 (w'.heap[gb387]? = some (.cells #[.int .i64 a0_0, .int .i64 a0_1, .bool a0_2, (.slice A0_3 l0_3.length c0_3), (.slice A0_4 l0_4.length c0_4), (.slice A0_5 l0_5.length c0_5)] 26 (0, 0))) ∧ Aside0 (Below w.heap.size w w'))
       case atStart => exact ⟨(x8_3), (false), (0), (by first | rfl | (simp; done) | (simp [*]; done)), (by first | rfl | (simp; done) | (simp [*]; done)), H', ⟨Nat.le_refl _⟩, ⟨R_ HO_8⟩, ⟨K_ BK387⟩, ⟨bl_⟩⟩
       clear H'
       obtain ⟨x8_4, x12_4, x63_4, rfl, rfl, HA, HK4, HO_8, BK387, HB⟩ := hrel
       cases gk with
       | zero => exact absurd HA.out (by simp [jacquardref33_settles.l3])
       | succ k4 => ?_
       have H := HA.out
       clear HA
       simp only [jacquardref33_settles.l3] at H
       by_cases c28 : x63_4 < (l0_3.length : Int)
       · rw [if_pos c28] at H
         have c28b0 : decide (x63_4 < (l0_3.length : Int)) = true := decide_eq_true c28
         clear c28
         by_cases c29 : 0 ≤ x63_4
         · rw [if_pos c29] at H
           have c29b0 : decide (0 ≤ x63_4) = true := decide_eq_true c29
           clear c29
           by_cases c30 : x63_4 < (l0_3.length : Int)
           · rw [if_pos c30] at H
             have c30b0 : decide (x63_4 < (l0_3.length : Int)) = true := decide_eq_true c30
             clear c30
             by_cases c31 : 0 ≤ ((rd_T48 l0_3 x63_4).f0)
             · rw [if_pos c31] at H
               have c31b0 : decide (0 ≤ ((rd_T48 l0_3 x63_4).f0)) = true := decide_eq_true c31
               clear c31
               by_cases c32 : ((rd_T48 l0_3 x63_4).f0) < (x8_4.length : Int)
               · rw [if_pos c32] at H
                 have c32b0 : decide (((rd_T48 l0_3 x63_4).f0) < (x8_4.length : Int)) = true := decide_eq_true c32
                 clear c32
                 replace H := Option.bind_eq_some_iff.mp H
                 obtain ⟨t399, A330, H⟩ := H
                 replace H : (if 0 ≤ ((rd_T48 l0_3 x63_4).f1) then (if ((rd_T48 l0_3 x63_4).f1) < (x8_4.length : Int) then (if (rd x8_4 ((rd_T48 l0_3 x63_4).f1)) ≥ (wrap64 ((rd x8_4 ((rd_T48 l0_3 x63_4).f0)) + t399)) then (jacquardref33_settles.l3 k4 a1 l2 x8_4 x10_2 x12_4 (l0_3.length : Int) (wrap64 (x63_4 + 1)) a0_0 a0_1 a0_2 l0_3 l0_4 l0_5) else ((jacquardref33_slot.f k4 a0_0 a0_1 a0_2 l0_3 l0_4 l0_5 l2 ((rd_T48 l0_3 x63_4).f1)).bind fun t401 => (if t401 ≥ 0 then ((jacquardref33_mod.f (wrap64 (t401 - (wrap64 ((rd x8_4 ((rd_T48 l0_3 x63_4).f0)) + t399)))) a1).bind fun t402 => (jacquardref33_settles.j4 k4 a1 l2 x8_4 x10_2 (wrap64 ((wrap64 ((rd x8_4 ((rd_T48 l0_3 x63_4).f0)) + t399)) + t402)) (l0_3.length : Int) x63_4 a0_0 a0_1 a0_2 l0_3 l0_4 l0_5 ((rd_T48 l0_3 x63_4).f0) ((rd_T48 l0_3 x63_4).f1) ((rd_T48 l0_3 x63_4).f2) ((rd_T48 l0_3 x63_4).f3))) else (jacquardref33_settles.j4 k4 a1 l2 x8_4 x10_2 (wrap64 ((rd x8_4 ((rd_T48 l0_3 x63_4).f0)) + t399)) (l0_3.length : Int) x63_4 a0_0 a0_1 a0_2 l0_3 l0_4 l0_5 ((rd_T48 l0_3 x63_4).f0) ((rd_T48 l0_3 x63_4).f1) ((rd_T48 l0_3 x63_4).f2) ((rd_T48 l0_3 x63_4).f3))))) else (none)) else (none)) = some r := H
                 have A33 := Aside0.mk A330
                 clear A330
                 by_cases c34 : 0 ≤ ((rd_T48 l0_3 x63_4).f1)
                 · rw [if_pos c34] at H
                   have c34b0 : decide (0 ≤ ((rd_T48 l0_3 x63_4).f1)) = true := decide_eq_true c34
                   clear c34
                   by_cases c35 : ((rd_T48 l0_3 x63_4).f1) < (x8_4.length : Int)
                   · rw [if_pos c35] at H
                     have c35b0 : decide (((rd_T48 l0_3 x63_4).f1) < (x8_4.length : Int)) = true := decide_eq_true c35
                     clear c35
                     by_cases c36 : (rd x8_4 ((rd_T48 l0_3 x63_4).f1)) ≥ (wrap64 ((rd x8_4 ((rd_T48 l0_3 x63_4).f0)) + t399))
                     · rw [if_pos c36] at H
                       have c36b0 : decide ((wrap64 ((rd x8_4 ((rd_T48 l0_3 x63_4).f0)) + t399)) ≤ (rd x8_4 ((rd_T48 l0_3 x63_4).f1))) = true := decide_eq_true c36
                       clear c36
                       have H' := Aside0.mk H
                       clear H
                       obtain ⟨hcz37_0, hcz37_1, hcz37_2, hcz37_3, hcz37_4, hcz37_5⟩ := cells6 BK387
                       obtain ⟨hfz37_0, hfz37_1, hfz37_2, hfz37_3, hfz37_4, hfz37_5⟩ := fz6 BK387
                       have p396 : 0 ≤ (x63_4 : Int) := of_decide_eq_true (by first | (with_reducible assumption) | assumption)
                       have q396 : x63_4 < (l0_3.length : Int) := of_decide_eq_true (by first | (with_reducible assumption) | assumption)
                       obtain ⟨ad396, e396, hx396_0, hx396_1, hx396_2, hx396_3⟩ := at_T48 HR0_3.out x63_4 p396 q396
                       cases e396
                       replace hx396_0 := hc_ HB hx396_0
                       replace hx396_1 := hc_ HB hx396_1
                       replace hx396_2 := hc_ HB hx396_2
                       replace hx396_3 := hc_ HB hx396_3
                       replace p396 := eq_true p396
                       replace q396 := eq_true q396
                       try go_wp2_with (first | ((with_reducible refine gate_dst (N := 14) rfl ?_); refine box_event ?hg (N := 14) ?hd (cs := #[.int .i64 0, .int .i64 0, .int .i64 0, .int .i64 0]) (t := 48) ?hr ?_; (case hd => rfl); (case hg => rfl); (case hr => first | (go_simp; done) | (go_simp; rfl)); intro gb397 hg w38 hbox hb; have n0_ := Aside0.mk (Kd.R_below (R_ HO_8) hb); have n1_ := Aside0.mk (blk_below (K_ BK387) hb); have n2_ := Aside0.mk (below_step bl_ hb); have n3_ := Aside0.mk (hbox); have n4_ := Aside0.mk (gl_ (w := w) hg); have n5_ := Aside0.mk (gl_ (w := w) hg); have n6_ := Aside0.mk (nl_ hg (K_ BK387)); have n7_ := Aside0.mk (ng_ hg (K_ BK387)); clear HO_8; clear BK387; clear HB; have HO_8 := n0_; have BK387 := n1_; have HB := n2_; have BK397 := n3_; have GW397 := n4_; have GE397 := n5_; have NB387_397 := n6_; have NB397_387 := n7_; clear n0_ n1_ n2_ n3_ n4_ n5_ n6_ n7_; clear hb hbox hg; obtain ⟨hcz40_0, hcz40_1, hcz40_2, hcz40_3⟩ := cells4 BK397; obtain ⟨hfz40_0, hfz40_1, hfz40_2, hfz40_3⟩ := fz4 BK397))
                       have n0_ : Aside0 (Kd.R (Kd.int .i64) 3 ((((w38.setCell ⟨gb397, 0, none⟩ (.int .i64 ((rd_T48 l0_3 x63_4).f0))).setCell ⟨gb397, 1, none⟩ (.int .i64 ((rd_T48 l0_3 x63_4).f1))).setCell ⟨gb397, 2, none⟩ (.int .i64 ((rd_T48 l0_3 x63_4).f2))).setCell ⟨gb397, 3, none⟩ (.int .i64 ((rd_T48 l0_3 x63_4).f3))) w.heap.size (fun _ => True) v390 x8_4) := ⟨by (with_reducible repeat (first | apply Kd.R_alloc | apply Kd.R_drewN | apply Kd.R_drew)); exact Kd.R_mono (Kd.R_far (p := ⟨gb397, 3, none⟩) (Kd.R_far (p := ⟨gb397, 2, none⟩) (Kd.R_far (p := ⟨gb397, 1, none⟩) (Kd.R_far (p := ⟨gb397, 0, none⟩) (Kd.R_types HO_8.out BK397.out (by decide)) (fun _ hk => hk.2) (.int .i64 ((rd_T48 l0_3 x63_4).f0))) (fun _ hk => hk.2) (.int .i64 ((rd_T48 l0_3 x63_4).f1))) (fun _ hk => hk.2) (.int .i64 ((rd_T48 l0_3 x63_4).f2))) (fun _ hk => hk.2) (.int .i64 ((rd_T48 l0_3 x63_4).f3))) (fun _ hk => trivial)⟩
                       have n1_ : Aside0 (((((w38.setCell ⟨gb397, 0, none⟩ (.int .i64 ((rd_T48 l0_3 x63_4).f0))).setCell ⟨gb397, 1, none⟩ (.int .i64 ((rd_T48 l0_3 x63_4).f1))).setCell ⟨gb397, 2, none⟩ (.int .i64 ((rd_T48 l0_3 x63_4).f2))).setCell ⟨gb397, 3, none⟩ (.int .i64 ((rd_T48 l0_3 x63_4).f3))).heap[gb387]? = some (.cells #[.int .i64 a0_0, .int .i64 a0_1, .bool a0_2, .slice (some ad396) l0_3.length c0_3, .slice A0_4 l0_4.length c0_4, .slice A0_5 l0_5.length c0_5] 26 (0, 0))) := ⟨by (with_reducible repeat (first | refine blk_drewN ?_ _ | refine blk_drew ?_ | refine blk_alloc ?_ _)); refine blk_far ?_ NB387_397.out _; (with_reducible repeat (first | refine blk_drewN ?_ _ | refine blk_drew ?_ | refine blk_alloc ?_ _)); refine blk_far ?_ NB387_397.out _; (with_reducible repeat (first | refine blk_drewN ?_ _ | refine blk_drew ?_ | refine blk_alloc ?_ _)); refine blk_far ?_ NB387_397.out _; (with_reducible repeat (first | refine blk_drewN ?_ _ | refine blk_drew ?_ | refine blk_alloc ?_ _)); refine blk_far ?_ NB387_397.out _; (with_reducible repeat (first | refine blk_drewN ?_ _ | refine blk_drew ?_ | refine blk_alloc ?_ _)); exact BK387.out⟩
                       have n2_ : Aside0 (((((w38.setCell ⟨gb397, 0, none⟩ (.int .i64 ((rd_T48 l0_3 x63_4).f0))).setCell ⟨gb397, 1, none⟩ (.int .i64 ((rd_T48 l0_3 x63_4).f1))).setCell ⟨gb397, 2, none⟩ (.int .i64 ((rd_T48 l0_3 x63_4).f2))).setCell ⟨gb397, 3, none⟩ (.int .i64 ((rd_T48 l0_3 x63_4).f3))).heap[gb397]? = some (.cells #[.int .i64 ((rd_T48 l0_3 x63_4).f0), .int .i64 ((rd_T48 l0_3 x63_4).f1), .int .i64 ((rd_T48 l0_3 x63_4).f2), .int .i64 ((rd_T48 l0_3 x63_4).f3)] 48 (0, 0))) := ⟨by (with_reducible repeat (first | refine blk_drewN ?_ _ | refine blk_drew ?_ | refine blk_alloc ?_ _)); refine blk_put (cs := #[.int .i64 ((rd_T48 l0_3 x63_4).f0), .int .i64 ((rd_T48 l0_3 x63_4).f1), .int .i64 ((rd_T48 l0_3 x63_4).f2), .int .i64 0]) ?_ 3 _ rfl; (with_reducible repeat (first | refine blk_drewN ?_ _ | refine blk_drew ?_ | refine blk_alloc ?_ _)); refine blk_put (cs := #[.int .i64 ((rd_T48 l0_3 x63_4).f0), .int .i64 ((rd_T48 l0_3 x63_4).f1), .int .i64 0, .int .i64 0]) ?_ 2 _ rfl; (with_reducible repeat (first | refine blk_drewN ?_ _ | refine blk_drew ?_ | refine blk_alloc ?_ _)); refine blk_put (cs := #[.int .i64 ((rd_T48 l0_3 x63_4).f0), .int .i64 0, .int .i64 0, .int .i64 0]) ?_ 1 _ rfl; (with_reducible repeat (first | refine blk_drewN ?_ _ | refine blk_drew ?_ | refine blk_alloc ?_ _)); refine blk_put (cs := #[.int .i64 0, .int .i64 0, .int .i64 0, .int .i64 0]) ?_ 0 _ rfl; (with_reducible repeat (first | refine blk_drewN ?_ _ | refine blk_drew ?_ | refine blk_alloc ?_ _)); exact BK397.out⟩
                       have n3_ : Aside0 (Below w.heap.size w ((((w38.setCell ⟨gb397, 0, none⟩ (.int .i64 ((rd_T48 l0_3 x63_4).f0))).setCell ⟨gb397, 1, none⟩ (.int .i64 ((rd_T48 l0_3 x63_4).f1))).setCell ⟨gb397, 2, none⟩ (.int .i64 ((rd_T48 l0_3 x63_4).f2))).setCell ⟨gb397, 3, none⟩ (.int .i64 ((rd_T48 l0_3 x63_4).f3)))) := ⟨bl_⟩
                       generalize ((((w38.setCell ⟨gb397, 0, none⟩ (.int .i64 ((rd_T48 l0_3 x63_4).f0))).setCell ⟨gb397, 1, none⟩ (.int .i64 ((rd_T48 l0_3 x63_4).f1))).setCell ⟨gb397, 2, none⟩ (.int .i64 ((rd_T48 l0_3 x63_4).f2))).setCell ⟨gb397, 3, none⟩ (.int .i64 ((rd_T48 l0_3 x63_4).f3))) = w41 at n0_ n1_ n2_ n3_ ⊢
                       have HO_8 := n0_
                       have BK387 := n1_
                       have BK397 := n2_
                       have HB := n3_
                       clear n0_ n1_ n2_ n3_
                       have n0_ := Aside0.mk (Kd.R_drew HO_8.out)
                       have n1_ := Aside0.mk (blk_drew BK387.out)
                       have n2_ := Aside0.mk (blk_drew BK397.out)
                       have n3_ := Aside0.mk (below_drew1 HB.out)
                       clear HO_8
                       clear BK387
                       clear BK397
                       clear HB
                       have HO_8 := n0_
                       have BK387 := n1_
                       have BK397 := n2_
                       have HB := n3_
                       clear n0_ n1_ n2_ n3_
                       obtain ⟨Ao43, co43, eo43⟩ := Kd.R_slice HO_8.out
                       (first | subst eo43 | (injection eo43 with f1_ f2_ f3_; have f4_ := f1_.symm; have f5_ := f3_.symm; clear f1_ f2_ f3_; subst f4_; subst f5_))
                       have p398 : 0 ≤ (((rd_T48 l0_3 x63_4).f0) : Int) := of_decide_eq_true (by first | (with_reducible assumption) | assumption)
                       have q398 : ((rd_T48 l0_3 x63_4).f0) < (x8_4.length : Int) := of_decide_eq_true (by first | (with_reducible assumption) | assumption)
                       obtain ⟨ad398, e398, hx398_0⟩ := Kd.at_int (Kd.R_reads' HO_8.out).2.2 ((rd_T48 l0_3 x63_4).f0) p398 q398
                       cases e398
                       replace p398 := eq_true p398
                       replace q398 := eq_true q398
                       refine start_ (n := 10) (S := fun w' => w'.cell? ⟨gb397, 0, none⟩ = some (.int .i64 ((rd_T48 l0_3 x63_4).f0)) ∧ w'.cell? ⟨gb397, 1, none⟩ = some (.int .i64 ((rd_T48 l0_3 x63_4).f1)) ∧ w'.cell? ⟨gb397, 2, none⟩ = some (.int .i64 ((rd_T48 l0_3 x63_4).f2)) ∧ w'.cell? ⟨gb397, 3, none⟩ = some (.int .i64 ((rd_T48 l0_3 x63_4).f3)) ∧ w'.cell? (ad398.add (((rd_T48 l0_3 x63_4).f0)).toNat) = some (.int .i64 (rd x8_4 ((rd_T48 l0_3 x63_4).f0)))) (ds := []) (bz 10 0) (by kernel_rfl) rfl rfl ⟨(blk_cell BK397.out 0).trans rfl, (blk_cell BK397.out 1).trans rfl, (blk_cell BK397.out 2).trans rfl, (blk_cell BK397.out 3).trans rfl, hx398_0⟩ (fun hHeld => ?_); refine with_tabW jacquardref33_settles.tab21 jacquardref33_settles.bits21 (fun HT_ HW_ => ?_)
                       generalize w41.drew = w42 at HO_8 BK387 BK397 HB hx398_0 hHeld ⊢
                       refine pu_ 0 71 HT_ ?_
                       refine pu_ 1 72 HT_ ?_
                       refine pu_ 6 77 HT_ ?_
                       refine tk_ 2 73 HT_ HW_ hHeld ?_ (hy := by rintro w' ⟨s0, s1, s2, s3, s4⟩; go_simp; with_reducible rfl)
                       refine pu_ 3 74 HT_ ?_
                       refine tk_ 4 75 HT_ HW_ hHeld ?_ (hy := by rintro w' ⟨s0, s1, s2, s3, s4⟩; go_simp; with_reducible rfl)
                       refine tk_ 5 76 HT_ HW_ hHeld ?_ (hy := by rintro w' ⟨s0, s1, s2, s3, s4⟩; go_simp; with_reducible rfl)
                       refine on_ 7 (some 78) HT_ (fun K hK => ?_)
                       refine gs_ Try.func31 #[.agg #[.int .i64 ((rd_T48 l0_3 x63_4).f0), .int .i64 ((rd_T48 l0_3 x63_4).f1), .int .i64 ((rd_T48 l0_3 x63_4).f2), .int .i64 ((rd_T48 l0_3 x63_4).f3)], .int .i64 a1] ?_
                       with_reducible refine (jacquardref28_Weight.calls ((rd_T48 l0_3 x63_4).f0) ((rd_T48 l0_3 x63_4).f1) ((rd_T48 l0_3 x63_4).f2) ((rd_T48 l0_3 x63_4).f3) a1 t399 _ A33.out).mono ?_
                       rintro e w44 ⟨rfl, hb⟩
                       have HS4_ := (hb.cell (World.block_lt_of_cell? _ _ (hHeld.2.2.2.2))).trans (hHeld.2.2.2.2)
                       refine ⟨_, rfl, ?_⟩
                       have n0_ := Aside0.mk (Kd.R_below (R_ HO_8) hb)
                       have n1_ := Aside0.mk (blk_below (K_ BK387) hb)
                       have n2_ := Aside0.mk (blk_below (K_ BK397) hb)
                       have n3_ := Aside0.mk (below_step bl_ hb)
                       clear HO_8
                       clear BK387
                       clear BK397
                       clear HB
                       have HO_8 := n0_
                       have BK387 := n1_
                       have BK397 := n2_
                       have HB := n3_
                       clear n0_ n1_ n2_ n3_
                       refine hK.out _ _ ⟨(blk_cell BK397.out 0).trans rfl, (blk_cell BK397.out 1).trans rfl, (blk_cell BK397.out 2).trans rfl, (blk_cell BK397.out 3).trans rfl, HS4_⟩ (fun hHeld => ?_)
                       clear hK K
                       refine no_ 78 ?_
                       refine pu_ 8 79 HT_ ?_
                       refine pu_ 9 15 HT_ ?_
                       refine done_ (done_of HT_.out (by kernel_rfl)) ?_
                       obtain ⟨hcz45_0, hcz45_1, hcz45_2, hcz45_3⟩ := cells4 BK397
                       obtain ⟨hfz45_0, hfz45_1, hfz45_2, hfz45_3⟩ := fz4 BK397
                       have p400 : 0 ≤ (((rd_T48 l0_3 x63_4).f1) : Int) := of_decide_eq_true (by first | (with_reducible assumption) | assumption)
                       have q400 : ((rd_T48 l0_3 x63_4).f1) < (x8_4.length : Int) := of_decide_eq_true (by first | (with_reducible assumption) | assumption)
                       obtain ⟨ad400, e400, hx400_0⟩ := Kd.at_int (Kd.R_reads' HO_8.out).2.2 ((rd_T48 l0_3 x63_4).f1) p400 q400
                       obtain rfl : ad398 = ad400 := (by injection e400)
                       replace p400 := eq_true p400
                       replace q400 := eq_true q400
                       try go_wp2
                       go_roundg k4
                       case measure => have := HK1.out; have := HK2.out; have := HK3.out; have := HK4.out; omega
                       case rel => exact ⟨(x8_4), (x12_4), (wrap64 (x63_4 + 1)), (by first | rfl | (simp; done) | (simp [*]; done)), (by first | rfl | (simp; done) | (simp [*]; done)), H', ⟨by have := HK1.out; have := HK2.out; have := HK3.out; have := HK4.out; omega⟩, ⟨R_ HO_8⟩, ⟨K_ BK387⟩, ⟨bl_⟩⟩
                     rw [if_neg c36] at H
                     have c36b0 : decide ((wrap64 ((rd x8_4 ((rd_T48 l0_3 x63_4).f0)) + t399)) ≤ (rd x8_4 ((rd_T48 l0_3 x63_4).f1))) = false := decide_eq_false c36
                     clear c36
                     replace H := Option.bind_eq_some_iff.mp H
                     obtain ⟨t401, A460, H⟩ := H
                     replace H : (if t401 ≥ 0 then ((jacquardref33_mod.f (wrap64 (t401 - (wrap64 ((rd x8_4 ((rd_T48 l0_3 x63_4).f0)) + t399)))) a1).bind fun t402 => (jacquardref33_settles.j4 k4 a1 l2 x8_4 x10_2 (wrap64 ((wrap64 ((rd x8_4 ((rd_T48 l0_3 x63_4).f0)) + t399)) + t402)) (l0_3.length : Int) x63_4 a0_0 a0_1 a0_2 l0_3 l0_4 l0_5 ((rd_T48 l0_3 x63_4).f0) ((rd_T48 l0_3 x63_4).f1) ((rd_T48 l0_3 x63_4).f2) ((rd_T48 l0_3 x63_4).f3))) else (jacquardref33_settles.j4 k4 a1 l2 x8_4 x10_2 (wrap64 ((rd x8_4 ((rd_T48 l0_3 x63_4).f0)) + t399)) (l0_3.length : Int) x63_4 a0_0 a0_1 a0_2 l0_3 l0_4 l0_5 ((rd_T48 l0_3 x63_4).f0) ((rd_T48 l0_3 x63_4).f1) ((rd_T48 l0_3 x63_4).f2) ((rd_T48 l0_3 x63_4).f3))) = some r := H
                     have A46 := Aside0.mk A460
                     clear A460
                     have HC47 := Aside0.mk H
                     clear H
                     obtain ⟨hcz48_0, hcz48_1, hcz48_2, hcz48_3, hcz48_4, hcz48_5⟩ := cells6 BK387
                     obtain ⟨hfz48_0, hfz48_1, hfz48_2, hfz48_3, hfz48_4, hfz48_5⟩ := fz6 BK387
                     have p396 : 0 ≤ (x63_4 : Int) := of_decide_eq_true (by first | (with_reducible assumption) | assumption)
                     have q396 : x63_4 < (l0_3.length : Int) := of_decide_eq_true (by first | (with_reducible assumption) | assumption)
                     obtain ⟨ad396, e396, hx396_0, hx396_1, hx396_2, hx396_3⟩ := at_T48 HR0_3.out x63_4 p396 q396
                     cases e396
                     replace hx396_0 := hc_ HB hx396_0
                     replace hx396_1 := hc_ HB hx396_1
                     replace hx396_2 := hc_ HB hx396_2
                     replace hx396_3 := hc_ HB hx396_3
                     replace p396 := eq_true p396
                     replace q396 := eq_true q396
                     try go_wp2_with (first | ((with_reducible refine gate_dst (N := 14) rfl ?_); refine box_event ?hg (N := 14) ?hd (cs := #[.int .i64 0, .int .i64 0, .int .i64 0, .int .i64 0]) (t := 48) ?hr ?_; (case hd => rfl); (case hg => rfl); (case hr => first | (go_simp; done) | (go_simp; rfl)); intro gb397 hg w49 hbox hb; have n0_ := Aside0.mk (Kd.R_below (R_ HO_8) hb); have n1_ := Aside0.mk (blk_below (K_ BK387) hb); have n2_ := Aside0.mk (below_step bl_ hb); have n3_ := Aside0.mk (hbox); have n4_ := Aside0.mk (gl_ (w := w) hg); have n5_ := Aside0.mk (gl_ (w := w) hg); have n6_ := Aside0.mk (nl_ hg (K_ BK387)); have n7_ := Aside0.mk (ng_ hg (K_ BK387)); clear HO_8; clear BK387; clear HB; have HO_8 := n0_; have BK387 := n1_; have HB := n2_; have BK397 := n3_; have GW397 := n4_; have GE397 := n5_; have NB387_397 := n6_; have NB397_387 := n7_; clear n0_ n1_ n2_ n3_ n4_ n5_ n6_ n7_; clear hb hbox hg; obtain ⟨hcz51_0, hcz51_1, hcz51_2, hcz51_3⟩ := cells4 BK397; obtain ⟨hfz51_0, hfz51_1, hfz51_2, hfz51_3⟩ := fz4 BK397))
                     have n0_ : Aside0 (Kd.R (Kd.int .i64) 3 ((((w49.setCell ⟨gb397, 0, none⟩ (.int .i64 ((rd_T48 l0_3 x63_4).f0))).setCell ⟨gb397, 1, none⟩ (.int .i64 ((rd_T48 l0_3 x63_4).f1))).setCell ⟨gb397, 2, none⟩ (.int .i64 ((rd_T48 l0_3 x63_4).f2))).setCell ⟨gb397, 3, none⟩ (.int .i64 ((rd_T48 l0_3 x63_4).f3))) w.heap.size (fun _ => True) v390 x8_4) := ⟨by (with_reducible repeat (first | apply Kd.R_alloc | apply Kd.R_drewN | apply Kd.R_drew)); exact Kd.R_mono (Kd.R_far (p := ⟨gb397, 3, none⟩) (Kd.R_far (p := ⟨gb397, 2, none⟩) (Kd.R_far (p := ⟨gb397, 1, none⟩) (Kd.R_far (p := ⟨gb397, 0, none⟩) (Kd.R_types HO_8.out BK397.out (by decide)) (fun _ hk => hk.2) (.int .i64 ((rd_T48 l0_3 x63_4).f0))) (fun _ hk => hk.2) (.int .i64 ((rd_T48 l0_3 x63_4).f1))) (fun _ hk => hk.2) (.int .i64 ((rd_T48 l0_3 x63_4).f2))) (fun _ hk => hk.2) (.int .i64 ((rd_T48 l0_3 x63_4).f3))) (fun _ hk => trivial)⟩
                     have n1_ : Aside0 (((((w49.setCell ⟨gb397, 0, none⟩ (.int .i64 ((rd_T48 l0_3 x63_4).f0))).setCell ⟨gb397, 1, none⟩ (.int .i64 ((rd_T48 l0_3 x63_4).f1))).setCell ⟨gb397, 2, none⟩ (.int .i64 ((rd_T48 l0_3 x63_4).f2))).setCell ⟨gb397, 3, none⟩ (.int .i64 ((rd_T48 l0_3 x63_4).f3))).heap[gb387]? = some (.cells #[.int .i64 a0_0, .int .i64 a0_1, .bool a0_2, .slice (some ad396) l0_3.length c0_3, .slice A0_4 l0_4.length c0_4, .slice A0_5 l0_5.length c0_5] 26 (0, 0))) := ⟨by (with_reducible repeat (first | refine blk_drewN ?_ _ | refine blk_drew ?_ | refine blk_alloc ?_ _)); refine blk_far ?_ NB387_397.out _; (with_reducible repeat (first | refine blk_drewN ?_ _ | refine blk_drew ?_ | refine blk_alloc ?_ _)); refine blk_far ?_ NB387_397.out _; (with_reducible repeat (first | refine blk_drewN ?_ _ | refine blk_drew ?_ | refine blk_alloc ?_ _)); refine blk_far ?_ NB387_397.out _; (with_reducible repeat (first | refine blk_drewN ?_ _ | refine blk_drew ?_ | refine blk_alloc ?_ _)); refine blk_far ?_ NB387_397.out _; (with_reducible repeat (first | refine blk_drewN ?_ _ | refine blk_drew ?_ | refine blk_alloc ?_ _)); exact BK387.out⟩
                     have n2_ : Aside0 (((((w49.setCell ⟨gb397, 0, none⟩ (.int .i64 ((rd_T48 l0_3 x63_4).f0))).setCell ⟨gb397, 1, none⟩ (.int .i64 ((rd_T48 l0_3 x63_4).f1))).setCell ⟨gb397, 2, none⟩ (.int .i64 ((rd_T48 l0_3 x63_4).f2))).setCell ⟨gb397, 3, none⟩ (.int .i64 ((rd_T48 l0_3 x63_4).f3))).heap[gb397]? = some (.cells #[.int .i64 ((rd_T48 l0_3 x63_4).f0), .int .i64 ((rd_T48 l0_3 x63_4).f1), .int .i64 ((rd_T48 l0_3 x63_4).f2), .int .i64 ((rd_T48 l0_3 x63_4).f3)] 48 (0, 0))) := ⟨by (with_reducible repeat (first | refine blk_drewN ?_ _ | refine blk_drew ?_ | refine blk_alloc ?_ _)); refine blk_put (cs := #[.int .i64 ((rd_T48 l0_3 x63_4).f0), .int .i64 ((rd_T48 l0_3 x63_4).f1), .int .i64 ((rd_T48 l0_3 x63_4).f2), .int .i64 0]) ?_ 3 _ rfl; (with_reducible repeat (first | refine blk_drewN ?_ _ | refine blk_drew ?_ | refine blk_alloc ?_ _)); refine blk_put (cs := #[.int .i64 ((rd_T48 l0_3 x63_4).f0), .int .i64 ((rd_T48 l0_3 x63_4).f1), .int .i64 0, .int .i64 0]) ?_ 2 _ rfl; (with_reducible repeat (first | refine blk_drewN ?_ _ | refine blk_drew ?_ | refine blk_alloc ?_ _)); refine blk_put (cs := #[.int .i64 ((rd_T48 l0_3 x63_4).f0), .int .i64 0, .int .i64 0, .int .i64 0]) ?_ 1 _ rfl; (with_reducible repeat (first | refine blk_drewN ?_ _ | refine blk_drew ?_ | refine blk_alloc ?_ _)); refine blk_put (cs := #[.int .i64 0, .int .i64 0, .int .i64 0, .int .i64 0]) ?_ 0 _ rfl; (with_reducible repeat (first | refine blk_drewN ?_ _ | refine blk_drew ?_ | refine blk_alloc ?_ _)); exact BK397.out⟩
                     have n3_ : Aside0 (Below w.heap.size w ((((w49.setCell ⟨gb397, 0, none⟩ (.int .i64 ((rd_T48 l0_3 x63_4).f0))).setCell ⟨gb397, 1, none⟩ (.int .i64 ((rd_T48 l0_3 x63_4).f1))).setCell ⟨gb397, 2, none⟩ (.int .i64 ((rd_T48 l0_3 x63_4).f2))).setCell ⟨gb397, 3, none⟩ (.int .i64 ((rd_T48 l0_3 x63_4).f3)))) := ⟨bl_⟩
                     generalize ((((w49.setCell ⟨gb397, 0, none⟩ (.int .i64 ((rd_T48 l0_3 x63_4).f0))).setCell ⟨gb397, 1, none⟩ (.int .i64 ((rd_T48 l0_3 x63_4).f1))).setCell ⟨gb397, 2, none⟩ (.int .i64 ((rd_T48 l0_3 x63_4).f2))).setCell ⟨gb397, 3, none⟩ (.int .i64 ((rd_T48 l0_3 x63_4).f3))) = w52 at n0_ n1_ n2_ n3_ ⊢
                     have HO_8 := n0_
                     have BK387 := n1_
                     have BK397 := n2_
                     have HB := n3_
                     clear n0_ n1_ n2_ n3_
                     have n0_ := Aside0.mk (Kd.R_drew HO_8.out)
                     have n1_ := Aside0.mk (blk_drew BK387.out)
                     have n2_ := Aside0.mk (blk_drew BK397.out)
                     have n3_ := Aside0.mk (below_drew1 HB.out)
                     clear HO_8
                     clear BK387
                     clear BK397
                     clear HB
                     have HO_8 := n0_
                     have BK387 := n1_
                     have BK397 := n2_
                     have HB := n3_
                     clear n0_ n1_ n2_ n3_
                     obtain ⟨Ao54, co54, eo54⟩ := Kd.R_slice HO_8.out
                     (first | subst eo54 | (injection eo54 with f1_ f2_ f3_; have f4_ := f1_.symm; have f5_ := f3_.symm; clear f1_ f2_ f3_; subst f4_; subst f5_))
                     have p398 : 0 ≤ (((rd_T48 l0_3 x63_4).f0) : Int) := of_decide_eq_true (by first | (with_reducible assumption) | assumption)
                     have q398 : ((rd_T48 l0_3 x63_4).f0) < (x8_4.length : Int) := of_decide_eq_true (by first | (with_reducible assumption) | assumption)
                     obtain ⟨ad398, e398, hx398_0⟩ := Kd.at_int (Kd.R_reads' HO_8.out).2.2 ((rd_T48 l0_3 x63_4).f0) p398 q398
                     cases e398
                     replace p398 := eq_true p398
                     replace q398 := eq_true q398
                     refine start_ (n := 10) (S := fun w' => w'.cell? ⟨gb397, 0, none⟩ = some (.int .i64 ((rd_T48 l0_3 x63_4).f0)) ∧ w'.cell? ⟨gb397, 1, none⟩ = some (.int .i64 ((rd_T48 l0_3 x63_4).f1)) ∧ w'.cell? ⟨gb397, 2, none⟩ = some (.int .i64 ((rd_T48 l0_3 x63_4).f2)) ∧ w'.cell? ⟨gb397, 3, none⟩ = some (.int .i64 ((rd_T48 l0_3 x63_4).f3)) ∧ w'.cell? (ad398.add (((rd_T48 l0_3 x63_4).f0)).toNat) = some (.int .i64 (rd x8_4 ((rd_T48 l0_3 x63_4).f0)))) (ds := []) (bz 10 0) (by kernel_rfl) rfl rfl ⟨(blk_cell BK397.out 0).trans rfl, (blk_cell BK397.out 1).trans rfl, (blk_cell BK397.out 2).trans rfl, (blk_cell BK397.out 3).trans rfl, hx398_0⟩ (fun hHeld => ?_); refine with_tabW jacquardref33_settles.tab21 jacquardref33_settles.bits21 (fun HT_ HW_ => ?_)
                     generalize w52.drew = w53 at HO_8 BK387 BK397 HB hx398_0 hHeld ⊢
                     refine pu_ 0 71 HT_ ?_
                     refine pu_ 1 72 HT_ ?_
                     refine pu_ 6 77 HT_ ?_
                     refine tk_ 2 73 HT_ HW_ hHeld ?_ (hy := by rintro w' ⟨s0, s1, s2, s3, s4⟩; go_simp; with_reducible rfl)
                     refine pu_ 3 74 HT_ ?_
                     refine tk_ 4 75 HT_ HW_ hHeld ?_ (hy := by rintro w' ⟨s0, s1, s2, s3, s4⟩; go_simp; with_reducible rfl)
                     refine tk_ 5 76 HT_ HW_ hHeld ?_ (hy := by rintro w' ⟨s0, s1, s2, s3, s4⟩; go_simp; with_reducible rfl)
                     refine on_ 7 (some 78) HT_ (fun K hK => ?_)
                     refine gs_ Try.func31 #[.agg #[.int .i64 ((rd_T48 l0_3 x63_4).f0), .int .i64 ((rd_T48 l0_3 x63_4).f1), .int .i64 ((rd_T48 l0_3 x63_4).f2), .int .i64 ((rd_T48 l0_3 x63_4).f3)], .int .i64 a1] ?_
                     with_reducible refine (jacquardref28_Weight.calls ((rd_T48 l0_3 x63_4).f0) ((rd_T48 l0_3 x63_4).f1) ((rd_T48 l0_3 x63_4).f2) ((rd_T48 l0_3 x63_4).f3) a1 t399 _ A33.out).mono ?_
                     rintro e w55 ⟨rfl, hb⟩
                     have HS4_ := (hb.cell (World.block_lt_of_cell? _ _ (hHeld.2.2.2.2))).trans (hHeld.2.2.2.2)
                     refine ⟨_, rfl, ?_⟩
                     have n0_ := Aside0.mk (Kd.R_below (R_ HO_8) hb)
                     have n1_ := Aside0.mk (blk_below (K_ BK387) hb)
                     have n2_ := Aside0.mk (blk_below (K_ BK397) hb)
                     have n3_ := Aside0.mk (below_step bl_ hb)
                     clear HO_8
                     clear BK387
                     clear BK397
                     clear HB
                     have HO_8 := n0_
                     have BK387 := n1_
                     have BK397 := n2_
                     have HB := n3_
                     clear n0_ n1_ n2_ n3_
                     refine hK.out _ _ ⟨(blk_cell BK397.out 0).trans rfl, (blk_cell BK397.out 1).trans rfl, (blk_cell BK397.out 2).trans rfl, (blk_cell BK397.out 3).trans rfl, HS4_⟩ (fun hHeld => ?_)
                     clear hK K
                     refine no_ 78 ?_
                     refine pu_ 8 79 HT_ ?_
                     refine pu_ 9 15 HT_ ?_
                     refine done_ (done_of HT_.out (by kernel_rfl)) ?_
                     obtain ⟨hcz56_0, hcz56_1, hcz56_2, hcz56_3⟩ := cells4 BK397
                     obtain ⟨hfz56_0, hfz56_1, hfz56_2, hfz56_3⟩ := fz4 BK397
                     have p400 : 0 ≤ (((rd_T48 l0_3 x63_4).f1) : Int) := of_decide_eq_true (by first | (with_reducible assumption) | assumption)
                     have q400 : ((rd_T48 l0_3 x63_4).f1) < (x8_4.length : Int) := of_decide_eq_true (by first | (with_reducible assumption) | assumption)
                     obtain ⟨ad400, e400, hx400_0⟩ := Kd.at_int (Kd.R_reads' HO_8.out).2.2 ((rd_T48 l0_3 x63_4).f1) p400 q400
                     obtain rfl : ad398 = ad400 := (by injection e400)
                     replace p400 := eq_true p400
                     replace q400 := eq_true q400
                     obtain ⟨hcz57_0, hcz57_1, hcz57_2, hcz57_3, hcz57_4, hcz57_5⟩ := cells6 BK387
                     obtain ⟨hfz57_0, hfz57_1, hfz57_2, hfz57_3, hfz57_4, hfz57_5⟩ := fz6 BK387
                     go_upto_if 93 with (first | ((with_reducible refine gate_callee (f := 30) rfl ?_); refine gL_ 91 Try.func30 #[.agg #[.int .i64 a0_0, .int .i64 a0_1, .bool a0_2, .slice (some ad396) l0_3.length c0_3, .slice A0_4 l0_4.length c0_4, .slice A0_5 l0_5.length c0_5], .slice A2 l2.length c2, .int .i64 ((rd_T48 l0_3 x63_4).f1)] ?_; (with_reducible refine (jacquardref33_slot.calls k4 a0_0 a0_1 a0_2 _ _ l0_3 _ _ l0_4 _ _ l0_5 _ _ l2 ((rd_T48 l0_3 x63_4).f1) t401 _ ?side1 ?side2 ?side3 ?side4 ?side5 ?side6 ?side7 ?side8 A46.out).mono ?_); (case side1 => exact CB_ HR0_3); (case side2 => exact HC0_3.out); (case side3 => exact CB_ HR0_4); (case side4 => exact HC0_4.out); (case side5 => exact CB_ HR0_5); (case side6 => exact HC0_5.out); (case side7 => exact CB_ HR2); (case side8 => exact HC2.out); rintro e w58 ⟨rfl, hb⟩; refine ⟨_, rfl, ?_⟩; have n0_ := Aside0.mk (Kd.R_below (R_ HO_8) hb); have n1_ := Aside0.mk (blk_below (K_ BK387) hb); have n2_ := Aside0.mk (blk_below (K_ BK397) hb); have n3_ := Aside0.mk (below_step bl_ hb); clear HO_8; clear BK387; clear BK397; clear HB; have HO_8 := n0_; have BK387 := n1_; have BK397 := n2_; have HB := n3_; clear n0_ n1_ n2_ n3_; (try clear hb); (try clear hb2); (try clear hk); (try clear hi)))
                     (try simp only [Act.put, List.setIfInBounds_toArray, List.set_cons_zero, List.set_cons_succ])
                     go_cut [15] (fun v15 wc => ∃ (kq : Nat) (x15_46 : Int), v15 = .int .i64 x15_46 ∧ Aside0 (jacquardref33_settles.j4 kq a1 l2 x8_4 x10_2 x15_46 (l0_3.length : Int) x63_4 a0_0 a0_1 a0_2 l0_3 l0_4 l0_5 ((rd_T48 l0_3 x63_4).f0) ((rd_T48 l0_3 x63_4).f1) ((rd_T48 l0_3 x63_4).f2) ((rd_T48 l0_3 x63_4).f3) = some r) ∧ Aside0 (kq ≤ k4) ∧ Aside0 (Kd.R (Kd.int .i64) 3 wc w.heap.size (fun _ => True) (.slice (some ad398) x8_4.length co54) x8_4) ∧ Aside0 (wc.heap[gb387]? = some (.cells #[.int .i64 a0_0, .int .i64 a0_1, .bool a0_2, (.slice (some ad396) l0_3.length c0_3), (.slice A0_4 l0_4.length c0_4), (.slice A0_5 l0_5.length c0_5)] 26 (0, 0))) ∧ Aside0 (wc.heap[gb397]? = some (.cells #[.int .i64 ((rd_T48 l0_3 x63_4).f0), .int .i64 ((rd_T48 l0_3 x63_4).f1), .int .i64 ((rd_T48 l0_3 x63_4).f2), .int .i64 ((rd_T48 l0_3 x63_4).f3)] 48 (0, 0))) ∧ Aside0 (Below w.heap.size w wc))
                     case first =>
                      have H := HC47.out
                      clear HC47
                      by_cases c59 : t401 ≥ 0
                      · rw [if_pos c59] at H
                        have c59b0 : decide (0 ≤ t401) = true := decide_eq_true c59
                        clear c59
                        (first | rw [c59b0] | (simp only [i64_w, i32_w]; rw [c59b0]) | skip)
                        replace H := Option.bind_eq_some_iff.mp H
                        obtain ⟨t402, A600, H⟩ := H
                        replace H : (jacquardref33_settles.j4 k4 a1 l2 x8_4 x10_2 (wrap64 ((wrap64 ((rd x8_4 ((rd_T48 l0_3 x63_4).f0)) + t399)) + t402)) (l0_3.length : Int) x63_4 a0_0 a0_1 a0_2 l0_3 l0_4 l0_5 ((rd_T48 l0_3 x63_4).f0) ((rd_T48 l0_3 x63_4).f1) ((rd_T48 l0_3 x63_4).f2) ((rd_T48 l0_3 x63_4).f3)) = some r := H
                        have A60 := Aside0.mk A600
                        clear A600
                        have H' := Aside0.mk H
                        clear H
                        go_wp2_with (first | ((with_reducible refine gate_callee (f := 32) rfl ?_); refine gL_ 99 Try.func32 #[.int .i64 (wrap64 (t401 - (wrap64 ((rd x8_4 ((rd_T48 l0_3 x63_4).f0)) + t399)))), .int .i64 a1] ?_; (with_reducible refine (jacquardref33_mod.calls (wrap64 (t401 - (wrap64 ((rd x8_4 ((rd_T48 l0_3 x63_4).f0)) + t399)))) a1 t402 _ A60.out).mono ?_); rintro e w' ⟨rfl, ⟨nd, rfl⟩⟩; refine ⟨_, rfl, ?_⟩))
                        go_meet
                        case rel => exact ⟨_, (wrap64 ((wrap64 ((rd x8_4 ((rd_T48 l0_3 x63_4).f0)) + t399)) + t402)), (by first | rfl | (simp; done) | (simp [*]; done)), H', ⟨by have := HK1.out; have := HK2.out; have := HK3.out; have := HK4.out; first | omega | exact Nat.le_refl _⟩, ⟨R_ HO_8⟩, ⟨K_ BK387⟩, ⟨K_ BK397⟩, ⟨bl_⟩⟩
                      rw [if_neg c59] at H
                      have c59b0 : decide (0 ≤ t401) = false := decide_eq_false c59
                      clear c59
                      (first | rw [c59b0] | (simp only [i64_w, i32_w]; rw [c59b0]) | skip)
                      have H' := Aside0.mk H
                      clear H
                      go_wp2
                      go_meet
                      case rel => exact ⟨_, (wrap64 ((rd x8_4 ((rd_T48 l0_3 x63_4).f0)) + t399)), (by first | rfl | (simp; done) | (simp [*]; done)), H', ⟨by have := HK1.out; have := HK2.out; have := HK3.out; have := HK4.out; first | omega | exact Nat.le_refl _⟩, ⟨R_ HO_8⟩, ⟨K_ BK387⟩, ⟨K_ BK397⟩, ⟨bl_⟩⟩
                     clear HC47
                     obtain ⟨kq, x15_46, rfl, HA, HJ46, HO_8, BK387, BK397, HB⟩ := hcut
                     cases kq with
                     | zero => exact absurd HA.out (by simp [jacquardref33_settles.j4])
                     | succ kj46 => ?_
                     have H := HA.out
                     clear HA
                     simp only [jacquardref33_settles.j4] at H
                     by_cases c61 : 0 ≤ ((rd_T48 l0_3 x63_4).f1)
                     · rw [if_pos c61] at H
                       have c61b0 : decide (0 ≤ ((rd_T48 l0_3 x63_4).f1)) = true := decide_eq_true c61
                       clear c61
                       by_cases c62 : ((rd_T48 l0_3 x63_4).f1) < (x8_4.length : Int)
                       · rw [if_pos c62] at H
                         have c62b0 : decide (((rd_T48 l0_3 x63_4).f1) < (x8_4.length : Int)) = true := decide_eq_true c62
                         clear c62
                         obtain ⟨y403, hy403⟩ : ∃ y_ : List Int, y_ = (x8_4.set (((rd_T48 l0_3 x63_4).f1) : Int).toNat x15_46) := ⟨_, rfl⟩
                         replace H : (if x15_46 > x10_2 then (jacquardref33_settles.j5 kj46 a1 l2 y403 x10_2 true (l0_3.length : Int) x63_4 true a0_0 a0_1 a0_2 l0_3 l0_4 l0_5) else ((jacquardref28_Source.f a0_0 a0_1 a0_2 l0_3 l0_4 l0_5).bind fun t404 => (if ((rd_T48 l0_3 x63_4).f1) = t404 then (jacquardref33_settles.j5 kj46 a1 l2 y403 x10_2 true (l0_3.length : Int) x63_4 (decide (x15_46 > 0)) a0_0 a0_1 a0_2 l0_3 l0_4 l0_5) else (jacquardref33_settles.j5 kj46 a1 l2 y403 x10_2 true (l0_3.length : Int) x63_4 false a0_0 a0_1 a0_2 l0_3 l0_4 l0_5)))) = some r := by first | (rw [hy403]; with_reducible exact H) | (have H2_ := (Option.bind_some _ _).symm.trans H; rw [hy403]; with_reducible exact H2_) | (have H2_ := (Option.bind_some _ _).symm.trans H; with_reducible exact H2_) | with_reducible exact H | (rw [hy403]; exact H) | exact H
                         have Ny403 := Aside0.mk hy403
                         clear hy403
                         have HC64 := Aside0.mk H
                         clear H
                         obtain ⟨hcz66_0, hcz66_1, hcz66_2, hcz66_3⟩ := cells4 BK397
                         obtain ⟨hfz66_0, hfz66_1, hfz66_2, hfz66_3⟩ := fz4 BK397
                         have p63 : 0 ≤ (((rd_T48 l0_3 x63_4).f1) : Int) := of_decide_eq_true (by first | (with_reducible assumption) | assumption)
                         have q63 : (((rd_T48 l0_3 x63_4).f1) : Int) < ((x8_4.length : Int) : Int) := of_decide_eq_true (by first | (with_reducible assumption) | assumption)
                         obtain ⟨go63, co63, eo63, gb63, gl63, cl63, HG63⟩ := Kd.R_form HO_8.out (by omega)
                         (first | cases eo63 | (injection eo63 with ea_ en_ ec_; (first | subst ea_ | (injection ea_ with ea_; subst ea_)); subst ec_; clear en_))
                         have GB63 := Aside0.mk gb63
                         have GG63 := Aside0.mk HG63
                         clear gb63 gl63 HG63
                         (first | simp only [add_plain] at hx398_0 | skip)
                         (first | simp only [add_plain] at hx400_0 | skip)
                         obtain ⟨hx63_0, hf63_0⟩ := Kd.R_celln 0 HO_8.out (((rd_T48 l0_3 x63_4).f1) : Int) p63 q63
                         replace p63 := eq_true p63
                         replace q63 := eq_true q63
                         have HP67 := Kd.R_putg HO_8.out (((rd_T48 l0_3 x63_4).f1) : Int) x15_46
                         go_upto_region 28 with (first | ((with_reducible refine gate_store (t := 3) (p := 105) rfl ?_); refine store_event (t := 3) (p := 105) (v := ?vo_w68) (w1 := (wc.setCell ⟨go63, (((rd_T48 l0_3 x63_4).f1) : Int).toNat, none⟩ (.int .i64 x15_46))) ?hg ?ho ?hn ?hr ?_; (case ho => rfl); (case hg => rfl); (case hn => rfl); (case hr => first | (go_simp; done) | (go_simp; rfl)); intro w68 hw; have hg : wc.grownBy w68 (some go63) := (by rw [hw]; exact HP67.2); have hp_ : Kd.R (Kd.int .i64) 3 w68 w.heap.size (fun _ => True) (.slice (some ⟨go63, 0, none⟩) x8_4.length co54) y403 := (by rw [hw, Ny403.out]; exact HP67.1); clear HP67; have n0_ := Aside0.mk (hp_); have n1_ := Aside0.mk (blk_grown (K_ BK387) hg (Kd.R_ne HO_8.out BK387.out (by decide))); have n2_ := Aside0.mk (blk_grown (K_ BK397) hg (Kd.R_ne HO_8.out BK397.out (by decide))); have n3_ := Aside0.mk ((by rw [hw]; exact below_set (HB.out) GB63.out : Below w.heap.size w w68)); clear HO_8; clear BK387; clear BK397; clear HB; have HO_8 := n0_; have BK387 := n1_; have BK397 := n2_; have HB := n3_; clear n0_ n1_ n2_ n3_; clear hg hw hp_))
                         (try simp only [Act.put, List.setIfInBounds_toArray, List.set_cons_zero, List.set_cons_succ])
                         go_cut [119] (fun v119 wc => ∃ (kq : Nat) (x119_63 : Bool), v119 = .bool x119_63 ∧ Aside0 (jacquardref33_settles.j5 kq a1 l2 y403 x10_2 true (l0_3.length : Int) x63_4 x119_63 a0_0 a0_1 a0_2 l0_3 l0_4 l0_5 = some r) ∧ Aside0 (kq ≤ kj46) ∧ Aside0 (Kd.R (Kd.int .i64) 3 wc w.heap.size (fun _ => True) (.slice (some ⟨go63, 0, none⟩) x8_4.length co54) y403) ∧ Aside0 (wc.heap[gb387]? = some (.cells #[.int .i64 a0_0, .int .i64 a0_1, .bool a0_2, (.slice (some ad396) l0_3.length c0_3), (.slice A0_4 l0_4.length c0_4), (.slice A0_5 l0_5.length c0_5)] 26 (0, 0))) ∧ Aside0 (wc.heap[gb397]? = some (.cells #[.int .i64 ((rd_T48 l0_3 x63_4).f0), .int .i64 ((rd_T48 l0_3 x63_4).f1), .int .i64 ((rd_T48 l0_3 x63_4).f2), .int .i64 ((rd_T48 l0_3 x63_4).f3)] 48 (0, 0))) ∧ Aside0 (Below w.heap.size w wc))
                         case first =>
                          have H := HC64.out
                          clear HC64
                          by_cases c69 : x15_46 > x10_2
                          · rw [if_pos c69] at H
                            have c69b0 : decide (x10_2 < x15_46) = true := decide_eq_true c69
                            clear c69
                            (first | rw [c69b0] | (simp only [i64_w, i32_w]; rw [c69b0]) | skip)
                            have H' := Aside0.mk H
                            clear H
                            try go_wp2
                            have n0_ := Aside0.mk (Kd.R_drew HO_8.out)
                            have n1_ := Aside0.mk (blk_drew BK387.out)
                            have n2_ := Aside0.mk (blk_drew BK397.out)
                            have n3_ := Aside0.mk (below_drew1 HB.out)
                            clear HO_8
                            clear BK387
                            clear BK397
                            clear HB
                            have HO_8 := n0_
                            have BK387 := n1_
                            have BK397 := n2_
                            have HB := n3_
                            clear n0_ n1_ n2_ n3_
                            refine start_ (n := 14) (S := fun w' => True) (ds := []) (bz 14 0) (by kernel_rfl) rfl rfl trivial (fun hHeld => ?_); refine with_tabW jacquardref33_settles.tab28 jacquardref33_settles.bits28 (fun HT_ HW_ => ?_)
                            generalize w68.drew = w70 at HO_8 BK387 BK397 HB hHeld ⊢
                            refine pu_ 0 106 HT_ ?_
                            refine pu_ 1 107 HT_ ?_
                            refine pu_ 2 108 HT_ ?_
                            refine pu_ 3 109 HT_ ?_
                            refine pn_ 4 110 HT_ ?_
                            refine pn_ 5 111 HT_ ?_
                            refine pn_ 6 112 HT_ ?_
                            refine pn_ 7 113 HT_ ?_
                            refine pn_ 8 114 HT_ ?_
                            refine pn_ 9 115 HT_ ?_
                            refine pn_ 10 116 HT_ ?_
                            refine pn_ 11 117 HT_ ?_
                            refine pn_ 12 118 HT_ ?_
                            refine pu_ 13 119 HT_ ?_
                            refine done_ (done_of HT_.out (by kernel_rfl)) ?_
                            try go_wp2
                            go_meet
                            case rel => exact ⟨_, (true), (by first | rfl | (simp; done) | (simp [*]; done)), H', ⟨by have := HK1.out; have := HK2.out; have := HK3.out; have := HK4.out; have := HJ46.out; first | omega | exact Nat.le_refl _⟩, ⟨R_ HO_8⟩, ⟨K_ BK387⟩, ⟨K_ BK397⟩, ⟨bl_⟩⟩
                          rw [if_neg c69] at H
                          have c69b0 : decide (x10_2 < x15_46) = false := decide_eq_false c69
                          clear c69
                          (first | rw [c69b0] | (simp only [i64_w, i32_w]; rw [c69b0]) | skip)
                          replace H := Option.bind_eq_some_iff.mp H
                          obtain ⟨t404, A710, H⟩ := H
                          replace H : (if ((rd_T48 l0_3 x63_4).f1) = t404 then (jacquardref33_settles.j5 kj46 a1 l2 y403 x10_2 true (l0_3.length : Int) x63_4 (decide (x15_46 > 0)) a0_0 a0_1 a0_2 l0_3 l0_4 l0_5) else (jacquardref33_settles.j5 kj46 a1 l2 y403 x10_2 true (l0_3.length : Int) x63_4 false a0_0 a0_1 a0_2 l0_3 l0_4 l0_5)) = some r := H
                          have A71 := Aside0.mk A710
                          clear A710
                          by_cases c72 : ((rd_T48 l0_3 x63_4).f1) = t404
                          · rw [if_pos c72] at H
                            have c72b0 : (((rd_T48 l0_3 x63_4).f1) == t404) = true := beq_iff_eq.mpr c72
                            have c72b1 : (((rd_T48 l0_3 x63_4).f1) != t404) = false := bne_eq_false_iff_eq.mpr c72
                            clear c72
                            have H' := Aside0.mk H
                            clear H
                            try go_wp2
                            have n0_ := Aside0.mk (Kd.R_drew HO_8.out)
                            have n1_ := Aside0.mk (blk_drew BK387.out)
                            have n2_ := Aside0.mk (blk_drew BK397.out)
                            have n3_ := Aside0.mk (below_drew1 HB.out)
                            clear HO_8
                            clear BK387
                            clear BK397
                            clear HB
                            have HO_8 := n0_
                            have BK387 := n1_
                            have BK397 := n2_
                            have HB := n3_
                            clear n0_ n1_ n2_ n3_
                            refine start_ (n := 14) (S := fun w' => w'.cell? ⟨gb397, 0, none⟩ = some (.int .i64 ((rd_T48 l0_3 x63_4).f0)) ∧ w'.cell? ⟨gb397, 1, none⟩ = some (.int .i64 ((rd_T48 l0_3 x63_4).f1)) ∧ w'.cell? ⟨gb397, 2, none⟩ = some (.int .i64 ((rd_T48 l0_3 x63_4).f2)) ∧ w'.cell? ⟨gb397, 3, none⟩ = some (.int .i64 ((rd_T48 l0_3 x63_4).f3)) ∧ w'.cell? ⟨gb387, 0, none⟩ = some (.int .i64 a0_0) ∧ w'.cell? ⟨gb387, 1, none⟩ = some (.int .i64 a0_1) ∧ w'.cell? ⟨gb387, 2, none⟩ = some (.bool a0_2) ∧ w'.cell? ⟨gb387, 3, none⟩ = some (.slice (some ad396) l0_3.length c0_3) ∧ w'.cell? ⟨gb387, 4, none⟩ = some (.slice A0_4 l0_4.length c0_4) ∧ w'.cell? ⟨gb387, 5, none⟩ = some (.slice A0_5 l0_5.length c0_5)) (ds := []) (bz 14 0) (by kernel_rfl) rfl rfl ⟨(blk_cell BK397.out 0).trans rfl, (blk_cell BK397.out 1).trans rfl, (blk_cell BK397.out 2).trans rfl, (blk_cell BK397.out 3).trans rfl, (blk_cell BK387.out 0).trans rfl, (blk_cell BK387.out 1).trans rfl, (blk_cell BK387.out 2).trans rfl, (blk_cell BK387.out 3).trans rfl, (blk_cell BK387.out 4).trans rfl, (blk_cell BK387.out 5).trans rfl⟩ (fun hHeld => ?_); refine with_tabW jacquardref33_settles.tab28 jacquardref33_settles.bits28 (fun HT_ HW_ => ?_)
                            generalize w68.drew = w73 at HO_8 BK387 BK397 HB hHeld ⊢
                            refine pu_ 0 106 HT_ ?_
                            refine pu_ 1 107 HT_ ?_
                            refine pu_ 2 108 HT_ ?_
                            refine pu_ 3 109 HT_ ?_
                            refine pu_ 4 110 HT_ ?_
                            refine tk_ 5 111 HT_ HW_ hHeld ?_ (hy := by rintro w' ⟨s0, s1, s2, s3, s4, s5, s6, s7, s8, s9⟩; go_simp; with_reducible rfl)
                            refine tk_ 6 112 HT_ HW_ hHeld ?_ (hy := by rintro w' ⟨s0, s1, s2, s3, s4, s5, s6, s7, s8, s9⟩; go_simp; with_reducible rfl)
                            refine on_ 7 (some 113) HT_ (fun K hK => ?_)
                            refine gs_ Try.func28 #[.agg #[.int .i64 a0_0, .int .i64 a0_1, .bool a0_2, .slice (some ad396) l0_3.length c0_3, .slice A0_4 l0_4.length c0_4, .slice A0_5 l0_5.length c0_5]] ?_
                            with_reducible refine (jacquardref28_Source.calls a0_0 a0_1 a0_2 _ _ l0_3 _ _ l0_4 _ _ l0_5 t404 _ ?side1 ?side2 ?side3 ?side4 ?side5 ?side6 A71.out).mono ?_
                            (case side1 => exact CB_ HR0_3)
                            (case side2 => exact HC0_3.out)
                            (case side3 => exact CB_ HR0_4)
                            (case side4 => exact HC0_4.out)
                            (case side5 => exact CB_ HR0_5)
                            (case side6 => exact HC0_5.out)
                            rintro e w74 ⟨rfl, hb⟩
                            refine ⟨_, rfl, ?_⟩
                            have n0_ := Aside0.mk (Kd.R_below (R_ HO_8) hb)
                            have n1_ := Aside0.mk (blk_below (K_ BK387) hb)
                            have n2_ := Aside0.mk (blk_below (K_ BK397) hb)
                            have n3_ := Aside0.mk (below_step bl_ hb)
                            clear HO_8
                            clear BK387
                            clear BK397
                            clear HB
                            have HO_8 := n0_
                            have BK387 := n1_
                            have BK397 := n2_
                            have HB := n3_
                            clear n0_ n1_ n2_ n3_
                            refine hK.out _ _ ⟨(blk_cell BK397.out 0).trans rfl, (blk_cell BK397.out 1).trans rfl, (blk_cell BK397.out 2).trans rfl, (blk_cell BK397.out 3).trans rfl, (blk_cell BK387.out 0).trans rfl, (blk_cell BK387.out 1).trans rfl, (blk_cell BK387.out 2).trans rfl, (blk_cell BK387.out 3).trans rfl, (blk_cell BK387.out 4).trans rfl, (blk_cell BK387.out 5).trans rfl⟩ (fun hHeld => ?_)
                            clear hK K
                            refine no_ 113 ?_
                            refine pu_ 8 114 HT_ ?_
                            refine pu_ 9 115 HT_ ?_
                            refine pu_ 10 116 HT_ ?_
                            refine pu_ 11 117 HT_ ?_
                            refine pu_ 12 118 HT_ ?_
                            refine pu_ 13 119 HT_ ?_
                            refine done_ (done_of HT_.out (by kernel_rfl)) ?_
                            try go_wp2
                            go_meet
                            case rel => exact ⟨_, (decide (x15_46 > 0)), (by first | rfl | (simp; done) | (simp [*]; done)), H', ⟨by have := HK1.out; have := HK2.out; have := HK3.out; have := HK4.out; have := HJ46.out; first | omega | exact Nat.le_refl _⟩, ⟨R_ HO_8⟩, ⟨K_ BK387⟩, ⟨K_ BK397⟩, ⟨bl_⟩⟩
                          rw [if_neg c72] at H
                          have c72b0 : (((rd_T48 l0_3 x63_4).f1) == t404) = false := beq_eq_false_iff_ne.mpr c72
                          have c72b1 : (((rd_T48 l0_3 x63_4).f1) != t404) = true := bne_iff_ne.mpr c72
                          have H' := Aside0.mk H
                          clear H
                          try go_wp2
                          have n0_ := Aside0.mk (Kd.R_drew HO_8.out)
                          have n1_ := Aside0.mk (blk_drew BK387.out)
                          have n2_ := Aside0.mk (blk_drew BK397.out)
                          have n3_ := Aside0.mk (below_drew1 HB.out)
                          clear HO_8
                          clear BK387
                          clear BK397
                          clear HB
                          have HO_8 := n0_
                          have BK387 := n1_
                          have BK397 := n2_
                          have HB := n3_
                          clear n0_ n1_ n2_ n3_
                          refine start_ (n := 14) (S := fun w' => w'.cell? ⟨gb397, 0, none⟩ = some (.int .i64 ((rd_T48 l0_3 x63_4).f0)) ∧ w'.cell? ⟨gb397, 1, none⟩ = some (.int .i64 ((rd_T48 l0_3 x63_4).f1)) ∧ w'.cell? ⟨gb397, 2, none⟩ = some (.int .i64 ((rd_T48 l0_3 x63_4).f2)) ∧ w'.cell? ⟨gb397, 3, none⟩ = some (.int .i64 ((rd_T48 l0_3 x63_4).f3)) ∧ w'.cell? ⟨gb387, 0, none⟩ = some (.int .i64 a0_0) ∧ w'.cell? ⟨gb387, 1, none⟩ = some (.int .i64 a0_1) ∧ w'.cell? ⟨gb387, 2, none⟩ = some (.bool a0_2) ∧ w'.cell? ⟨gb387, 3, none⟩ = some (.slice (some ad396) l0_3.length c0_3) ∧ w'.cell? ⟨gb387, 4, none⟩ = some (.slice A0_4 l0_4.length c0_4) ∧ w'.cell? ⟨gb387, 5, none⟩ = some (.slice A0_5 l0_5.length c0_5)) (ds := []) (bz 14 0) (by kernel_rfl) rfl rfl ⟨(blk_cell BK397.out 0).trans rfl, (blk_cell BK397.out 1).trans rfl, (blk_cell BK397.out 2).trans rfl, (blk_cell BK397.out 3).trans rfl, (blk_cell BK387.out 0).trans rfl, (blk_cell BK387.out 1).trans rfl, (blk_cell BK387.out 2).trans rfl, (blk_cell BK387.out 3).trans rfl, (blk_cell BK387.out 4).trans rfl, (blk_cell BK387.out 5).trans rfl⟩ (fun hHeld => ?_); refine with_tabW jacquardref33_settles.tab28 jacquardref33_settles.bits28 (fun HT_ HW_ => ?_)
                          generalize w68.drew = w75 at HO_8 BK387 BK397 HB hHeld ⊢
                          refine pu_ 0 106 HT_ ?_
                          refine pu_ 1 107 HT_ ?_
                          refine pu_ 2 108 HT_ ?_
                          refine pu_ 3 109 HT_ ?_
                          refine pu_ 4 110 HT_ ?_
                          refine tk_ 5 111 HT_ HW_ hHeld ?_ (hy := by rintro w' ⟨s0, s1, s2, s3, s4, s5, s6, s7, s8, s9⟩; go_simp; with_reducible rfl)
                          refine tk_ 6 112 HT_ HW_ hHeld ?_ (hy := by rintro w' ⟨s0, s1, s2, s3, s4, s5, s6, s7, s8, s9⟩; go_simp; with_reducible rfl)
                          refine on_ 7 (some 113) HT_ (fun K hK => ?_)
                          refine gs_ Try.func28 #[.agg #[.int .i64 a0_0, .int .i64 a0_1, .bool a0_2, .slice (some ad396) l0_3.length c0_3, .slice A0_4 l0_4.length c0_4, .slice A0_5 l0_5.length c0_5]] ?_
                          with_reducible refine (jacquardref28_Source.calls a0_0 a0_1 a0_2 _ _ l0_3 _ _ l0_4 _ _ l0_5 t404 _ ?side1 ?side2 ?side3 ?side4 ?side5 ?side6 A71.out).mono ?_
                          (case side1 => exact CB_ HR0_3)
                          (case side2 => exact HC0_3.out)
                          (case side3 => exact CB_ HR0_4)
                          (case side4 => exact HC0_4.out)
                          (case side5 => exact CB_ HR0_5)
                          (case side6 => exact HC0_5.out)
                          rintro e w76 ⟨rfl, hb⟩
                          refine ⟨_, rfl, ?_⟩
                          have n0_ := Aside0.mk (Kd.R_below (R_ HO_8) hb)
                          have n1_ := Aside0.mk (blk_below (K_ BK387) hb)
                          have n2_ := Aside0.mk (blk_below (K_ BK397) hb)
                          have n3_ := Aside0.mk (below_step bl_ hb)
                          clear HO_8
                          clear BK387
                          clear BK397
                          clear HB
                          have HO_8 := n0_
                          have BK387 := n1_
                          have BK397 := n2_
                          have HB := n3_
                          clear n0_ n1_ n2_ n3_
                          refine hK.out _ _ ⟨(blk_cell BK397.out 0).trans rfl, (blk_cell BK397.out 1).trans rfl, (blk_cell BK397.out 2).trans rfl, (blk_cell BK397.out 3).trans rfl, (blk_cell BK387.out 0).trans rfl, (blk_cell BK387.out 1).trans rfl, (blk_cell BK387.out 2).trans rfl, (blk_cell BK387.out 3).trans rfl, (blk_cell BK387.out 4).trans rfl, (blk_cell BK387.out 5).trans rfl⟩ (fun hHeld => ?_)
                          clear hK K
                          refine no_ 113 ?_
                          refine pu_ 8 114 HT_ ?_
                          refine pu_ 9 115 HT_ ?_
                          refine pn_ 10 116 HT_ ?_
                          refine pn_ 11 117 HT_ ?_
                          refine pu_ 12 118 HT_ ?_
                          refine pu_ 13 119 HT_ ?_
                          refine done_ (done_of HT_.out (by kernel_rfl)) ?_
                          try go_wp2
                          go_meet
                          case rel => exact ⟨_, (false), (by first | rfl | (simp; done) | (simp [*]; done)), H', ⟨by have := HK1.out; have := HK2.out; have := HK3.out; have := HK4.out; have := HJ46.out; first | omega | exact Nat.le_refl _⟩, ⟨R_ HO_8⟩, ⟨K_ BK387⟩, ⟨K_ BK397⟩, ⟨bl_⟩⟩
                         clear HC64
                         obtain ⟨kq, x119_63, rfl, HA, HJ63, HO_8, BK387, BK397, HB⟩ := hcut
                         have hl8_63 := (Kd.R_reads' HO_8.out).1
                         rw [hl8_63] at HO_8
                         (try simp only [hl8_63])
                         (try simp only [hl8_63] at BK387)
                         (try simp only [hl8_63] at BK397)
                         cases kq with
                         | zero => exact absurd HA.out (by simp [jacquardref33_settles.j5])
                         | succ kj63 => ?_
                         have H := HA.out
                         clear HA
                         simp only [jacquardref33_settles.j5] at H
                         by_cases c77 : x119_63 = true
                         · subst c77
                           have H1 : (some false) = some r := by rw [if_pos rfl] at H; exact H
                           clear H
                           have H := H1
                           clear H1
                           obtain rfl := Option.some.inj H
                           go_wp2
                           go_ret
                           exact ⟨by first | rfl | (simp [errW_none, errW_some] <;> rfl) | (simp only [← hji5]; first | rfl | (simp [errW_none, errW_some] <;> rfl)) | (simp [*, errW_none, errW_some] <;> rfl), by repeat (first | (with_reducible first | exact HB.out | apply below_alloc | apply pw_below_drewN | apply below_drew1 | refine below_set ?_ GE387.out | refine below_set ?_ GE397.out) | exact HB.out)⟩
                         replace c77 := Bool.eq_false_iff.mpr c77
                         subst c77
                         have H1 : (jacquardref33_settles.l3 kj63 a1 l2 y403 x10_2 true (l0_3.length : Int) (wrap64 (x63_4 + 1)) a0_0 a0_1 a0_2 l0_3 l0_4 l0_5) = some r := by rw [if_neg (show ¬ (false = true) by decide)] at H; exact H
                         clear H
                         have H := H1
                         clear H1
                         have H' := Aside0.mk H
                         clear H
                         go_wp2
                         (try simp only [← hl8_63])
                         go_roundg kj63
                         case measure => have := HK1.out; have := HK2.out; have := HK3.out; have := HK4.out; have := HJ46.out; have := HJ63.out; omega
                         case rel => exact ⟨(y403), (true), (wrap64 (x63_4 + 1)), (by first | rfl | (simp; done) | (simp [*]; done)), (by first | rfl | (simp; done) | (simp [*]; done)), H', ⟨by have := HK1.out; have := HK2.out; have := HK3.out; have := HK4.out; have := HJ46.out; have := HJ63.out; omega⟩, ⟨by (try simp only [hl8_63]); (with_reducible repeat (first | apply Kd.R_alloc | apply Kd.R_drewN | apply Kd.R_drew)); exact HO_8.out⟩, ⟨by (try simp only [hl8_63]); (with_reducible repeat (first | refine blk_drewN ?_ _ | refine blk_drew ?_ | refine blk_alloc ?_ _)); exact BK387.out⟩, ⟨bl_⟩⟩
                       rw [if_neg c62] at H
                       exact absurd H (by simp)
                     rw [if_neg c61] at H
                     exact absurd H (by simp)
                   rw [if_neg c35] at H
                   exact absurd H (by simp)
                 rw [if_neg c34] at H
                 exact absurd H (by simp)
               rw [if_neg c32] at H
               exact absurd H (by simp)
             rw [if_neg c31] at H
             exact absurd H (by simp)
           rw [if_neg c30] at H
           exact absurd H (by simp)
         rw [if_neg c29] at H
         exact absurd H (by simp)
       rw [if_neg c28] at H
       have c28b0 : decide (x63_4 < (l0_3.length : Int)) = false := decide_eq_false c28
       clear c28
       have H' := Aside0.mk H
       clear H
       go_wp2
       go_roundg k4
       case measure => have := HK1.out; have := HK2.out; have := HK3.out; have := HK4.out; omega
       case rel => exact ⟨(x8_4), (x12_4), (by first | rfl | (simp; done) | (simp [*]; done)), H', ⟨by have := HK1.out; have := HK2.out; have := HK3.out; have := HK4.out; omega⟩, ⟨R_ HO_8⟩, ⟨K_ BK387⟩, ⟨bl_⟩⟩
     replace c26 := Bool.eq_false_iff.mpr c26
     subst c26
     have H1 : (some true) = some r := by rw [if_neg (show ¬ (false = true) by decide)] at H; exact H
     clear H
     have H := H1
     clear H1
     obtain rfl := Option.some.inj H
     go_wp2
     go_ret
     exact ⟨by first | rfl | (simp [errW_none, errW_some] <;> rfl) | (simp only [← hji5]; first | rfl | (simp [errW_none, errW_some] <;> rfl)) | (simp [*, errW_none, errW_some] <;> rfl), by repeat (first | (with_reducible first | exact HB.out | apply below_alloc | apply pw_below_drewN | apply below_drew1 | refine below_set ?_ GE387.out) | exact HB.out)⟩
   rw [if_neg c7] at H
   exact absurd H (by simp)
 rw [if_neg c6] at H
 exact absurd H (by simp)
end Go.Proofs.Ytpmlbbglekaidaa.PAll
