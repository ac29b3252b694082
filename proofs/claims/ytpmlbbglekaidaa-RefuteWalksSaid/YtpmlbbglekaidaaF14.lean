-- Written for this claim by programs of this session (wip/print2 in its repo: a changed printer, a shortener, a packer). Lean checks it.
import Derived.Test.YtpmlbbglekaidaaP0
import Derived.Test.YtpmlbbglekaidaaF30
namespace Go.Proofs.Ytpmlbbglekaidaa.PAll
open Go.RowKit Go.Proofs.YtpmlbbglekaidaaW.PrintWords Go.Proofs.YtpmlbbglekaidaaW.PrintLast Go.Proofs.YtpmlbbglekaidaaW.PrintMore
attribute [local go_sem] max2_int min2_int max_two min_two max_three min_three max_four min_four   -- for this text's walks alone
set_option linter.unusedVariables false
set_option linter.unusedSimpArgs false

/-! ### jacquardref33_Walk: function 14 -/
mutual
def jacquardref33_Walk.l0 : Nat → Int → List (S44) → List Int → Bool → Int → Int → Int → Int → Bool → List (S48) → List (S50) → List (S52) → Option (Int × Bool)
  | 0, _, _, _, _, _, _, _, _, _, _, _, _ => none
  | k + 1, x1, x2, x3, x10, x22, x23, x275000, x275001, x275002, x275003, x275004, x275005 => if x23 < x22 then (if 0 ≤ x23 then (if x23 < (x3.length : Int) then (if (rd x3 x23) < 0 then (jacquardref33_Walk.j1 k x1 x2 x3 x10 x23 x22 x23 true x275000 x275001 x275002 x275003 x275004 x275005) else (jacquardref33_Walk.j1 k x1 x2 x3 x10 x23 x22 x23 (decide ((rd x3 x23) ≥ (x275003.length : Int))) x275000 x275001 x275002 x275003 x275004 x275005)) else (none)) else (none)) else (jacquardref33_Walk.l1 k x1 x2 x3 x10 (x3.length : Int) 0 x275000 x275001 x275002 x275003 x275004 x275005)
def jacquardref33_Walk.j1 : Nat → Int → List (S44) → List Int → Bool → Int → Int → Int → Bool → Int → Int → Bool → List (S48) → List (S50) → List (S52) → Option (Int × Bool)
  | 0, _, _, _, _, _, _, _, _, _, _, _, _, _, _ => none
  | k + 1, x1, x2, x3, x10, x11, x22, x23, x40, x275000, x275001, x275002, x275003, x275004, x275005 => if x40 = true then (some (0, false)) else (if x10 = true then (jacquardref33_Walk.l0 k x1 x2 x3 true x22 (wrap64 (x23 + 1)) x275000 x275001 x275002 x275003 x275004 x275005) else (if 0 ≤ x11 then (if x11 < (x3.length : Int) then (if 0 ≤ (rd x3 x11) then (if (rd x3 x11) < (x275003.length : Int) then ((jacquardref33_slot.f k x275000 x275001 x275002 x275003 x275004 x275005 x2 ((rd_T48 x275003 (rd x3 x11)).f0)).bind fun t279 => (jacquardref33_Walk.l0 k x1 x2 x3 (decide (t279 ≥ 0)) x22 (wrap64 (x23 + 1)) x275000 x275001 x275002 x275003 x275004 x275005)) else (none)) else (none)) else (none)) else (none)))
def jacquardref33_Walk.l1 : Nat → Int → List (S44) → List Int → Bool → Int → Int → Int → Int → Bool → List (S48) → List (S50) → List (S52) → Option (Int × Bool)
  | 0, _, _, _, _, _, _, _, _, _, _, _, _ => none
  | k + 1, x1, x2, x3, x10, x59, x60, x275000, x275001, x275002, x275003, x275004, x275005 => if x60 < x59 then (if 0 ≤ x60 then (if x60 < (x3.length : Int) then (if 0 ≤ (rd x3 x60) then (if (rd x3 x60) < (x275003.length : Int) then (if (x3.length : Int) = 0 then (none) else (if 0 ≤ (Int.tmod (wrap64 (x60 + 1)) (x3.length : Int)) then (if (Int.tmod (wrap64 (x60 + 1)) (x3.length : Int)) < (x3.length : Int) then (if 0 ≤ (rd x3 (Int.tmod (wrap64 (x60 + 1)) (x3.length : Int))) then (if (rd x3 (Int.tmod (wrap64 (x60 + 1)) (x3.length : Int))) < (x275003.length : Int) then (if ((rd_T48 x275003 (rd x3 x60)).f1) = ((rd_T48 x275003 (rd x3 (Int.tmod (wrap64 (x60 + 1)) (x3.length : Int)))).f0) then (jacquardref33_Walk.l1 k x1 x2 x3 x10 x59 (wrap64 (x60 + 1)) x275000 x275001 x275002 x275003 x275004 x275005) else (some (0, false))) else (none)) else (none)) else (none)) else (none))) else (none)) else (none)) else (none)) else (none)) else (if 0 < (x3.length : Int) then (if 0 ≤ (rd x3 0) then (if (rd x3 0) < (x275003.length : Int) then ((jacquardref33_slot.f k x275000 x275001 x275002 x275003 x275004 x275005 x2 ((rd_T48 x275003 (rd x3 0)).f0)).bind fun t286 => (if x10 = true then (jacquardref33_Walk.j3 k x1 x2 x3 t286 (decide (t286 < 0)) x275000 x275001 x275002 x275003 x275004 x275005) else (jacquardref33_Walk.j3 k x1 x2 x3 t286 false x275000 x275001 x275002 x275003 x275004 x275005))) else (none)) else (none)) else (none))
def jacquardref33_Walk.j3 : Nat → Int → List (S44) → List Int → Int → Bool → Int → Int → Bool → List (S48) → List (S50) → List (S52) → Option (Int × Bool)
  | 0, _, _, _, _, _, _, _, _, _, _, _ => none
  | k + 1, x1, x2, x3, x13, x102, x275000, x275001, x275002, x275003, x275004, x275005 => if x102 = true then (some (0, false)) else (jacquardref33_Walk.l2 k x1 x2 x3 x13 0 (x3.length : Int) 0 x275000 x275001 x275002 x275003 x275004 x275005)
def jacquardref33_Walk.l2 : Nat → Int → List (S44) → List Int → Int → Int → Int → Int → Int → Int → Bool → List (S48) → List (S50) → List (S52) → Option (Int × Bool)
  | 0, _, _, _, _, _, _, _, _, _, _, _, _, _ => none
  | k + 1, x1, x2, x3, x13, x14, x104, x105, x275000, x275001, x275002, x275003, x275004, x275005 => if x105 < x104 then (if 0 ≤ x105 then (if x105 < (x3.length : Int) then (if 0 ≤ (rd x3 x105) then (if (rd x3 x105) < (x275003.length : Int) then ((jacquardref28_Weight.f ((rd_T48 x275003 (rd x3 x105)).f0) ((rd_T48 x275003 (rd x3 x105)).f1) ((rd_T48 x275003 (rd x3 x105)).f2) ((rd_T48 x275003 (rd x3 x105)).f3) x1).bind fun t290 => ((jacquardref33_slot.f k x275000 x275001 x275002 x275003 x275004 x275005 x2 ((rd_T48 x275003 (rd x3 x105)).f1)).bind fun t291 => (if t291 ≥ 0 then ((jacquardref33_mod.f (wrap64 ((wrap64 (t291 - x13)) - (wrap64 (x14 + t290)))) x1).bind fun t292 => (jacquardref33_Walk.l2 k x1 x2 x3 x13 (wrap64 ((wrap64 (x14 + t290)) + t292)) x104 (wrap64 (x105 + 1)) x275000 x275001 x275002 x275003 x275004 x275005)) else (jacquardref33_Walk.l2 k x1 x2 x3 x13 (wrap64 (x14 + t290)) x104 (wrap64 (x105 + 1)) x275000 x275001 x275002 x275003 x275004 x275005)))) else (none)) else (none)) else (none)) else (none)) else (some (x14, true))
end
def jacquardref33_Walk.f (k : Nat) (a0_0 : Int) (a0_1 : Int) (a0_2 : Bool) (l0_3 : List (S48)) (l0_4 : List (S50)) (l0_5 : List (S52)) (a1 : Int) (l2 : List (S44)) (l3 : List Int) : Option (Int × Bool) := if (l3.length : Int) = 0 then (some (0, false)) else (jacquardref33_Walk.l0 k a1 l2 l3 false (l3.length : Int) 0 a0_0 a0_1 a0_2 l0_3 l0_4 l0_5)
theorem jacquardref33_Walk.mono_l : ∀ k, (∀ y0 y1 y2 y3 y4 y5 y6 y7 y8 y9 y10 y11, LeO (jacquardref33_Walk.l0 k y0 y1 y2 y3 y4 y5 y6 y7 y8 y9 y10 y11) (jacquardref33_Walk.l0 (k + 1) y0 y1 y2 y3 y4 y5 y6 y7 y8 y9 y10 y11)) ∧ (∀ y0 y1 y2 y3 y4 y5 y6 y7 y8 y9 y10 y11 y12 y13, LeO (jacquardref33_Walk.j1 k y0 y1 y2 y3 y4 y5 y6 y7 y8 y9 y10 y11 y12 y13) (jacquardref33_Walk.j1 (k + 1) y0 y1 y2 y3 y4 y5 y6 y7 y8 y9 y10 y11 y12 y13)) ∧ (∀ y0 y1 y2 y3 y4 y5 y6 y7 y8 y9 y10 y11, LeO (jacquardref33_Walk.l1 k y0 y1 y2 y3 y4 y5 y6 y7 y8 y9 y10 y11) (jacquardref33_Walk.l1 (k + 1) y0 y1 y2 y3 y4 y5 y6 y7 y8 y9 y10 y11)) ∧ (∀ y0 y1 y2 y3 y4 y5 y6 y7 y8 y9 y10, LeO (jacquardref33_Walk.j3 k y0 y1 y2 y3 y4 y5 y6 y7 y8 y9 y10) (jacquardref33_Walk.j3 (k + 1) y0 y1 y2 y3 y4 y5 y6 y7 y8 y9 y10)) ∧ (∀ y0 y1 y2 y3 y4 y5 y6 y7 y8 y9 y10 y11 y12, LeO (jacquardref33_Walk.l2 k y0 y1 y2 y3 y4 y5 y6 y7 y8 y9 y10 y11 y12) (jacquardref33_Walk.l2 (k + 1) y0 y1 y2 y3 y4 y5 y6 y7 y8 y9 y10 y11 y12))
  | 0 => by refine ⟨?_, ?_, ?_, ?_, ?_⟩ <;> intros <;> intro r h <;> simp [jacquardref33_Walk.l0, jacquardref33_Walk.j1, jacquardref33_Walk.l1, jacquardref33_Walk.j3, jacquardref33_Walk.l2] at h
  | k + 1 => by
    obtain ⟨ih0, ih1, ih2, ih3, ih4⟩ := jacquardref33_Walk.mono_l k
    refine ⟨?_, ?_, ?_, ?_, ?_⟩ <;> intros <;> (first | unfold jacquardref33_Walk.l0 | unfold jacquardref33_Walk.j1 | unfold jacquardref33_Walk.l1 | unfold jacquardref33_Walk.j3 | unfold jacquardref33_Walk.l2) <;> repeat' first | (with_reducible first | apply ih0 | apply ih1 | apply ih2 | apply ih3 | apply ih4 | apply jacquardref33_slot.mono | exact LeO.refl _ | exact LeO.none _ | refine LeO.ite ?_ ?_ | refine LeO.bind ?_ (fun _ => ?_)) | apply ih0 | apply ih1 | apply ih2 | apply ih3 | apply ih4 | apply jacquardref33_slot.mono | exact LeO.none _ | refine LeO.ite ?_ ?_ | refine LeO.bind ?_ (fun _ => ?_)
theorem jacquardref33_Walk.mono : ∀ a0 a1 a2 a3 a4 a5 a6 a7 a8 k, LeO (jacquardref33_Walk.f k a0 a1 a2 a3 a4 a5 a6 a7 a8) (jacquardref33_Walk.f (k + 1) a0 a1 a2 a3 a4 a5 a6 a7 a8) := by
 intro a0 a1 a2 a3 a4 a5 a6 a7 a8 k
 obtain ⟨ih0, ih1, ih2, ih3, ih4⟩ := jacquardref33_Walk.mono_l k
 unfold jacquardref33_Walk.f
 repeat' first | (with_reducible first | apply ih0 | apply ih1 | apply ih2 | apply ih3 | apply ih4 | apply jacquardref33_slot.mono | exact LeO.refl _ | exact LeO.none _ | refine LeO.ite ?_ ?_ | refine LeO.bind ?_ (fun _ => ?_)) | apply ih0 | apply ih1 | apply ih2 | apply ih3 | apply ih4 | apply jacquardref33_slot.mono | exact LeO.none _ | refine LeO.ite ?_ ?_ | refine LeO.bind ?_ (fun _ => ?_)
def jacquardref33_Walk.T7 : Bool × List (List Nat × List Nat) := (true, [([], []), ([], []), ([0, 1], [0, 1]), ([2], [2]), ([3], [3]), ([4], [4]), ([5], [5]), ([5], [5]), ([6, 7, 5], [5, 6, 7]), ([8, 5], [5, 8]), ([5], [5]), ([10, 5], [5, 10]), ([11, 5], [5, 11]), ([9, 12, 5], [5, 9, 12]), ([5, 13], [5, 13])])
def jacquardref33_Walk.B7 : List Nat := [0, 0, 3, 7, 15, 31, 63, 63, 255, 511, 63, 1087, 3135, 8191, 16383]
theorem jacquardref33_Walk.tab7 : rtab .any (opsOf Try.f14 7) = jacquardref33_Walk.T7 := by kernel_rfl
theorem jacquardref33_Walk.bits7 : waitsOk jacquardref33_Walk.T7.2 jacquardref33_Walk.B7 = true := by kernel_rfl
def jacquardref33_Walk.T9 : Bool × List (List Nat × List Nat) := (true, [([], []), ([0], [0]), ([1], [1]), ([1], [1]), ([1], [1]), ([4, 1], [1, 4]), ([1], [1]), ([1], [1]), ([6, 7, 1], [1, 6, 7]), ([8, 1], [1, 8]), ([5, 9, 1], [1, 5, 9]), ([10, 1], [1, 10]), ([11, 1], [1, 11]), ([2, 3, 12, 1, 1], [1, 2, 3, 12]), ([13, 1], [1, 13]), ([1, 14], [1, 14]), ([15, 13, 0, 1, 2, 3, 4, 5, 6, 7, 8, 9, 10, 11, 12, 13, 14, 15], [0, 15])])
def jacquardref33_Walk.B9 : List Nat := [0, 1, 3, 3, 3, 19, 3, 3, 195, 451, 1011, 2035, 4083, 8191, 16383, 32767, 65535]
theorem jacquardref33_Walk.tab9 : rtab .any (opsOf Try.f14 9) = jacquardref33_Walk.T9 := by kernel_rfl
theorem jacquardref33_Walk.bits9 : waitsOk jacquardref33_Walk.T9.2 jacquardref33_Walk.B9 = true := by kernel_rfl
def jacquardref33_Walk.T14 : Bool × List (List Nat × List Nat) := (true, [([], []), ([0], [0]), ([], []), ([], []), ([2, 3], [2, 3]), ([4], [4]), ([1, 5], [1, 5]), ([6], [6]), ([7], [7]), ([], []), ([9], [9]), ([], []), ([], []), ([12], [12]), ([], []), ([14], [14]), ([13, 15], [13, 15]), ([11, 16], [11, 16]), ([17], [17]), ([10, 18], [10, 18]), ([19], [19]), ([20], [20]), ([8, 21], [8, 21])])
def jacquardref33_Walk.B14 : List Nat := [0, 1, 0, 0, 12, 28, 63, 127, 255, 0, 512, 0, 0, 4096, 0, 16384, 61440, 129024, 260096, 523776, 1048064, 2096640, 4194303]
theorem jacquardref33_Walk.tab14 : rtab .any (opsOf Try.f14 14) = jacquardref33_Walk.T14 := by kernel_rfl
theorem jacquardref33_Walk.bits14 : waitsOk jacquardref33_Walk.T14.2 jacquardref33_Walk.B14 = true := by kernel_rfl
def jacquardref33_Walk.T17 : Bool × List (List Nat × List Nat) := (true, [([], []), ([], []), ([], []), ([2], [2]), ([], []), ([4], [4]), ([5], [5]), ([3, 6], [3, 6]), ([7], [7]), ([8], [8]), ([0, 1, 9], [0, 1, 9]), ([10, 10, 0, 1, 2, 3, 4, 5, 6, 7, 8, 9, 10], [10])])
def jacquardref33_Walk.B17 : List Nat := [0, 0, 0, 4, 0, 16, 48, 124, 252, 508, 1023, 2047]
theorem jacquardref33_Walk.tab17 : rtab .any (opsOf Try.f14 17) = jacquardref33_Walk.T17 := by kernel_rfl
theorem jacquardref33_Walk.bits17 : waitsOk jacquardref33_Walk.T17.2 jacquardref33_Walk.B17 = true := by kernel_rfl
def jacquardref33_Walk.T24 : Bool × List (List Nat × List Nat) := (true, [([], []), ([0], [0]), ([], []), ([], []), ([2, 3], [2, 3]), ([4], [4]), ([1, 5], [1, 5]), ([6], [6]), ([], []), ([8, 7, 0, 1, 2, 3, 4, 5, 6, 7, 8], [7, 8])])
def jacquardref33_Walk.B24 : List Nat := [0, 1, 0, 0, 12, 28, 63, 127, 0, 511]
theorem jacquardref33_Walk.tab24 : rtab .any (opsOf Try.f14 24) = jacquardref33_Walk.T24 := by kernel_rfl
theorem jacquardref33_Walk.bits24 : waitsOk jacquardref33_Walk.T24.2 jacquardref33_Walk.B24 = true := by kernel_rfl
set_option maxHeartbeats 8000000 in
set_option maxRecDepth 100000 in
theorem jacquardref33_Walk.calls (k : Nat) (a0_0 : Int) (a0_1 : Int) (a0_2 : Bool) (A0_3 : Option Addr) (c0_3 : Nat) (l0_3 : List (S48)) (A0_4 : Option Addr) (c0_4 : Nat) (l0_4 : List (S50)) (A0_5 : Option Addr) (c0_5 : Nat) (l0_5 : List (S52)) (a1 : Int) (A2 : Option Addr) (c2 : Nat) (l2 : List (S44)) (A3 : Option Addr) (c3 : Nat) (l3 : List Int) (r1 : Int) (r2 : Bool) (w : World) (hr0_3 : Kd.C k48 w A0_3 l0_3.length l0_3) (hc0_3 : l0_3.length ≤ c0_3) (hr0_4 : Kd.C k50 w A0_4 l0_4.length l0_4) (hc0_4 : l0_4.length ≤ c0_4) (hr0_5 : Kd.C k52 w A0_5 l0_5.length l0_5) (hc0_5 : l0_5.length ≤ c0_5) (hr2 : Kd.C k44 w A2 l2.length l2) (hc2 : l2.length ≤ c2) (hr3 : Kd.C (Kd.int .i64) w A3 l3.length l3) (hc3 : l3.length ≤ c3) (h : jacquardref33_Walk.f k a0_0 a0_1 a0_2 l0_3 l0_4 l0_5 a1 l2 l3 = some (r1, r2)) :
    Calls Try.prog 14 #[.agg #[.int .i64 a0_0, .int .i64 a0_1, .bool a0_2, .slice A0_3 l0_3.length c0_3, .slice A0_4 l0_4.length c0_4, .slice A0_5 l0_5.length c0_5], .int .i64 a1, .slice A2 l2.length c2, .slice A3 l3.length c3] w fun e w' => e = .returned (.tuple #[.int .i64 r1, .bool r2]) ∧ Below w.heap.size w w' := by
 have hu26 := Try.underlying26
 have hu48 := Try.underlying48
 have HR0_3 := Aside0.mk hr0_3
 have HC0_3 := Aside0.mk hc0_3
 clear hr0_3 hc0_3
 have HR0_4 := Aside0.mk hr0_4
 have HC0_4 := Aside0.mk hc0_4
 clear hr0_4 hc0_4
 have HR0_5 := Aside0.mk hr0_5
 have HC0_5 := Aside0.mk hc0_5
 clear hr0_5 hc0_5
 have HR2 := Aside0.mk hr2
 have HC2 := Aside0.mk hc2
 clear hr2 hc2
 have HR3 := Aside0.mk hr3
 have HC3 := Aside0.mk hc3
 clear hr3 hc3
 have HB := Aside0.mk (Below.refl w.heap.size w)
 have H : (if (l3.length : Int) = 0 then (some (0, false)) else (jacquardref33_Walk.l0 k a1 l2 l3 false (l3.length : Int) 0 a0_0 a0_1 a0_2 l0_3 l0_4 l0_5)) = some (r1, r2) := h
 clear h
 by_cases c5 : (l3.length : Int) = 0
 · rw [if_pos c5] at H
   have c5b0 : ((l3.length : Int) == 0) = true := beq_iff_eq.mpr c5
   have c5b1 : ((l3.length : Int) != 0) = false := bne_eq_false_iff_eq.mpr c5
   clear c5
   simp only [Option.some.injEq, Prod.mk.injEq] at H
   obtain ⟨rfl, rfl⟩ := H
   go_enter Try.func14, Try.ntmps14
   go_wp2_with (first | ((with_reducible refine gate_dst (N := 4) rfl ?_); (try (refine gate_guard (by rfl) ?_; dsimp only)); refine box_event ?hg (N := 4) ?hd (cs := #[.int .i64 a0_0, .int .i64 a0_1, .bool a0_2, .slice A0_3 l0_3.length c0_3, .slice A0_4 l0_4.length c0_4, .slice A0_5 l0_5.length c0_5]) (t := 26) ?hr ?_; (case hd => rfl); (case hg => rfl); (case hr => first | (go_simp; done) | (go_simp; rfl)); intro gb274 hg w6 hbox hb; have n0_ := Aside0.mk (below_step bl_ hb); have n1_ := Aside0.mk (hbox); have n2_ := Aside0.mk (gl_ (w := w) hg); have n3_ := Aside0.mk (gl_ (w := w) hg); clear HB; have HB := n0_; have BK274 := n1_; have GW274 := n2_; have GE274 := n3_; clear n0_ n1_ n2_ n3_; clear hb hbox hg))
   go_ret2
   exact ⟨by first | rfl | (simp [errW_none, errW_some] <;> rfl) | (simp [*, errW_none, errW_some] <;> rfl), by repeat (first | (with_reducible first | exact HB.out | apply below_alloc | apply pw_below_drewN | apply below_drew1 | refine below_set ?_ GE274.out) | exact HB.out)⟩
 rw [if_neg c5] at H
 have c5b0 : ((l3.length : Int) == 0) = false := beq_eq_false_iff_ne.mpr c5
 have c5b1 : ((l3.length : Int) != 0) = true := bne_iff_ne.mpr c5
 have c5b2 : ¬ (l3 = []) := fun h_ => c5 (by rw [h_]; rfl)
 have H' := Aside0.mk H
 clear H
 go_enter Try.func14, Try.ntmps14
 go_wp2_with (first | ((with_reducible refine gate_dst (N := 4) rfl ?_); (try (refine gate_guard (by rfl) ?_; dsimp only)); refine box_event ?hg (N := 4) ?hd (cs := #[.int .i64 a0_0, .int .i64 a0_1, .bool a0_2, .slice A0_3 l0_3.length c0_3, .slice A0_4 l0_4.length c0_4, .slice A0_5 l0_5.length c0_5]) (t := 26) ?hr ?_; (case hd => rfl); (case hg => rfl); (case hr => first | (go_simp; done) | (go_simp; rfl)); intro gb274 hg w7 hbox hb; have n0_ := Aside0.mk (below_step bl_ hb); have n1_ := Aside0.mk (hbox); have n2_ := Aside0.mk (gl_ (w := w) hg); have n3_ := Aside0.mk (gl_ (w := w) hg); clear HB; have HB := n0_; have BK274 := n1_; have GW274 := n2_; have GE274 := n3_; clear n0_ n1_ n2_ n3_; clear hb hbox hg))
 go_loopg [10, 23] k (fun kq v10 v23 w' => ∃ (x10_1 : Bool) (x23_1 : Int), v10 = .bool x10_1 ∧ v23 = .int .i64 x23_1 ∧ Aside0 (jacquardref33_Walk.l0 kq a1 l2 l3 x10_1 (l3.length : Int) x23_1 a0_0 a0_1 a0_2 l0_3 l0_4 l0_5 = some (r1, r2)) ∧ Aside0 (kq ≤ k) ∧ Aside0 (w'.heap[gb274]? = some (.cells #[.int .i64 a0_0, .int .i64 a0_1, .bool a0_2, (.slice A0_3 l0_3.length c0_3), (.slice A0_4 l0_4.length c0_4), (.slice A0_5 l0_5.length c0_5)] 26 (0, 0))) ∧ Aside0 (Below w.heap.size w w'))
 case atStart => exact ⟨(false), (0), (by first | rfl | (simp; done) | (simp [*]; done)), (by first | rfl | (simp; done) | (simp [*]; done)), H', ⟨Nat.le_refl _⟩, ⟨K_ BK274⟩, ⟨bl_⟩⟩
 clear H'
 obtain ⟨x10_1, x23_1, rfl, rfl, HA, HK1, BK274, HB⟩ := hrel
 cases gk with
 | zero => exact absurd HA.out (by simp [jacquardref33_Walk.l0])
 | succ k1 => ?_
 have H := HA.out
 clear HA
 simp only [jacquardref33_Walk.l0] at H
 by_cases c8 : x23_1 < (l3.length : Int)
 · rw [if_pos c8] at H
   have c8b0 : decide (x23_1 < (l3.length : Int)) = true := decide_eq_true c8
   clear c8
   have HC9 := Aside0.mk H
   clear H
   go_upto_region 7 with (fail)
   go_cut [40] (fun v40 wc => ∃ (kq : Nat) (x40_8 : Bool), v40 = .bool x40_8 ∧ Aside0 (jacquardref33_Walk.j1 kq a1 l2 l3 x10_1 x23_1 (l3.length : Int) x23_1 x40_8 a0_0 a0_1 a0_2 l0_3 l0_4 l0_5 = some (r1, r2)) ∧ Aside0 (kq ≤ k1) ∧ Aside0 (wc.heap[gb274]? = some (.cells #[.int .i64 a0_0, .int .i64 a0_1, .bool a0_2, (.slice A0_3 l0_3.length c0_3), (.slice A0_4 l0_4.length c0_4), (.slice A0_5 l0_5.length c0_5)] 26 (0, 0))) ∧ Aside0 (Below w.heap.size w wc))
   case first =>
    have H := HC9.out
    clear HC9
    by_cases c10 : 0 ≤ x23_1
    · rw [if_pos c10] at H
      have c10b0 : decide (0 ≤ x23_1) = true := decide_eq_true c10
      clear c10
      (first | rw [c10b0] | (simp only [i64_w, i32_w]; rw [c10b0]) | skip)
      by_cases c11 : x23_1 < (l3.length : Int)
      · rw [if_pos c11] at H
        have c11b0 : decide (x23_1 < (l3.length : Int)) = true := decide_eq_true c11
        clear c11
        by_cases c12 : (rd l3 x23_1) < 0
        · rw [if_pos c12] at H
          have c12b0 : decide ((rd l3 x23_1) < 0) = true := decide_eq_true c12
          clear c12
          have H' := Aside0.mk H
          clear H
          try go_wp2
          have n0_ := Aside0.mk (blk_drew BK274.out)
          have n1_ := Aside0.mk (below_drew1 HB.out)
          clear BK274
          clear HB
          have BK274 := n0_
          have HB := n1_
          clear n0_ n1_
          have p275 : 0 ≤ (x23_1 : Int) := of_decide_eq_true (by first | (with_reducible assumption) | assumption)
          have q275 : x23_1 < (l3.length : Int) := of_decide_eq_true (by first | (with_reducible assumption) | assumption)
          obtain ⟨ad275, e275, hx275_0⟩ := Kd.at_int HR3.out x23_1 p275 q275
          have hw275_0 := hx275_0
          cases e275
          replace hx275_0 := hc_ HB hx275_0
          replace p275 := eq_true p275
          replace q275 := eq_true q275
          refine start_ (n := 15) (S := fun w' => w'.cell? (ad275.add (x23_1).toNat) = some (.int .i64 (rd l3 x23_1))) (ds := []) (bz 15 0) (by kernel_rfl) rfl rfl ((hc_ HB hw275_0)) (fun hHeld => ?_); refine with_tabW jacquardref33_Walk.tab7 jacquardref33_Walk.bits7 (fun HT_ HW_ => ?_)
          generalize wr.drew = w13 at BK274 HB hx275_0 hHeld ⊢
          refine pu_ 0 26 HT_ ?_
          refine pu_ 1 27 HT_ ?_
          refine pu_ 2 28 HT_ ?_
          refine tk_ 3 29 HT_ HW_ hHeld ?_ (hy := by intro w' s0; go_simp; with_reducible rfl)
          refine pu_ 4 30 HT_ ?_
          refine pu_ 5 31 HT_ ?_
          refine pn_ 6 32 HT_ ?_
          refine pn_ 7 33 HT_ ?_
          refine pn_ 8 34 HT_ ?_
          refine pn_ 9 35 HT_ ?_
          refine pn_ 10 36 HT_ ?_
          refine pn_ 11 37 HT_ ?_
          refine pn_ 12 38 HT_ ?_
          refine pn_ 13 39 HT_ ?_
          refine pu_ 14 40 HT_ ?_
          refine done_ (done_of HT_.out (by kernel_rfl)) ?_
          try go_wp2
          go_meet
          case rel => exact ⟨_, (true), (by first | rfl | (simp; done) | (simp [*]; done)), H', ⟨by have := HK1.out; first | omega | exact Nat.le_refl _⟩, ⟨K_ BK274⟩, ⟨bl_⟩⟩
        rw [if_neg c12] at H
        have c12b0 : decide ((rd l3 x23_1) < 0) = false := decide_eq_false c12
        clear c12
        have H' := Aside0.mk H
        clear H
        try go_wp2
        have n0_ := Aside0.mk (blk_drew BK274.out)
        have n1_ := Aside0.mk (below_drew1 HB.out)
        clear BK274
        clear HB
        have BK274 := n0_
        have HB := n1_
        clear n0_ n1_
        have p275 : 0 ≤ (x23_1 : Int) := of_decide_eq_true (by first | (with_reducible assumption) | assumption)
        have q275 : x23_1 < (l3.length : Int) := of_decide_eq_true (by first | (with_reducible assumption) | assumption)
        obtain ⟨ad275, e275, hx275_0⟩ := Kd.at_int HR3.out x23_1 p275 q275
        have hw275_0 := hx275_0
        cases e275
        replace hx275_0 := hc_ HB hx275_0
        replace p275 := eq_true p275
        replace q275 := eq_true q275
        have p276 : 0 ≤ (x23_1 : Int) := of_decide_eq_true (by first | (with_reducible assumption) | assumption)
        have q276 : x23_1 < (l3.length : Int) := of_decide_eq_true (by first | (with_reducible assumption) | assumption)
        obtain ⟨ad276, e276, hx276_0⟩ := Kd.at_int HR3.out x23_1 p276 q276
        have hw276_0 := hx276_0
        obtain rfl : ad275 = ad276 := (by injection e276)
        replace hx276_0 := hc_ HB hx276_0
        replace p276 := eq_true p276
        replace q276 := eq_true q276
        refine start_ (n := 15) (S := fun w' => w'.cell? ⟨gb274, 0, none⟩ = some (.int .i64 a0_0) ∧ w'.cell? ⟨gb274, 1, none⟩ = some (.int .i64 a0_1) ∧ w'.cell? ⟨gb274, 2, none⟩ = some (.bool a0_2) ∧ w'.cell? ⟨gb274, 3, none⟩ = some (.slice A0_3 l0_3.length c0_3) ∧ w'.cell? ⟨gb274, 4, none⟩ = some (.slice A0_4 l0_4.length c0_4) ∧ w'.cell? ⟨gb274, 5, none⟩ = some (.slice A0_5 l0_5.length c0_5) ∧ w'.cell? (ad275.add (x23_1).toNat) = some (.int .i64 (rd l3 x23_1)) ∧ w'.cell? (ad275.add (x23_1).toNat) = some (.int .i64 (rd l3 x23_1))) (ds := []) (bz 15 0) (by kernel_rfl) rfl rfl ⟨(blk_cell BK274.out 0).trans rfl, (blk_cell BK274.out 1).trans rfl, (blk_cell BK274.out 2).trans rfl, (blk_cell BK274.out 3).trans rfl, (blk_cell BK274.out 4).trans rfl, (blk_cell BK274.out 5).trans rfl, (hc_ HB hw275_0), (hc_ HB hw276_0)⟩ (fun hHeld => ?_); refine with_tabW jacquardref33_Walk.tab7 jacquardref33_Walk.bits7 (fun HT_ HW_ => ?_)
        generalize wr.drew = w14 at BK274 HB hx275_0 hx276_0 hHeld ⊢
        refine pu_ 0 26 HT_ ?_
        refine pu_ 1 27 HT_ ?_
        refine pu_ 2 28 HT_ ?_
        refine tk_ 3 29 HT_ HW_ hHeld ?_ (hy := by rintro w' ⟨s0, s1, s2, s3, s4, s5, s6, s7⟩; go_simp; with_reducible rfl)
        refine pu_ 4 30 HT_ ?_
        refine pu_ 5 31 HT_ ?_
        refine pu_ 6 32 HT_ ?_
        refine pu_ 7 33 HT_ ?_
        refine pu_ 8 34 HT_ ?_
        refine pu_ 10 36 HT_ ?_
        refine tk_ 9 35 HT_ HW_ hHeld ?_ (hy := by rintro w' ⟨s0, s1, s2, s3, s4, s5, s6, s7⟩; go_simp; with_reducible rfl)
        refine tk_ 11 37 HT_ HW_ hHeld ?_ (hy := by rintro w' ⟨s0, s1, s2, s3, s4, s5, s6, s7⟩; go_simp; with_reducible rfl)
        refine pu_ 12 38 HT_ ?_
        refine pu_ 13 39 HT_ ?_
        refine pu_ 14 40 HT_ ?_
        refine done_ (done_of HT_.out (by kernel_rfl)) ?_
        try go_wp2
        go_meet
        case rel => exact ⟨_, (decide ((rd l3 x23_1) ≥ (l0_3.length : Int))), (by first | rfl | (simp; done) | (simp [*]; done)), H', ⟨by have := HK1.out; first | omega | exact Nat.le_refl _⟩, ⟨K_ BK274⟩, ⟨bl_⟩⟩
      rw [if_neg c11] at H
      exact absurd H (by simp)
    rw [if_neg c10] at H
    exact absurd H (by simp)
   clear HC9
   obtain ⟨kq, x40_8, rfl, HA, HJ8, BK274, HB⟩ := hcut
   cases kq with
   | zero => exact absurd HA.out (by simp [jacquardref33_Walk.j1])
   | succ kj8 => ?_
   have H := HA.out
   clear HA
   simp only [jacquardref33_Walk.j1] at H
   by_cases c15 : x40_8 = true
   · subst c15
     have H1 : (some (0, false)) = some (r1, r2) := by rw [if_pos rfl] at H; exact H
     clear H
     have H := H1
     clear H1
     simp only [Option.some.injEq, Prod.mk.injEq] at H
     obtain ⟨rfl, rfl⟩ := H
     go_wp2
     go_ret2
     exact ⟨by first | rfl | (simp [errW_none, errW_some] <;> rfl) | (simp [*, errW_none, errW_some] <;> rfl), by repeat (first | (with_reducible first | exact HB.out | apply below_alloc | apply pw_below_drewN | apply below_drew1 | refine below_set ?_ GE274.out) | exact HB.out)⟩
   replace c15 := Bool.eq_false_iff.mpr c15
   subst c15
   have H1 : (if x10_1 = true then (jacquardref33_Walk.l0 kj8 a1 l2 l3 true (l3.length : Int) (wrap64 (x23_1 + 1)) a0_0 a0_1 a0_2 l0_3 l0_4 l0_5) else (if 0 ≤ x23_1 then (if x23_1 < (l3.length : Int) then (if 0 ≤ (rd l3 x23_1) then (if (rd l3 x23_1) < (l0_3.length : Int) then ((jacquardref33_slot.f kj8 a0_0 a0_1 a0_2 l0_3 l0_4 l0_5 l2 ((rd_T48 l0_3 (rd l3 x23_1)).f0)).bind fun t279 => (jacquardref33_Walk.l0 kj8 a1 l2 l3 (decide (t279 ≥ 0)) (l3.length : Int) (wrap64 (x23_1 + 1)) a0_0 a0_1 a0_2 l0_3 l0_4 l0_5)) else (none)) else (none)) else (none)) else (none))) = some (r1, r2) := by rw [if_neg (show ¬ (false = true) by decide)] at H; exact H
   clear H
   have H := H1
   clear H1
   by_cases c16 : x10_1 = true
   · subst c16
     have H1 : (jacquardref33_Walk.l0 kj8 a1 l2 l3 true (l3.length : Int) (wrap64 (x23_1 + 1)) a0_0 a0_1 a0_2 l0_3 l0_4 l0_5) = some (r1, r2) := by rw [if_pos rfl] at H; exact H
     clear H
     have H := H1
     clear H1
     have H' := Aside0.mk H
     clear H
     try go_wp2
     have n0_ := Aside0.mk (blk_drew BK274.out)
     have n1_ := Aside0.mk (below_drew1 HB.out)
     clear BK274
     clear HB
     have BK274 := n0_
     have HB := n1_
     clear n0_ n1_
     refine start_ (n := 17) (S := fun w' => True) (ds := []) (bz 17 0) (by kernel_rfl) rfl rfl trivial (fun hHeld => ?_); refine with_tabW jacquardref33_Walk.tab9 jacquardref33_Walk.bits9 (fun HT_ HW_ => ?_)
     generalize wc.drew = w17 at BK274 HB hHeld ⊢
     refine pu_ 0 41 HT_ ?_
     refine pu_ 1 42 HT_ ?_
     refine pn_ 2 43 HT_ ?_
     refine pn_ 3 44 HT_ ?_
     refine pn_ 4 45 HT_ ?_
     refine pn_ 5 46 HT_ ?_
     refine pn_ 6 47 HT_ ?_
     refine pn_ 7 48 HT_ ?_
     refine pn_ 8 49 HT_ ?_
     refine pn_ 9 50 HT_ ?_
     refine pn_ 10 51 HT_ ?_
     refine pn_ 11 52 HT_ ?_
     refine pn_ 12 53 HT_ ?_
     refine pn_ 13 54 HT_ ?_
     refine pn_ 14 55 HT_ ?_
     refine pu_ 15 56 HT_ ?_
     refine pu_ 16 10 HT_ ?_
     refine done_ (done_of HT_.out (by kernel_rfl)) ?_
     try go_wp2
     go_roundg kj8
     case measure => have := HK1.out; have := HJ8.out; omega
     case rel => exact ⟨(true), (wrap64 (x23_1 + 1)), (by first | rfl | (simp; done) | (simp [*]; done)), (by first | rfl | (simp; done) | (simp [*]; done)), H', ⟨by have := HK1.out; have := HJ8.out; omega⟩, ⟨K_ BK274⟩, ⟨bl_⟩⟩
   replace c16 := Bool.eq_false_iff.mpr c16
   subst c16
   have H1 : (if 0 ≤ x23_1 then (if x23_1 < (l3.length : Int) then (if 0 ≤ (rd l3 x23_1) then (if (rd l3 x23_1) < (l0_3.length : Int) then ((jacquardref33_slot.f kj8 a0_0 a0_1 a0_2 l0_3 l0_4 l0_5 l2 ((rd_T48 l0_3 (rd l3 x23_1)).f0)).bind fun t279 => (jacquardref33_Walk.l0 kj8 a1 l2 l3 (decide (t279 ≥ 0)) (l3.length : Int) (wrap64 (x23_1 + 1)) a0_0 a0_1 a0_2 l0_3 l0_4 l0_5)) else (none)) else (none)) else (none)) else (none)) = some (r1, r2) := by rw [if_neg (show ¬ (false = true) by decide)] at H; exact H
   clear H
   have H := H1
   clear H1
   by_cases c18 : 0 ≤ x23_1
   · rw [if_pos c18] at H
     have c18b0 : decide (0 ≤ x23_1) = true := decide_eq_true c18
     clear c18
     by_cases c19 : x23_1 < (l3.length : Int)
     · rw [if_pos c19] at H
       have c19b0 : decide (x23_1 < (l3.length : Int)) = true := decide_eq_true c19
       clear c19
       by_cases c20 : 0 ≤ (rd l3 x23_1)
       · rw [if_pos c20] at H
         have c20b0 : decide (0 ≤ (rd l3 x23_1)) = true := decide_eq_true c20
         clear c20
         by_cases c21 : (rd l3 x23_1) < (l0_3.length : Int)
         · rw [if_pos c21] at H
           have c21b0 : decide ((rd l3 x23_1) < (l0_3.length : Int)) = true := decide_eq_true c21
           clear c21
           replace H := Option.bind_eq_some_iff.mp H
           obtain ⟨t279, A220, H⟩ := H
           replace H : (jacquardref33_Walk.l0 kj8 a1 l2 l3 (decide (t279 ≥ 0)) (l3.length : Int) (wrap64 (x23_1 + 1)) a0_0 a0_1 a0_2 l0_3 l0_4 l0_5) = some (r1, r2) := H
           have A22 := Aside0.mk A220
           clear A220
           have H' := Aside0.mk H
           clear H
           try go_wp2
           have n0_ := Aside0.mk (blk_drew BK274.out)
           have n1_ := Aside0.mk (below_drew1 HB.out)
           clear BK274
           clear HB
           have BK274 := n0_
           have HB := n1_
           clear n0_ n1_
           have p277 : 0 ≤ (x23_1 : Int) := of_decide_eq_true (by first | (with_reducible assumption) | assumption)
           have q277 : x23_1 < (l3.length : Int) := of_decide_eq_true (by first | (with_reducible assumption) | assumption)
           obtain ⟨ad277, e277, hx277_0⟩ := Kd.at_int HR3.out x23_1 p277 q277
           have hw277_0 := hx277_0
           cases e277
           replace hx277_0 := hc_ HB hx277_0
           replace p277 := eq_true p277
           replace q277 := eq_true q277
           have p278 : 0 ≤ ((rd l3 x23_1) : Int) := of_decide_eq_true (by first | (with_reducible assumption) | assumption)
           have q278 : (rd l3 x23_1) < (l0_3.length : Int) := of_decide_eq_true (by first | (with_reducible assumption) | assumption)
           obtain ⟨ad278, e278, hx278_0, hx278_1, hx278_2, hx278_3⟩ := at_T48 HR0_3.out (rd l3 x23_1) p278 q278
           have hw278_3 := hx278_3
           have hw278_2 := hx278_2
           have hw278_1 := hx278_1
           have hw278_0 := hx278_0
           cases e278
           replace hx278_0 := hc_ HB hx278_0
           replace hx278_1 := hc_ HB hx278_1
           replace hx278_2 := hc_ HB hx278_2
           replace hx278_3 := hc_ HB hx278_3
           replace p278 := eq_true p278
           replace q278 := eq_true q278
           refine start_ (n := 17) (S := fun w' => w'.cell? ⟨gb274, 0, none⟩ = some (.int .i64 a0_0) ∧ w'.cell? ⟨gb274, 1, none⟩ = some (.int .i64 a0_1) ∧ w'.cell? ⟨gb274, 2, none⟩ = some (.bool a0_2) ∧ w'.cell? ⟨gb274, 3, none⟩ = some (.slice (some ad278) l0_3.length c0_3) ∧ w'.cell? ⟨gb274, 4, none⟩ = some (.slice A0_4 l0_4.length c0_4) ∧ w'.cell? ⟨gb274, 5, none⟩ = some (.slice A0_5 l0_5.length c0_5) ∧ w'.cell? (ad277.add (x23_1).toNat) = some (.int .i64 (rd l3 x23_1)) ∧ w'.cell? (ad278.add (((rd l3 x23_1)).toNat * 4)) = some (.int .i64 ((rd_T48 l0_3 (rd l3 x23_1)).f0)) ∧ w'.cell? ⟨(ad278.add (((rd l3 x23_1)).toNat * 4)).block, (ad278.add (((rd l3 x23_1)).toNat * 4)).off + 1, none⟩ = some (.int .i64 ((rd_T48 l0_3 (rd l3 x23_1)).f1)) ∧ w'.cell? ⟨(ad278.add (((rd l3 x23_1)).toNat * 4)).block, (ad278.add (((rd l3 x23_1)).toNat * 4)).off + 2, none⟩ = some (.int .i64 ((rd_T48 l0_3 (rd l3 x23_1)).f2)) ∧ w'.cell? ⟨(ad278.add (((rd l3 x23_1)).toNat * 4)).block, (ad278.add (((rd l3 x23_1)).toNat * 4)).off + 3, none⟩ = some (.int .i64 ((rd_T48 l0_3 (rd l3 x23_1)).f3))) (ds := []) (bz 17 0) (by kernel_rfl) rfl rfl ⟨(blk_cell BK274.out 0).trans rfl, (blk_cell BK274.out 1).trans rfl, (blk_cell BK274.out 2).trans rfl, (blk_cell BK274.out 3).trans rfl, (blk_cell BK274.out 4).trans rfl, (blk_cell BK274.out 5).trans rfl, (hc_ HB hw277_0), (hc_ HB hw278_0), (hc_ HB hw278_1), (hc_ HB hw278_2), (hc_ HB hw278_3)⟩ (fun hHeld => ?_); refine with_tabW jacquardref33_Walk.tab9 jacquardref33_Walk.bits9 (fun HT_ HW_ => ?_)
           generalize wc.drew = w23 at BK274 HB hx277_0 hx278_0 hx278_1 hx278_2 hx278_3 hHeld ⊢
           refine pu_ 0 41 HT_ ?_
           refine pu_ 1 42 HT_ ?_
           refine pu_ 3 44 HT_ ?_
           refine pu_ 4 45 HT_ ?_
           refine pu_ 6 47 HT_ ?_
           refine pu_ 7 48 HT_ ?_
           refine pu_ 8 49 HT_ ?_
           refine tk_ 2 43 HT_ HW_ hHeld ?_ (hy := by rintro w' ⟨s0, s1, s2, s3, s4, s5, s6, s7, s8, s9, s10⟩; go_simp; with_reducible rfl)
           refine tk_ 5 46 HT_ HW_ hHeld ?_ (hy := by rintro w' ⟨s0, s1, s2, s3, s4, s5, s6, s7, s8, s9, s10⟩; go_simp; with_reducible rfl)
           refine tk_ 9 50 HT_ HW_ hHeld ?_ (hy := by rintro w' ⟨s0, s1, s2, s3, s4, s5, s6, s7, s8, s9, s10⟩; go_simp; with_reducible rfl)
           refine pu_ 10 51 HT_ ?_
           refine pu_ 11 52 HT_ ?_
           refine tk_ 12 53 HT_ HW_ hHeld ?_ (hy := by rintro w' ⟨s0, s1, s2, s3, s4, s5, s6, s7, s8, s9, s10⟩; go_simp; with_reducible rfl)
           refine on_ 13 (some 54) HT_ (fun K hK => ?_)
           refine gs_ Try.func30 #[.agg #[.int .i64 a0_0, .int .i64 a0_1, .bool a0_2, .slice (some ad278) l0_3.length c0_3, .slice A0_4 l0_4.length c0_4, .slice A0_5 l0_5.length c0_5], .slice A2 l2.length c2, .int .i64 ((rd_T48 l0_3 (rd l3 x23_1)).f0)] ?_
           with_reducible refine (jacquardref33_slot.calls kj8 a0_0 a0_1 a0_2 _ _ l0_3 _ _ l0_4 _ _ l0_5 _ _ l2 ((rd_T48 l0_3 (rd l3 x23_1)).f0) t279 _ ?side1 ?side2 ?side3 ?side4 ?side5 ?side6 ?side7 ?side8 A22.out).mono ?_
           (case side1 => exact CB_ HR0_3)
           (case side2 => exact HC0_3.out)
           (case side3 => exact CB_ HR0_4)
           (case side4 => exact HC0_4.out)
           (case side5 => exact CB_ HR0_5)
           (case side6 => exact HC0_5.out)
           (case side7 => exact CB_ HR2)
           (case side8 => exact HC2.out)
           rintro e w24 ⟨rfl, hb⟩
           refine ⟨_, rfl, ?_⟩
           have n0_ := Aside0.mk (blk_below (K_ BK274) hb)
           have n1_ := Aside0.mk (below_step bl_ hb)
           clear BK274
           clear HB
           have BK274 := n0_
           have HB := n1_
           clear n0_ n1_
           refine hK.out _ _ ⟨(blk_cell BK274.out 0).trans rfl, (blk_cell BK274.out 1).trans rfl, (blk_cell BK274.out 2).trans rfl, (blk_cell BK274.out 3).trans rfl, (blk_cell BK274.out 4).trans rfl, (blk_cell BK274.out 5).trans rfl, (hc_ HB hw277_0), (hc_ HB hw278_0), (hc_ HB hw278_1), (hc_ HB hw278_2), (hc_ HB hw278_3)⟩ (fun hHeld => ?_)
           clear hK K
           refine no_ 54 ?_
           refine pu_ 14 55 HT_ ?_
           refine pu_ 15 56 HT_ ?_
           refine pu_ 16 10 HT_ ?_
           refine done_ (done_of HT_.out (by kernel_rfl)) ?_
           try go_wp2
           go_roundg kj8
           case measure => have := HK1.out; have := HJ8.out; omega
           case rel => exact ⟨(decide (t279 ≥ 0)), (wrap64 (x23_1 + 1)), (by first | rfl | (simp; done) | (simp [*]; done)), (by first | rfl | (simp; done) | (simp [*]; done)), H', ⟨by have := HK1.out; have := HJ8.out; omega⟩, ⟨K_ BK274⟩, ⟨bl_⟩⟩
         rw [if_neg c21] at H
         exact absurd H (by simp)
       rw [if_neg c20] at H
       exact absurd H (by simp)
     rw [if_neg c19] at H
     exact absurd H (by simp)
   rw [if_neg c18] at H
   exact absurd H (by simp)
 rw [if_neg c8] at H
 have c8b0 : decide (x23_1 < (l3.length : Int)) = false := decide_eq_false c8
 clear c8
 have H' := Aside0.mk H
 clear H
 go_wp2
 go_loopg [60] k1 (fun kq v60 w' => ∃ (x60_2 : Int), v60 = .int .i64 x60_2 ∧ Aside0 (jacquardref33_Walk.l1 kq a1 l2 l3 x10_1 (l3.length : Int) x60_2 a0_0 a0_1 a0_2 l0_3 l0_4 l0_5 = some (r1, r2)) ∧ Aside0 (kq ≤ k1) ∧ Aside0 (w'.heap[gb274]? = some (.cells #[.int .i64 a0_0, .int .i64 a0_1, .bool a0_2, (.slice A0_3 l0_3.length c0_3), (.slice A0_4 l0_4.length c0_4), (.slice A0_5 l0_5.length c0_5)] 26 (0, 0))) ∧ Aside0 (Below w.heap.size w w'))
 case atStart => exact ⟨(0), (by first | rfl | (simp; done) | (simp [*]; done)), H', ⟨Nat.le_refl _⟩, ⟨K_ BK274⟩, ⟨bl_⟩⟩
 clear H'
 obtain ⟨x60_2, rfl, HA, HK2, BK274, HB⟩ := hrel
 cases gk with
 | zero => exact absurd HA.out (by simp [jacquardref33_Walk.l1])
 | succ k2 => ?_
 have H := HA.out
 clear HA
 simp only [jacquardref33_Walk.l1] at H
 by_cases c25 : x60_2 < (l3.length : Int)
 · rw [if_pos c25] at H
   have c25b0 : decide (x60_2 < (l3.length : Int)) = true := decide_eq_true c25
   clear c25
   by_cases c26 : 0 ≤ x60_2
   · rw [if_pos c26] at H
     have c26b0 : decide (0 ≤ x60_2) = true := decide_eq_true c26
     clear c26
     by_cases c27 : x60_2 < (l3.length : Int)
     · rw [if_pos c27] at H
       have c27b0 : decide (x60_2 < (l3.length : Int)) = true := decide_eq_true c27
       clear c27
       by_cases c28 : 0 ≤ (rd l3 x60_2)
       · rw [if_pos c28] at H
         have c28b0 : decide (0 ≤ (rd l3 x60_2)) = true := decide_eq_true c28
         clear c28
         by_cases c29 : (rd l3 x60_2) < (l0_3.length : Int)
         · rw [if_pos c29] at H
           have c29b0 : decide ((rd l3 x60_2) < (l0_3.length : Int)) = true := decide_eq_true c29
           clear c29
           by_cases c30 : (l3.length : Int) = 0
           · rw [if_pos c30] at H
             exact absurd H (by simp)
           rw [if_neg c30] at H
           have c30b0 : ((l3.length : Int) == 0) = false := beq_eq_false_iff_ne.mpr c30
           have c30b1 : ((l3.length : Int) != 0) = true := bne_iff_ne.mpr c30
           have c30b2 : ¬ (l3 = []) := fun h_ => c30 (by rw [h_]; rfl)
           obtain ⟨ji31, hji31⟩ : ∃ j_ : Int, (Int.tmod (wrap64 (x60_2 + 1)) (l3.length : Int)) = j_ := ⟨_, rfl⟩
           replace H : (if 0 ≤ (ji31) then (if (ji31) < (l3.length : Int) then (if 0 ≤ (rd l3 (ji31)) then (if (rd l3 (ji31)) < (l0_3.length : Int) then (if ((rd_T48 l0_3 (rd l3 x60_2)).f1) = ((rd_T48 l0_3 (rd l3 (ji31))).f0) then (jacquardref33_Walk.l1 k2 a1 l2 l3 x10_1 (l3.length : Int) (wrap64 (x60_2 + 1)) a0_0 a0_1 a0_2 l0_3 l0_4 l0_5) else (some (0, false))) else (none)) else (none)) else (none)) else (none)) = some (r1, r2) := by first | (rw [hji31] at H; exact H) | (simp only [hji31] at H ⊢; exact H)
           by_cases c32 : 0 ≤ (ji31)
           · rw [if_pos c32] at H
             have c32b0 : decide (0 ≤ (ji31)) = true := decide_eq_true c32
             clear c32
             by_cases c33 : (ji31) < (l3.length : Int)
             · rw [if_pos c33] at H
               have c33b0 : decide ((ji31) < (l3.length : Int)) = true := decide_eq_true c33
               clear c33
               by_cases c34 : 0 ≤ (rd l3 (ji31))
               · rw [if_pos c34] at H
                 have c34b0 : decide (0 ≤ (rd l3 (ji31))) = true := decide_eq_true c34
                 clear c34
                 by_cases c35 : (rd l3 (ji31)) < (l0_3.length : Int)
                 · rw [if_pos c35] at H
                   have c35b0 : decide ((rd l3 (ji31)) < (l0_3.length : Int)) = true := decide_eq_true c35
                   clear c35
                   by_cases c36 : ((rd_T48 l0_3 (rd l3 x60_2)).f1) = ((rd_T48 l0_3 (rd l3 (ji31))).f0)
                   · rw [if_pos c36] at H
                     have c36b0 : (((rd_T48 l0_3 (rd l3 x60_2)).f1) == ((rd_T48 l0_3 (rd l3 (ji31))).f0)) = true := beq_iff_eq.mpr c36
                     have c36b1 : (((rd_T48 l0_3 (rd l3 x60_2)).f1) != ((rd_T48 l0_3 (rd l3 (ji31))).f0)) = false := bne_eq_false_iff_eq.mpr c36
                     clear c36
                     have H' := Aside0.mk H
                     clear H
                     try go_wp2
                     have n0_ := Aside0.mk (blk_drew BK274.out)
                     have n1_ := Aside0.mk (below_drew1 HB.out)
                     clear BK274
                     clear HB
                     have BK274 := n0_
                     have HB := n1_
                     clear n0_ n1_
                     have p280 : 0 ≤ (x60_2 : Int) := of_decide_eq_true (by first | (with_reducible assumption) | assumption)
                     have q280 : x60_2 < (l3.length : Int) := of_decide_eq_true (by first | (with_reducible assumption) | assumption)
                     obtain ⟨ad280, e280, hx280_0⟩ := Kd.at_int HR3.out x60_2 p280 q280
                     have hw280_0 := hx280_0
                     cases e280
                     replace hx280_0 := hc_ HB hx280_0
                     replace p280 := eq_true p280
                     replace q280 := eq_true q280
                     have p281 : 0 ≤ ((rd l3 x60_2) : Int) := of_decide_eq_true (by first | (with_reducible assumption) | assumption)
                     have q281 : (rd l3 x60_2) < (l0_3.length : Int) := of_decide_eq_true (by first | (with_reducible assumption) | assumption)
                     obtain ⟨ad281, e281, hx281_0, hx281_1, hx281_2, hx281_3⟩ := at_T48 HR0_3.out (rd l3 x60_2) p281 q281
                     have hw281_3 := hx281_3
                     have hw281_2 := hx281_2
                     have hw281_1 := hx281_1
                     have hw281_0 := hx281_0
                     cases e281
                     replace hx281_0 := hc_ HB hx281_0
                     replace hx281_1 := hc_ HB hx281_1
                     replace hx281_2 := hc_ HB hx281_2
                     replace hx281_3 := hc_ HB hx281_3
                     replace p281 := eq_true p281
                     replace q281 := eq_true q281
                     have p282 : 0 ≤ ((ji31) : Int) := of_decide_eq_true (by first | (with_reducible assumption) | assumption)
                     have q282 : (ji31) < (l3.length : Int) := of_decide_eq_true (by first | (with_reducible assumption) | assumption)
                     obtain ⟨ad282, e282, hx282_0⟩ := Kd.at_int HR3.out (ji31) p282 q282
                     have hw282_0 := hx282_0
                     obtain rfl : ad280 = ad282 := (by injection e282)
                     replace hx282_0 := hc_ HB hx282_0
                     replace p282 := eq_true p282
                     replace q282 := eq_true q282
                     have p283 : 0 ≤ ((rd l3 (ji31)) : Int) := of_decide_eq_true (by first | (with_reducible assumption) | assumption)
                     have q283 : (rd l3 (ji31)) < (l0_3.length : Int) := of_decide_eq_true (by first | (with_reducible assumption) | assumption)
                     obtain ⟨ad283, e283, hx283_0, hx283_1, hx283_2, hx283_3⟩ := at_T48 HR0_3.out (rd l3 (ji31)) p283 q283
                     have hw283_3 := hx283_3
                     have hw283_2 := hx283_2
                     have hw283_1 := hx283_1
                     have hw283_0 := hx283_0
                     obtain rfl : ad281 = ad283 := (by injection e283)
                     replace hx283_0 := hc_ HB hx283_0
                     replace hx283_1 := hc_ HB hx283_1
                     replace hx283_2 := hc_ HB hx283_2
                     replace hx283_3 := hc_ HB hx283_3
                     replace p283 := eq_true p283
                     replace q283 := eq_true q283
                     refine start_ (n := 23) (S := fun w' => w'.cell? ⟨gb274, 0, none⟩ = some (.int .i64 a0_0) ∧ w'.cell? ⟨gb274, 1, none⟩ = some (.int .i64 a0_1) ∧ w'.cell? ⟨gb274, 2, none⟩ = some (.bool a0_2) ∧ w'.cell? ⟨gb274, 3, none⟩ = some (.slice (some ad281) l0_3.length c0_3) ∧ w'.cell? ⟨gb274, 4, none⟩ = some (.slice A0_4 l0_4.length c0_4) ∧ w'.cell? ⟨gb274, 5, none⟩ = some (.slice A0_5 l0_5.length c0_5) ∧ w'.cell? (ad280.add (x60_2).toNat) = some (.int .i64 (rd l3 x60_2)) ∧ w'.cell? (ad281.add (((rd l3 x60_2)).toNat * 4)) = some (.int .i64 ((rd_T48 l0_3 (rd l3 x60_2)).f0)) ∧ w'.cell? ⟨(ad281.add (((rd l3 x60_2)).toNat * 4)).block, (ad281.add (((rd l3 x60_2)).toNat * 4)).off + 1, none⟩ = some (.int .i64 ((rd_T48 l0_3 (rd l3 x60_2)).f1)) ∧ w'.cell? ⟨(ad281.add (((rd l3 x60_2)).toNat * 4)).block, (ad281.add (((rd l3 x60_2)).toNat * 4)).off + 2, none⟩ = some (.int .i64 ((rd_T48 l0_3 (rd l3 x60_2)).f2)) ∧ w'.cell? ⟨(ad281.add (((rd l3 x60_2)).toNat * 4)).block, (ad281.add (((rd l3 x60_2)).toNat * 4)).off + 3, none⟩ = some (.int .i64 ((rd_T48 l0_3 (rd l3 x60_2)).f3)) ∧ w'.cell? (ad280.add ((ji31)).toNat) = some (.int .i64 (rd l3 (ji31))) ∧ w'.cell? (ad281.add (((rd l3 (ji31))).toNat * 4)) = some (.int .i64 ((rd_T48 l0_3 (rd l3 (ji31))).f0)) ∧ w'.cell? ⟨(ad281.add (((rd l3 (ji31))).toNat * 4)).block, (ad281.add (((rd l3 (ji31))).toNat * 4)).off + 1, none⟩ = some (.int .i64 ((rd_T48 l0_3 (rd l3 (ji31))).f1)) ∧ w'.cell? ⟨(ad281.add (((rd l3 (ji31))).toNat * 4)).block, (ad281.add (((rd l3 (ji31))).toNat * 4)).off + 2, none⟩ = some (.int .i64 ((rd_T48 l0_3 (rd l3 (ji31))).f2)) ∧ w'.cell? ⟨(ad281.add (((rd l3 (ji31))).toNat * 4)).block, (ad281.add (((rd l3 (ji31))).toNat * 4)).off + 3, none⟩ = some (.int .i64 ((rd_T48 l0_3 (rd l3 (ji31))).f3))) (ds := []) (bz 23 0) (by kernel_rfl) rfl rfl ⟨(blk_cell BK274.out 0).trans rfl, (blk_cell BK274.out 1).trans rfl, (blk_cell BK274.out 2).trans rfl, (blk_cell BK274.out 3).trans rfl, (blk_cell BK274.out 4).trans rfl, (blk_cell BK274.out 5).trans rfl, (hc_ HB hw280_0), (hc_ HB hw281_0), (hc_ HB hw281_1), (hc_ HB hw281_2), (hc_ HB hw281_3), (hc_ HB hw282_0), (hc_ HB hw283_0), (hc_ HB hw283_1), (hc_ HB hw283_2), (hc_ HB hw283_3)⟩ (fun hHeld => ?_); refine with_tabW jacquardref33_Walk.tab14 jacquardref33_Walk.bits14 (fun HT_ HW_ => ?_)
                     generalize wr.drew = w37 at BK274 HB hx280_0 hx281_0 hx281_1 hx281_2 hx281_3 hx282_0 hx283_0 hx283_1 hx283_2 hx283_3 hHeld ⊢
                     refine pu_ 0 63 HT_ ?_
                     refine pu_ 2 65 HT_ ?_
                     refine pu_ 3 66 HT_ ?_
                     refine pu_ 4 67 HT_ ?_
                     refine pu_ 9 72 HT_ ?_
                     refine pu_ 11 74 HT_ ?_
                     refine pu_ 12 75 HT_ ?_
                     refine pu_ 13 76 HT_ ?_
                     refine pu_ 14 77 HT_ ?_
                     refine pu_ 15 78 HT_ ?_
                     refine pu_ 16 79 HT_ ?_
                     refine pu_ 17 80 HT_ ?_
                     refine tk_ 1 64 HT_ HW_ hHeld ?_ (hy := by rintro w' ⟨s0, s1, s2, s3, s4, s5, s6, s7, s8, s9, s10, s11, s12, s13, s14, s15⟩; go_simp; with_reducible rfl)
                     refine tk_ 5 68 HT_ HW_ hHeld ?_ (hy := by rintro w' ⟨s0, s1, s2, s3, s4, s5, s6, s7, s8, s9, s10, s11, s12, s13, s14, s15⟩; go_simp; with_reducible rfl)
                     refine pu_ 6 69 HT_ ?_
                     refine pu_ 7 70 HT_ ?_
                     refine tk_ 8 71 HT_ HW_ hHeld ?_ (hy := by rintro w' ⟨s0, s1, s2, s3, s4, s5, s6, s7, s8, s9, s10, s11, s12, s13, s14, s15⟩; go_simp; with_reducible rfl)
                     refine tk_ 10 73 HT_ HW_ hHeld ?_ (hy := by rintro w' ⟨s0, s1, s2, s3, s4, s5, s6, s7, s8, s9, s10, s11, s12, s13, s14, s15⟩; go_simp; with_reducible rfl)
                     refine tk_ 18 81 HT_ HW_ hHeld ?_ (hy := by rintro w' ⟨s0, s1, s2, s3, s4, s5, s6, s7, s8, s9, s10, s11, s12, s13, s14, s15⟩; go_simp; with_reducible rfl)
                     refine pu_ 19 82 HT_ ?_
                     refine pu_ 20 83 HT_ ?_
                     refine tk_ 21 84 HT_ HW_ hHeld ?_ (hy := by rintro w' ⟨s0, s1, s2, s3, s4, s5, s6, s7, s8, s9, s10, s11, s12, s13, s14, s15⟩; go_simp; with_reducible rfl)
                     refine pu_ 22 85 HT_ ?_
                     refine done_ (done_of HT_.out (by kernel_rfl)) ?_
                     try go_wp2
                     go_roundg k2
                     case measure => have := HK1.out; have := HK2.out; omega
                     case rel => exact ⟨(wrap64 (x60_2 + 1)), (by first | rfl | (simp; done) | (simp [*]; done)), H', ⟨by have := HK1.out; have := HK2.out; omega⟩, ⟨K_ BK274⟩, ⟨bl_⟩⟩
                   rw [if_neg c36] at H
                   have c36b0 : (((rd_T48 l0_3 (rd l3 x60_2)).f1) == ((rd_T48 l0_3 (rd l3 (ji31))).f0)) = false := beq_eq_false_iff_ne.mpr c36
                   have c36b1 : (((rd_T48 l0_3 (rd l3 x60_2)).f1) != ((rd_T48 l0_3 (rd l3 (ji31))).f0)) = true := bne_iff_ne.mpr c36
                   simp only [Option.some.injEq, Prod.mk.injEq] at H
                   obtain ⟨rfl, rfl⟩ := H
                   try go_wp2
                   have n0_ := Aside0.mk (blk_drew BK274.out)
                   have n1_ := Aside0.mk (below_drew1 HB.out)
                   clear BK274
                   clear HB
                   have BK274 := n0_
                   have HB := n1_
                   clear n0_ n1_
                   have p280 : 0 ≤ (x60_2 : Int) := of_decide_eq_true (by first | (with_reducible assumption) | assumption)
                   have q280 : x60_2 < (l3.length : Int) := of_decide_eq_true (by first | (with_reducible assumption) | assumption)
                   obtain ⟨ad280, e280, hx280_0⟩ := Kd.at_int HR3.out x60_2 p280 q280
                   have hw280_0 := hx280_0
                   cases e280
                   replace hx280_0 := hc_ HB hx280_0
                   replace p280 := eq_true p280
                   replace q280 := eq_true q280
                   have p281 : 0 ≤ ((rd l3 x60_2) : Int) := of_decide_eq_true (by first | (with_reducible assumption) | assumption)
                   have q281 : (rd l3 x60_2) < (l0_3.length : Int) := of_decide_eq_true (by first | (with_reducible assumption) | assumption)
                   obtain ⟨ad281, e281, hx281_0, hx281_1, hx281_2, hx281_3⟩ := at_T48 HR0_3.out (rd l3 x60_2) p281 q281
                   have hw281_3 := hx281_3
                   have hw281_2 := hx281_2
                   have hw281_1 := hx281_1
                   have hw281_0 := hx281_0
                   cases e281
                   replace hx281_0 := hc_ HB hx281_0
                   replace hx281_1 := hc_ HB hx281_1
                   replace hx281_2 := hc_ HB hx281_2
                   replace hx281_3 := hc_ HB hx281_3
                   replace p281 := eq_true p281
                   replace q281 := eq_true q281
                   have p282 : 0 ≤ ((ji31) : Int) := of_decide_eq_true (by first | (with_reducible assumption) | assumption)
                   have q282 : (ji31) < (l3.length : Int) := of_decide_eq_true (by first | (with_reducible assumption) | assumption)
                   obtain ⟨ad282, e282, hx282_0⟩ := Kd.at_int HR3.out (ji31) p282 q282
                   have hw282_0 := hx282_0
                   obtain rfl : ad280 = ad282 := (by injection e282)
                   replace hx282_0 := hc_ HB hx282_0
                   replace p282 := eq_true p282
                   replace q282 := eq_true q282
                   have p283 : 0 ≤ ((rd l3 (ji31)) : Int) := of_decide_eq_true (by first | (with_reducible assumption) | assumption)
                   have q283 : (rd l3 (ji31)) < (l0_3.length : Int) := of_decide_eq_true (by first | (with_reducible assumption) | assumption)
                   obtain ⟨ad283, e283, hx283_0, hx283_1, hx283_2, hx283_3⟩ := at_T48 HR0_3.out (rd l3 (ji31)) p283 q283
                   have hw283_3 := hx283_3
                   have hw283_2 := hx283_2
                   have hw283_1 := hx283_1
                   have hw283_0 := hx283_0
                   obtain rfl : ad281 = ad283 := (by injection e283)
                   replace hx283_0 := hc_ HB hx283_0
                   replace hx283_1 := hc_ HB hx283_1
                   replace hx283_2 := hc_ HB hx283_2
                   replace hx283_3 := hc_ HB hx283_3
                   replace p283 := eq_true p283
                   replace q283 := eq_true q283
                   refine start_ (n := 23) (S := fun w' => w'.cell? ⟨gb274, 0, none⟩ = some (.int .i64 a0_0) ∧ w'.cell? ⟨gb274, 1, none⟩ = some (.int .i64 a0_1) ∧ w'.cell? ⟨gb274, 2, none⟩ = some (.bool a0_2) ∧ w'.cell? ⟨gb274, 3, none⟩ = some (.slice (some ad281) l0_3.length c0_3) ∧ w'.cell? ⟨gb274, 4, none⟩ = some (.slice A0_4 l0_4.length c0_4) ∧ w'.cell? ⟨gb274, 5, none⟩ = some (.slice A0_5 l0_5.length c0_5) ∧ w'.cell? (ad280.add (x60_2).toNat) = some (.int .i64 (rd l3 x60_2)) ∧ w'.cell? (ad281.add (((rd l3 x60_2)).toNat * 4)) = some (.int .i64 ((rd_T48 l0_3 (rd l3 x60_2)).f0)) ∧ w'.cell? ⟨(ad281.add (((rd l3 x60_2)).toNat * 4)).block, (ad281.add (((rd l3 x60_2)).toNat * 4)).off + 1, none⟩ = some (.int .i64 ((rd_T48 l0_3 (rd l3 x60_2)).f1)) ∧ w'.cell? ⟨(ad281.add (((rd l3 x60_2)).toNat * 4)).block, (ad281.add (((rd l3 x60_2)).toNat * 4)).off + 2, none⟩ = some (.int .i64 ((rd_T48 l0_3 (rd l3 x60_2)).f2)) ∧ w'.cell? ⟨(ad281.add (((rd l3 x60_2)).toNat * 4)).block, (ad281.add (((rd l3 x60_2)).toNat * 4)).off + 3, none⟩ = some (.int .i64 ((rd_T48 l0_3 (rd l3 x60_2)).f3)) ∧ w'.cell? (ad280.add ((ji31)).toNat) = some (.int .i64 (rd l3 (ji31))) ∧ w'.cell? (ad281.add (((rd l3 (ji31))).toNat * 4)) = some (.int .i64 ((rd_T48 l0_3 (rd l3 (ji31))).f0)) ∧ w'.cell? ⟨(ad281.add (((rd l3 (ji31))).toNat * 4)).block, (ad281.add (((rd l3 (ji31))).toNat * 4)).off + 1, none⟩ = some (.int .i64 ((rd_T48 l0_3 (rd l3 (ji31))).f1)) ∧ w'.cell? ⟨(ad281.add (((rd l3 (ji31))).toNat * 4)).block, (ad281.add (((rd l3 (ji31))).toNat * 4)).off + 2, none⟩ = some (.int .i64 ((rd_T48 l0_3 (rd l3 (ji31))).f2)) ∧ w'.cell? ⟨(ad281.add (((rd l3 (ji31))).toNat * 4)).block, (ad281.add (((rd l3 (ji31))).toNat * 4)).off + 3, none⟩ = some (.int .i64 ((rd_T48 l0_3 (rd l3 (ji31))).f3))) (ds := []) (bz 23 0) (by kernel_rfl) rfl rfl ⟨(blk_cell BK274.out 0).trans rfl, (blk_cell BK274.out 1).trans rfl, (blk_cell BK274.out 2).trans rfl, (blk_cell BK274.out 3).trans rfl, (blk_cell BK274.out 4).trans rfl, (blk_cell BK274.out 5).trans rfl, (hc_ HB hw280_0), (hc_ HB hw281_0), (hc_ HB hw281_1), (hc_ HB hw281_2), (hc_ HB hw281_3), (hc_ HB hw282_0), (hc_ HB hw283_0), (hc_ HB hw283_1), (hc_ HB hw283_2), (hc_ HB hw283_3)⟩ (fun hHeld => ?_); refine with_tabW jacquardref33_Walk.tab14 jacquardref33_Walk.bits14 (fun HT_ HW_ => ?_)
                   generalize wr.drew = w38 at BK274 HB hx280_0 hx281_0 hx281_1 hx281_2 hx281_3 hx282_0 hx283_0 hx283_1 hx283_2 hx283_3 hHeld ⊢
                   refine pu_ 0 63 HT_ ?_
                   refine pu_ 2 65 HT_ ?_
                   refine pu_ 3 66 HT_ ?_
                   refine pu_ 4 67 HT_ ?_
                   refine pu_ 9 72 HT_ ?_
                   refine pu_ 11 74 HT_ ?_
                   refine pu_ 12 75 HT_ ?_
                   refine pu_ 13 76 HT_ ?_
                   refine pu_ 14 77 HT_ ?_
                   refine pu_ 15 78 HT_ ?_
                   refine pu_ 16 79 HT_ ?_
                   refine pu_ 17 80 HT_ ?_
                   refine tk_ 1 64 HT_ HW_ hHeld ?_ (hy := by rintro w' ⟨s0, s1, s2, s3, s4, s5, s6, s7, s8, s9, s10, s11, s12, s13, s14, s15⟩; go_simp; with_reducible rfl)
                   refine tk_ 5 68 HT_ HW_ hHeld ?_ (hy := by rintro w' ⟨s0, s1, s2, s3, s4, s5, s6, s7, s8, s9, s10, s11, s12, s13, s14, s15⟩; go_simp; with_reducible rfl)
                   refine pu_ 6 69 HT_ ?_
                   refine pu_ 7 70 HT_ ?_
                   refine tk_ 8 71 HT_ HW_ hHeld ?_ (hy := by rintro w' ⟨s0, s1, s2, s3, s4, s5, s6, s7, s8, s9, s10, s11, s12, s13, s14, s15⟩; go_simp; with_reducible rfl)
                   refine tk_ 10 73 HT_ HW_ hHeld ?_ (hy := by rintro w' ⟨s0, s1, s2, s3, s4, s5, s6, s7, s8, s9, s10, s11, s12, s13, s14, s15⟩; go_simp; with_reducible rfl)
                   refine tk_ 18 81 HT_ HW_ hHeld ?_ (hy := by rintro w' ⟨s0, s1, s2, s3, s4, s5, s6, s7, s8, s9, s10, s11, s12, s13, s14, s15⟩; go_simp; with_reducible rfl)
                   refine pu_ 19 82 HT_ ?_
                   refine pu_ 20 83 HT_ ?_
                   refine tk_ 21 84 HT_ HW_ hHeld ?_ (hy := by rintro w' ⟨s0, s1, s2, s3, s4, s5, s6, s7, s8, s9, s10, s11, s12, s13, s14, s15⟩; go_simp; with_reducible rfl)
                   refine pu_ 22 85 HT_ ?_
                   refine done_ (done_of HT_.out (by kernel_rfl)) ?_
                   try go_wp2
                   go_ret2
                   exact ⟨by first | rfl | (simp [errW_none, errW_some] <;> rfl) | (simp only [← hji31]; first | rfl | (simp [errW_none, errW_some] <;> rfl)) | (simp [*, errW_none, errW_some] <;> rfl), by repeat (first | (with_reducible first | exact HB.out | apply below_alloc | apply pw_below_drewN | apply below_drew1 | refine below_set ?_ GE274.out) | exact HB.out)⟩
                 rw [if_neg c35] at H
                 exact absurd H (by simp)
               rw [if_neg c34] at H
               exact absurd H (by simp)
             rw [if_neg c33] at H
             exact absurd H (by simp)
           rw [if_neg c32] at H
           exact absurd H (by simp)
         rw [if_neg c29] at H
         exact absurd H (by simp)
       rw [if_neg c28] at H
       exact absurd H (by simp)
     rw [if_neg c27] at H
     exact absurd H (by simp)
   rw [if_neg c26] at H
   exact absurd H (by simp)
 rw [if_neg c25] at H
 have c25b0 : decide (x60_2 < (l3.length : Int)) = false := decide_eq_false c25
 clear c25
 by_cases c39 : 0 < (l3.length : Int)
 · rw [if_pos c39] at H
   have c39b0 : decide (0 < (l3.length : Int)) = true := decide_eq_true c39
   have c39b1 : decide (0 < l3.length) = true := decide_eq_true (by omega)
   clear c39
   by_cases c40 : 0 ≤ (rd l3 0)
   · rw [if_pos c40] at H
     have c40b0 : decide (0 ≤ (rd l3 0)) = true := decide_eq_true c40
     clear c40
     by_cases c41 : (rd l3 0) < (l0_3.length : Int)
     · rw [if_pos c41] at H
       have c41b0 : decide ((rd l3 0) < (l0_3.length : Int)) = true := decide_eq_true c41
       clear c41
       replace H := Option.bind_eq_some_iff.mp H
       obtain ⟨t286, A420, H⟩ := H
       replace H : (if x10_1 = true then (jacquardref33_Walk.j3 k2 a1 l2 l3 t286 (decide (t286 < 0)) a0_0 a0_1 a0_2 l0_3 l0_4 l0_5) else (jacquardref33_Walk.j3 k2 a1 l2 l3 t286 false a0_0 a0_1 a0_2 l0_3 l0_4 l0_5)) = some (r1, r2) := H
       have A42 := Aside0.mk A420
       clear A420
       have HC43 := Aside0.mk H
       clear H
       try go_wp2
       have n0_ := Aside0.mk (blk_drew BK274.out)
       have n1_ := Aside0.mk (below_drew1 HB.out)
       clear BK274
       clear HB
       have BK274 := n0_
       have HB := n1_
       clear n0_ n1_
       have p284 : 0 ≤ (0 : Int) := (by omega)
       have q284 : 0 < (l3.length : Int) := of_decide_eq_true (by first | (with_reducible assumption) | assumption)
       obtain ⟨ad284, e284, hx284_0⟩ := Kd.at_int HR3.out 0 p284 q284
       have hw284_0 := hx284_0
       (try rw [show ((0 : Int)).toNat = 0 from rfl] at hw284_0)
       (try rw [show 0 * 1 = 0 from rfl] at hw284_0)
       (try rw [Addr.add_zero'] at hw284_0)
       cases e284
       have qi284 : (0 < l3.length) = True := eq_true (by omega)
       (try rw [show ((0 : Int)).toNat = 0 from rfl] at hx284_0)
       (try rw [Addr.add_zero'] at hx284_0)
       replace hx284_0 := hc_ HB hx284_0
       replace p284 := eq_true p284
       replace q284 := eq_true q284
       have p285 : 0 ≤ ((rd l3 0) : Int) := of_decide_eq_true (by first | (with_reducible assumption) | assumption)
       have q285 : (rd l3 0) < (l0_3.length : Int) := of_decide_eq_true (by first | (with_reducible assumption) | assumption)
       obtain ⟨ad285, e285, hx285_0, hx285_1, hx285_2, hx285_3⟩ := at_T48 HR0_3.out (rd l3 0) p285 q285
       have hw285_3 := hx285_3
       have hw285_2 := hx285_2
       have hw285_1 := hx285_1
       have hw285_0 := hx285_0
       cases e285
       replace hx285_0 := hc_ HB hx285_0
       replace hx285_1 := hc_ HB hx285_1
       replace hx285_2 := hc_ HB hx285_2
       replace hx285_3 := hc_ HB hx285_3
       replace p285 := eq_true p285
       replace q285 := eq_true q285
       refine start_ (n := 12) (S := fun w' => w'.cell? ⟨gb274, 0, none⟩ = some (.int .i64 a0_0) ∧ w'.cell? ⟨gb274, 1, none⟩ = some (.int .i64 a0_1) ∧ w'.cell? ⟨gb274, 2, none⟩ = some (.bool a0_2) ∧ w'.cell? ⟨gb274, 3, none⟩ = some (.slice (some ad285) l0_3.length c0_3) ∧ w'.cell? ⟨gb274, 4, none⟩ = some (.slice A0_4 l0_4.length c0_4) ∧ w'.cell? ⟨gb274, 5, none⟩ = some (.slice A0_5 l0_5.length c0_5) ∧ w'.cell? ad284 = some (.int .i64 (rd l3 0)) ∧ w'.cell? (ad285.add (((rd l3 0)).toNat * 4)) = some (.int .i64 ((rd_T48 l0_3 (rd l3 0)).f0)) ∧ w'.cell? ⟨(ad285.add (((rd l3 0)).toNat * 4)).block, (ad285.add (((rd l3 0)).toNat * 4)).off + 1, none⟩ = some (.int .i64 ((rd_T48 l0_3 (rd l3 0)).f1)) ∧ w'.cell? ⟨(ad285.add (((rd l3 0)).toNat * 4)).block, (ad285.add (((rd l3 0)).toNat * 4)).off + 2, none⟩ = some (.int .i64 ((rd_T48 l0_3 (rd l3 0)).f2)) ∧ w'.cell? ⟨(ad285.add (((rd l3 0)).toNat * 4)).block, (ad285.add (((rd l3 0)).toNat * 4)).off + 3, none⟩ = some (.int .i64 ((rd_T48 l0_3 (rd l3 0)).f3))) (ds := []) (bz 12 0) (by kernel_rfl) rfl rfl ⟨(blk_cell BK274.out 0).trans rfl, (blk_cell BK274.out 1).trans rfl, (blk_cell BK274.out 2).trans rfl, (blk_cell BK274.out 3).trans rfl, (blk_cell BK274.out 4).trans rfl, (blk_cell BK274.out 5).trans rfl, (hc_ HB hw284_0), (hc_ HB hw285_0), (hc_ HB hw285_1), (hc_ HB hw285_2), (hc_ HB hw285_3)⟩ (fun hHeld => ?_); refine with_tabW jacquardref33_Walk.tab17 jacquardref33_Walk.bits17 (fun HT_ HW_ => ?_)
       generalize wr.drew = w44 at BK274 HB hx284_0 hx285_0 hx285_1 hx285_2 hx285_3 hHeld ⊢
       refine pu_ 1 88 HT_ ?_
       refine pu_ 2 89 HT_ ?_
       refine pu_ 4 91 HT_ ?_
       refine pu_ 5 92 HT_ ?_
       refine tk_ 0 87 HT_ HW_ hHeld ?_ (hy := by rintro w' ⟨s0, s1, s2, s3, s4, s5, s6, s7, s8, s9, s10⟩; go_simp; with_reducible rfl)
       refine tk_ 3 90 HT_ HW_ hHeld ?_ (hy := by rintro w' ⟨s0, s1, s2, s3, s4, s5, s6, s7, s8, s9, s10⟩; go_simp; with_reducible rfl)
       refine tk_ 6 93 HT_ HW_ hHeld ?_ (hy := by rintro w' ⟨s0, s1, s2, s3, s4, s5, s6, s7, s8, s9, s10⟩; go_simp; with_reducible rfl)
       refine pu_ 7 94 HT_ ?_
       refine pu_ 8 95 HT_ ?_
       refine tk_ 9 96 HT_ HW_ hHeld ?_ (hy := by rintro w' ⟨s0, s1, s2, s3, s4, s5, s6, s7, s8, s9, s10⟩; go_simp; with_reducible rfl)
       refine on_ 10 (some 97) HT_ (fun K hK => ?_)
       refine gs_ Try.func30 #[.agg #[.int .i64 a0_0, .int .i64 a0_1, .bool a0_2, .slice (some ad285) l0_3.length c0_3, .slice A0_4 l0_4.length c0_4, .slice A0_5 l0_5.length c0_5], .slice A2 l2.length c2, .int .i64 ((rd_T48 l0_3 (rd l3 0)).f0)] ?_
       with_reducible refine (jacquardref33_slot.calls k2 a0_0 a0_1 a0_2 _ _ l0_3 _ _ l0_4 _ _ l0_5 _ _ l2 ((rd_T48 l0_3 (rd l3 0)).f0) t286 _ ?side1 ?side2 ?side3 ?side4 ?side5 ?side6 ?side7 ?side8 A42.out).mono ?_
       (case side1 => exact CB_ HR0_3)
       (case side2 => exact HC0_3.out)
       (case side3 => exact CB_ HR0_4)
       (case side4 => exact HC0_4.out)
       (case side5 => exact CB_ HR0_5)
       (case side6 => exact HC0_5.out)
       (case side7 => exact CB_ HR2)
       (case side8 => exact HC2.out)
       rintro e w45 ⟨rfl, hb⟩
       refine ⟨_, rfl, ?_⟩
       have n0_ := Aside0.mk (blk_below (K_ BK274) hb)
       have n1_ := Aside0.mk (below_step bl_ hb)
       clear BK274
       clear HB
       have BK274 := n0_
       have HB := n1_
       clear n0_ n1_
       refine hK.out _ _ ⟨(blk_cell BK274.out 0).trans rfl, (blk_cell BK274.out 1).trans rfl, (blk_cell BK274.out 2).trans rfl, (blk_cell BK274.out 3).trans rfl, (blk_cell BK274.out 4).trans rfl, (blk_cell BK274.out 5).trans rfl, (hc_ HB hw284_0), (hc_ HB hw285_0), (hc_ HB hw285_1), (hc_ HB hw285_2), (hc_ HB hw285_3)⟩ (fun hHeld => ?_)
       clear hK K
       refine no_ 97 ?_
       refine pu_ 11 13 HT_ ?_
       refine done_ (done_of HT_.out (by kernel_rfl)) ?_
       go_upto_region 18 with (fail)
       go_cut [102] (fun v102 wc => ∃ (kq : Nat) (x102_42 : Bool), v102 = .bool x102_42 ∧ Aside0 (jacquardref33_Walk.j3 kq a1 l2 l3 t286 x102_42 a0_0 a0_1 a0_2 l0_3 l0_4 l0_5 = some (r1, r2)) ∧ Aside0 (kq ≤ k2) ∧ Aside0 (wc.heap[gb274]? = some (.cells #[.int .i64 a0_0, .int .i64 a0_1, .bool a0_2, (.slice (some ad285) l0_3.length c0_3), (.slice A0_4 l0_4.length c0_4), (.slice A0_5 l0_5.length c0_5)] 26 (0, 0))) ∧ Aside0 (Below w.heap.size w wc))
       case first =>
        have H := HC43.out
        clear HC43
        by_cases c46 : x10_1 = true
        · subst c46
          have H1 : (jacquardref33_Walk.j3 k2 a1 l2 l3 t286 (decide (t286 < 0)) a0_0 a0_1 a0_2 l0_3 l0_4 l0_5) = some (r1, r2) := by rw [if_pos rfl] at H; exact H
          clear H
          have H := H1
          clear H1
          have H' := Aside0.mk H
          clear H
          go_wp2
          go_meet
          case rel => exact ⟨_, (decide (t286 < 0)), (by first | rfl | (simp; done) | (simp [*]; done)), H', ⟨by have := HK1.out; have := HK2.out; first | omega | exact Nat.le_refl _⟩, ⟨K_ BK274⟩, ⟨bl_⟩⟩
        replace c46 := Bool.eq_false_iff.mpr c46
        subst c46
        have H1 : (jacquardref33_Walk.j3 k2 a1 l2 l3 t286 false a0_0 a0_1 a0_2 l0_3 l0_4 l0_5) = some (r1, r2) := by rw [if_neg (show ¬ (false = true) by decide)] at H; exact H
        clear H
        have H := H1
        clear H1
        have H' := Aside0.mk H
        clear H
        go_wp2
        go_meet
        case rel => exact ⟨_, (false), (by first | rfl | (simp; done) | (simp [*]; done)), H', ⟨by have := HK1.out; have := HK2.out; first | omega | exact Nat.le_refl _⟩, ⟨K_ BK274⟩, ⟨bl_⟩⟩
       clear HC43
       obtain ⟨kq, x102_42, rfl, HA, HJ42, BK274, HB⟩ := hcut
       cases kq with
       | zero => exact absurd HA.out (by simp [jacquardref33_Walk.j3])
       | succ kj42 => ?_
       have H := HA.out
       clear HA
       simp only [jacquardref33_Walk.j3] at H
       by_cases c47 : x102_42 = true
       · subst c47
         have H1 : (some (0, false)) = some (r1, r2) := by rw [if_pos rfl] at H; exact H
         clear H
         have H := H1
         clear H1
         simp only [Option.some.injEq, Prod.mk.injEq] at H
         obtain ⟨rfl, rfl⟩ := H
         go_wp2
         go_ret2
         exact ⟨by first | rfl | (simp [errW_none, errW_some] <;> rfl) | (simp [*, errW_none, errW_some] <;> rfl), by repeat (first | (with_reducible first | exact HB.out | apply below_alloc | apply pw_below_drewN | apply below_drew1 | refine below_set ?_ GE274.out) | exact HB.out)⟩
       replace c47 := Bool.eq_false_iff.mpr c47
       subst c47
       have H1 : (jacquardref33_Walk.l2 kj42 a1 l2 l3 t286 0 (l3.length : Int) 0 a0_0 a0_1 a0_2 l0_3 l0_4 l0_5) = some (r1, r2) := by rw [if_neg (show ¬ (false = true) by decide)] at H; exact H
       clear H
       have H := H1
       clear H1
       have H' := Aside0.mk H
       clear H
       go_wp2
       go_loopg [14, 105] kj42 (fun kq v14 v105 w' => ∃ (x14_4 : Int) (x105_4 : Int), v14 = .int .i64 x14_4 ∧ v105 = .int .i64 x105_4 ∧ Aside0 (jacquardref33_Walk.l2 kq a1 l2 l3 t286 x14_4 (l3.length : Int) x105_4 a0_0 a0_1 a0_2 l0_3 l0_4 l0_5 = some (r1, r2)) ∧ Aside0 (kq ≤ kj42) ∧ Aside0 (w'.heap[gb274]? = some (.cells #[.int .i64 a0_0, .int .i64 a0_1, .bool a0_2, (.slice (some ad285) l0_3.length c0_3), (.slice A0_4 l0_4.length c0_4), (.slice A0_5 l0_5.length c0_5)] 26 (0, 0))) ∧ Aside0 (Below w.heap.size w w'))
       case atStart => exact ⟨(0), (0), (by first | rfl | (simp; done) | (simp [*]; done)), (by first | rfl | (simp; done) | (simp [*]; done)), H', ⟨Nat.le_refl _⟩, ⟨K_ BK274⟩, ⟨bl_⟩⟩
       clear H'
       obtain ⟨x14_4, x105_4, rfl, rfl, HA, HK4, BK274, HB⟩ := hrel
       cases gk with
       | zero => exact absurd HA.out (by simp [jacquardref33_Walk.l2])
       | succ k4 => ?_
       have H := HA.out
       clear HA
       simp only [jacquardref33_Walk.l2] at H
       by_cases c48 : x105_4 < (l3.length : Int)
       · rw [if_pos c48] at H
         have c48b0 : decide (x105_4 < (l3.length : Int)) = true := decide_eq_true c48
         clear c48
         by_cases c49 : 0 ≤ x105_4
         · rw [if_pos c49] at H
           have c49b0 : decide (0 ≤ x105_4) = true := decide_eq_true c49
           clear c49
           by_cases c50 : x105_4 < (l3.length : Int)
           · rw [if_pos c50] at H
             have c50b0 : decide (x105_4 < (l3.length : Int)) = true := decide_eq_true c50
             clear c50
             by_cases c51 : 0 ≤ (rd l3 x105_4)
             · rw [if_pos c51] at H
               have c51b0 : decide (0 ≤ (rd l3 x105_4)) = true := decide_eq_true c51
               clear c51
               by_cases c52 : (rd l3 x105_4) < (l0_3.length : Int)
               · rw [if_pos c52] at H
                 have c52b0 : decide ((rd l3 x105_4) < (l0_3.length : Int)) = true := decide_eq_true c52
                 clear c52
                 replace H := Option.bind_eq_some_iff.mp H
                 obtain ⟨t290, A530, H⟩ := H
                 replace H : ((jacquardref33_slot.f k4 a0_0 a0_1 a0_2 l0_3 l0_4 l0_5 l2 ((rd_T48 l0_3 (rd l3 x105_4)).f1)).bind fun t291 => (if t291 ≥ 0 then ((jacquardref33_mod.f (wrap64 ((wrap64 (t291 - t286)) - (wrap64 (x14_4 + t290)))) a1).bind fun t292 => (jacquardref33_Walk.l2 k4 a1 l2 l3 t286 (wrap64 ((wrap64 (x14_4 + t290)) + t292)) (l3.length : Int) (wrap64 (x105_4 + 1)) a0_0 a0_1 a0_2 l0_3 l0_4 l0_5)) else (jacquardref33_Walk.l2 k4 a1 l2 l3 t286 (wrap64 (x14_4 + t290)) (l3.length : Int) (wrap64 (x105_4 + 1)) a0_0 a0_1 a0_2 l0_3 l0_4 l0_5))) = some (r1, r2) := H
                 have A53 := Aside0.mk A530
                 clear A530
                 replace H := Option.bind_eq_some_iff.mp H
                 obtain ⟨t291, A540, H⟩ := H
                 replace H : (if t291 ≥ 0 then ((jacquardref33_mod.f (wrap64 ((wrap64 (t291 - t286)) - (wrap64 (x14_4 + t290)))) a1).bind fun t292 => (jacquardref33_Walk.l2 k4 a1 l2 l3 t286 (wrap64 ((wrap64 (x14_4 + t290)) + t292)) (l3.length : Int) (wrap64 (x105_4 + 1)) a0_0 a0_1 a0_2 l0_3 l0_4 l0_5)) else (jacquardref33_Walk.l2 k4 a1 l2 l3 t286 (wrap64 (x14_4 + t290)) (l3.length : Int) (wrap64 (x105_4 + 1)) a0_0 a0_1 a0_2 l0_3 l0_4 l0_5)) = some (r1, r2) := H
                 have A54 := Aside0.mk A540
                 clear A540
                 by_cases c55 : t291 ≥ 0
                 · rw [if_pos c55] at H
                   have c55b0 : decide (0 ≤ t291) = true := decide_eq_true c55
                   clear c55
                   replace H := Option.bind_eq_some_iff.mp H
                   obtain ⟨t292, A560, H⟩ := H
                   replace H : (jacquardref33_Walk.l2 k4 a1 l2 l3 t286 (wrap64 ((wrap64 (x14_4 + t290)) + t292)) (l3.length : Int) (wrap64 (x105_4 + 1)) a0_0 a0_1 a0_2 l0_3 l0_4 l0_5) = some (r1, r2) := H
                   have A56 := Aside0.mk A560
                   clear A560
                   have H' := Aside0.mk H
                   clear H
                   try go_wp2
                   have n0_ := Aside0.mk (blk_drew BK274.out)
                   have n1_ := Aside0.mk (below_drew1 HB.out)
                   clear BK274
                   clear HB
                   have BK274 := n0_
                   have HB := n1_
                   clear n0_ n1_
                   have p287 : 0 ≤ (x105_4 : Int) := of_decide_eq_true (by first | (with_reducible assumption) | assumption)
                   have q287 : x105_4 < (l3.length : Int) := of_decide_eq_true (by first | (with_reducible assumption) | assumption)
                   obtain ⟨ad287, e287, hx287_0⟩ := Kd.at_int HR3.out x105_4 p287 q287
                   have hw287_0 := hx287_0
                   obtain rfl : ad284 = ad287 := (by injection e287)
                   replace hx287_0 := hc_ HB hx287_0
                   replace p287 := eq_true p287
                   replace q287 := eq_true q287
                   have p288 : 0 ≤ ((rd l3 x105_4) : Int) := of_decide_eq_true (by first | (with_reducible assumption) | assumption)
                   have q288 : (rd l3 x105_4) < (l0_3.length : Int) := of_decide_eq_true (by first | (with_reducible assumption) | assumption)
                   obtain ⟨ad288, e288, hx288_0, hx288_1, hx288_2, hx288_3⟩ := at_T48 HR0_3.out (rd l3 x105_4) p288 q288
                   have hw288_3 := hx288_3
                   have hw288_2 := hx288_2
                   have hw288_1 := hx288_1
                   have hw288_0 := hx288_0
                   obtain rfl : ad285 = ad288 := (by injection e288)
                   replace hx288_0 := hc_ HB hx288_0
                   replace hx288_1 := hc_ HB hx288_1
                   replace hx288_2 := hc_ HB hx288_2
                   replace hx288_3 := hc_ HB hx288_3
                   replace p288 := eq_true p288
                   replace q288 := eq_true q288
                   refine start_ (n := 10) (S := fun w' => w'.cell? ⟨gb274, 0, none⟩ = some (.int .i64 a0_0) ∧ w'.cell? ⟨gb274, 1, none⟩ = some (.int .i64 a0_1) ∧ w'.cell? ⟨gb274, 2, none⟩ = some (.bool a0_2) ∧ w'.cell? ⟨gb274, 3, none⟩ = some (.slice (some ad285) l0_3.length c0_3) ∧ w'.cell? ⟨gb274, 4, none⟩ = some (.slice A0_4 l0_4.length c0_4) ∧ w'.cell? ⟨gb274, 5, none⟩ = some (.slice A0_5 l0_5.length c0_5) ∧ w'.cell? (ad284.add (x105_4).toNat) = some (.int .i64 (rd l3 x105_4)) ∧ w'.cell? (ad285.add (((rd l3 x105_4)).toNat * 4)) = some (.int .i64 ((rd_T48 l0_3 (rd l3 x105_4)).f0)) ∧ w'.cell? ⟨(ad285.add (((rd l3 x105_4)).toNat * 4)).block, (ad285.add (((rd l3 x105_4)).toNat * 4)).off + 1, none⟩ = some (.int .i64 ((rd_T48 l0_3 (rd l3 x105_4)).f1)) ∧ w'.cell? ⟨(ad285.add (((rd l3 x105_4)).toNat * 4)).block, (ad285.add (((rd l3 x105_4)).toNat * 4)).off + 2, none⟩ = some (.int .i64 ((rd_T48 l0_3 (rd l3 x105_4)).f2)) ∧ w'.cell? ⟨(ad285.add (((rd l3 x105_4)).toNat * 4)).block, (ad285.add (((rd l3 x105_4)).toNat * 4)).off + 3, none⟩ = some (.int .i64 ((rd_T48 l0_3 (rd l3 x105_4)).f3))) (ds := []) (bz 10 0) (by kernel_rfl) rfl rfl ⟨(blk_cell BK274.out 0).trans rfl, (blk_cell BK274.out 1).trans rfl, (blk_cell BK274.out 2).trans rfl, (blk_cell BK274.out 3).trans rfl, (blk_cell BK274.out 4).trans rfl, (blk_cell BK274.out 5).trans rfl, (hc_ HB hw287_0), (hc_ HB hw288_0), (hc_ HB hw288_1), (hc_ HB hw288_2), (hc_ HB hw288_3)⟩ (fun hHeld => ?_); refine with_tabW jacquardref33_Walk.tab24 jacquardref33_Walk.bits24 (fun HT_ HW_ => ?_)
                   generalize wr.drew = w57 at BK274 HB hx287_0 hx288_0 hx288_1 hx288_2 hx288_3 hHeld ⊢
                   refine pu_ 0 108 HT_ ?_
                   refine pu_ 2 110 HT_ ?_
                   refine pu_ 3 111 HT_ ?_
                   refine pu_ 4 112 HT_ ?_
                   refine tk_ 1 109 HT_ HW_ hHeld ?_ (hy := by rintro w' ⟨s0, s1, s2, s3, s4, s5, s6, s7, s8, s9, s10⟩; go_simp; with_reducible rfl)
                   refine tk_ 5 113 HT_ HW_ hHeld ?_ (hy := by rintro w' ⟨s0, s1, s2, s3, s4, s5, s6, s7, s8, s9, s10⟩; go_simp; with_reducible rfl)
                   refine pu_ 6 114 HT_ ?_
                   refine tk_ 7 115 HT_ HW_ hHeld ?_ (hy := by rintro w' ⟨s0, s1, s2, s3, s4, s5, s6, s7, s8, s9, s10⟩; go_simp; with_reducible rfl)
                   refine on_ 8 (some 16) HT_ (fun K hK => ?_)
                   refine box_step ?hg (N := 16) ?hd (cs := #[.int .i64 0, .int .i64 0, .int .i64 0, .int .i64 0]) (t := 48) ?hr ?_; (case hd => rfl); (case hg => rfl); (case hr => first | (go_simp; done) | (go_simp; rfl))
                   intro gb289 hg w58 hbox hb
                   have n0_ := Aside0.mk (blk_below (K_ BK274) hb)
                   have n1_ := Aside0.mk (below_step bl_ hb)
                   have n2_ := Aside0.mk (hbox)
                   have n3_ := Aside0.mk (gl_ (w := w) hg)
                   have n4_ := Aside0.mk (gl_ (w := w) hg)
                   have n5_ := Aside0.mk (nl_ hg (K_ BK274))
                   have n6_ := Aside0.mk (ng_ hg (K_ BK274))
                   clear BK274
                   clear HB
                   have BK274 := n0_
                   have HB := n1_
                   have BK289 := n2_
                   have GW289 := n3_
                   have GE289 := n4_
                   have NB274_289 := n5_
                   have NB289_274 := n6_
                   clear n0_ n1_ n2_ n3_ n4_ n5_ n6_
                   clear hb hbox hg
                   refine hK.out _ _ ⟨(blk_cell BK274.out 0).trans rfl, (blk_cell BK274.out 1).trans rfl, (blk_cell BK274.out 2).trans rfl, (blk_cell BK274.out 3).trans rfl, (blk_cell BK274.out 4).trans rfl, (blk_cell BK274.out 5).trans rfl, (hc_ HB hw287_0), (hc_ HB hw288_0), (hc_ HB hw288_1), (hc_ HB hw288_2), (hc_ HB hw288_3)⟩ (fun hHeld => ?_)
                   clear hK K
                   refine no_ 16 ?_
                   refine on_ 9 none HT_ (fun K hK => ?_)
                   have hs59 : w58.cell? ⟨gb289, 0, none⟩ = some (.int .i64 0) := (blk_cell BK289.out 0).trans rfl
                   have hfs59 := blk_frozen BK289.out 0
                   have hns59_0 := NB274_289.out
                   have hms59_0 := NB289_274.out
                   have hs60 : w58.cell? ⟨gb289, 1, none⟩ = some (.int .i64 0) := (blk_cell BK289.out 1).trans rfl
                   have hfs60 := blk_frozen BK289.out 1
                   have hns60_0 := NB274_289.out
                   have hms60_0 := NB289_274.out
                   have hs61 : w58.cell? ⟨gb289, 2, none⟩ = some (.int .i64 0) := (blk_cell BK289.out 2).trans rfl
                   have hfs61 := blk_frozen BK289.out 2
                   have hns61_0 := NB274_289.out
                   have hms61_0 := NB289_274.out
                   have hs62 : w58.cell? ⟨gb289, 3, none⟩ = some (.int .i64 0) := (blk_cell BK289.out 3).trans rfl
                   have hfs62 := blk_frozen BK289.out 3
                   have hns62_0 := NB274_289.out
                   have hms62_0 := NB289_274.out
                   refine skip_ (w1 := ?_) (by rfl) rfl ?_ ?_
                   rotate_left
                   · go_simp
                     rfl
                   refine hK.out _ _ ⟨((cell_far (p := ⟨gb289, _, none⟩) NB274_289.out _).trans (((cell_far (p := ⟨gb289, _, none⟩) NB274_289.out _).trans (((cell_far (p := ⟨gb289, _, none⟩) NB274_289.out _).trans (((cell_far (p := ⟨gb289, _, none⟩) NB274_289.out _).trans (hHeld.1)))))))), ((cell_far (p := ⟨gb289, _, none⟩) NB274_289.out _).trans (((cell_far (p := ⟨gb289, _, none⟩) NB274_289.out _).trans (((cell_far (p := ⟨gb289, _, none⟩) NB274_289.out _).trans (((cell_far (p := ⟨gb289, _, none⟩) NB274_289.out _).trans (hHeld.2.1)))))))), ((cell_far (p := ⟨gb289, _, none⟩) NB274_289.out _).trans (((cell_far (p := ⟨gb289, _, none⟩) NB274_289.out _).trans (((cell_far (p := ⟨gb289, _, none⟩) NB274_289.out _).trans (((cell_far (p := ⟨gb289, _, none⟩) NB274_289.out _).trans (hHeld.2.2.1)))))))), ((cell_far (p := ⟨gb289, _, none⟩) NB274_289.out _).trans (((cell_far (p := ⟨gb289, _, none⟩) NB274_289.out _).trans (((cell_far (p := ⟨gb289, _, none⟩) NB274_289.out _).trans (((cell_far (p := ⟨gb289, _, none⟩) NB274_289.out _).trans (hHeld.2.2.2.1)))))))), ((cell_far (p := ⟨gb289, _, none⟩) NB274_289.out _).trans (((cell_far (p := ⟨gb289, _, none⟩) NB274_289.out _).trans (((cell_far (p := ⟨gb289, _, none⟩) NB274_289.out _).trans (((cell_far (p := ⟨gb289, _, none⟩) NB274_289.out _).trans (hHeld.2.2.2.2.1)))))))), ((cell_far (p := ⟨gb289, _, none⟩) NB274_289.out _).trans (((cell_far (p := ⟨gb289, _, none⟩) NB274_289.out _).trans (((cell_far (p := ⟨gb289, _, none⟩) NB274_289.out _).trans (((cell_far (p := ⟨gb289, _, none⟩) NB274_289.out _).trans (hHeld.2.2.2.2.2.1)))))))), ((cell_far (p := ⟨gb289, _, none⟩) (by first | exact Nat.ne_of_lt (Nat.lt_of_lt_of_le (by have := World.block_lt_of_cell? _ _ hw287_0; first | rwa [add_block] at this | exact this) GW289.out) | (rw [add_block]; exact Nat.ne_of_lt (Nat.lt_of_lt_of_le (by have := World.block_lt_of_cell? _ _ hw287_0; first | rwa [add_block] at this | exact this) GW289.out)) | (show (Addr.add _ _).block ≠ _; rw [add_block]; exact Nat.ne_of_lt (Nat.lt_of_lt_of_le (by have := World.block_lt_of_cell? _ _ hw287_0; first | rwa [add_block] at this | exact this) GW289.out)) | (dsimp only; exact Nat.ne_of_lt (Nat.lt_of_lt_of_le (by have := World.block_lt_of_cell? _ _ hw287_0; first | rwa [add_block] at this | exact this) GW289.out))) _).trans (((cell_far (p := ⟨gb289, _, none⟩) (by first | exact Nat.ne_of_lt (Nat.lt_of_lt_of_le (by have := World.block_lt_of_cell? _ _ hw287_0; first | rwa [add_block] at this | exact this) GW289.out) | (rw [add_block]; exact Nat.ne_of_lt (Nat.lt_of_lt_of_le (by have := World.block_lt_of_cell? _ _ hw287_0; first | rwa [add_block] at this | exact this) GW289.out)) | (show (Addr.add _ _).block ≠ _; rw [add_block]; exact Nat.ne_of_lt (Nat.lt_of_lt_of_le (by have := World.block_lt_of_cell? _ _ hw287_0; first | rwa [add_block] at this | exact this) GW289.out)) | (dsimp only; exact Nat.ne_of_lt (Nat.lt_of_lt_of_le (by have := World.block_lt_of_cell? _ _ hw287_0; first | rwa [add_block] at this | exact this) GW289.out))) _).trans (((cell_far (p := ⟨gb289, _, none⟩) (by first | exact Nat.ne_of_lt (Nat.lt_of_lt_of_le (by have := World.block_lt_of_cell? _ _ hw287_0; first | rwa [add_block] at this | exact this) GW289.out) | (rw [add_block]; exact Nat.ne_of_lt (Nat.lt_of_lt_of_le (by have := World.block_lt_of_cell? _ _ hw287_0; first | rwa [add_block] at this | exact this) GW289.out)) | (show (Addr.add _ _).block ≠ _; rw [add_block]; exact Nat.ne_of_lt (Nat.lt_of_lt_of_le (by have := World.block_lt_of_cell? _ _ hw287_0; first | rwa [add_block] at this | exact this) GW289.out)) | (dsimp only; exact Nat.ne_of_lt (Nat.lt_of_lt_of_le (by have := World.block_lt_of_cell? _ _ hw287_0; first | rwa [add_block] at this | exact this) GW289.out))) _).trans (((cell_far (p := ⟨gb289, _, none⟩) (by first | exact Nat.ne_of_lt (Nat.lt_of_lt_of_le (by have := World.block_lt_of_cell? _ _ hw287_0; first | rwa [add_block] at this | exact this) GW289.out) | (rw [add_block]; exact Nat.ne_of_lt (Nat.lt_of_lt_of_le (by have := World.block_lt_of_cell? _ _ hw287_0; first | rwa [add_block] at this | exact this) GW289.out)) | (show (Addr.add _ _).block ≠ _; rw [add_block]; exact Nat.ne_of_lt (Nat.lt_of_lt_of_le (by have := World.block_lt_of_cell? _ _ hw287_0; first | rwa [add_block] at this | exact this) GW289.out)) | (dsimp only; exact Nat.ne_of_lt (Nat.lt_of_lt_of_le (by have := World.block_lt_of_cell? _ _ hw287_0; first | rwa [add_block] at this | exact this) GW289.out))) _).trans (hHeld.2.2.2.2.2.2.1)))))))), ((cell_far (p := ⟨gb289, _, none⟩) (by first | exact Nat.ne_of_lt (Nat.lt_of_lt_of_le (by have := World.block_lt_of_cell? _ _ hw288_0; first | rwa [add_block] at this | exact this) GW289.out) | (rw [add_block]; exact Nat.ne_of_lt (Nat.lt_of_lt_of_le (by have := World.block_lt_of_cell? _ _ hw288_0; first | rwa [add_block] at this | exact this) GW289.out)) | (show (Addr.add _ _).block ≠ _; rw [add_block]; exact Nat.ne_of_lt (Nat.lt_of_lt_of_le (by have := World.block_lt_of_cell? _ _ hw288_0; first | rwa [add_block] at this | exact this) GW289.out)) | (dsimp only; exact Nat.ne_of_lt (Nat.lt_of_lt_of_le (by have := World.block_lt_of_cell? _ _ hw288_0; first | rwa [add_block] at this | exact this) GW289.out))) _).trans (((cell_far (p := ⟨gb289, _, none⟩) (by first | exact Nat.ne_of_lt (Nat.lt_of_lt_of_le (by have := World.block_lt_of_cell? _ _ hw288_0; first | rwa [add_block] at this | exact this) GW289.out) | (rw [add_block]; exact Nat.ne_of_lt (Nat.lt_of_lt_of_le (by have := World.block_lt_of_cell? _ _ hw288_0; first | rwa [add_block] at this | exact this) GW289.out)) | (show (Addr.add _ _).block ≠ _; rw [add_block]; exact Nat.ne_of_lt (Nat.lt_of_lt_of_le (by have := World.block_lt_of_cell? _ _ hw288_0; first | rwa [add_block] at this | exact this) GW289.out)) | (dsimp only; exact Nat.ne_of_lt (Nat.lt_of_lt_of_le (by have := World.block_lt_of_cell? _ _ hw288_0; first | rwa [add_block] at this | exact this) GW289.out))) _).trans (((cell_far (p := ⟨gb289, _, none⟩) (by first | exact Nat.ne_of_lt (Nat.lt_of_lt_of_le (by have := World.block_lt_of_cell? _ _ hw288_0; first | rwa [add_block] at this | exact this) GW289.out) | (rw [add_block]; exact Nat.ne_of_lt (Nat.lt_of_lt_of_le (by have := World.block_lt_of_cell? _ _ hw288_0; first | rwa [add_block] at this | exact this) GW289.out)) | (show (Addr.add _ _).block ≠ _; rw [add_block]; exact Nat.ne_of_lt (Nat.lt_of_lt_of_le (by have := World.block_lt_of_cell? _ _ hw288_0; first | rwa [add_block] at this | exact this) GW289.out)) | (dsimp only; exact Nat.ne_of_lt (Nat.lt_of_lt_of_le (by have := World.block_lt_of_cell? _ _ hw288_0; first | rwa [add_block] at this | exact this) GW289.out))) _).trans (((cell_far (p := ⟨gb289, _, none⟩) (by first | exact Nat.ne_of_lt (Nat.lt_of_lt_of_le (by have := World.block_lt_of_cell? _ _ hw288_0; first | rwa [add_block] at this | exact this) GW289.out) | (rw [add_block]; exact Nat.ne_of_lt (Nat.lt_of_lt_of_le (by have := World.block_lt_of_cell? _ _ hw288_0; first | rwa [add_block] at this | exact this) GW289.out)) | (show (Addr.add _ _).block ≠ _; rw [add_block]; exact Nat.ne_of_lt (Nat.lt_of_lt_of_le (by have := World.block_lt_of_cell? _ _ hw288_0; first | rwa [add_block] at this | exact this) GW289.out)) | (dsimp only; exact Nat.ne_of_lt (Nat.lt_of_lt_of_le (by have := World.block_lt_of_cell? _ _ hw288_0; first | rwa [add_block] at this | exact this) GW289.out))) _).trans (hHeld.2.2.2.2.2.2.2.1)))))))), ((cell_far (p := ⟨gb289, _, none⟩) (by first | exact Nat.ne_of_lt (Nat.lt_of_lt_of_le (by have := World.block_lt_of_cell? _ _ hw288_1; first | rwa [add_block] at this | exact this) GW289.out) | (rw [add_block]; exact Nat.ne_of_lt (Nat.lt_of_lt_of_le (by have := World.block_lt_of_cell? _ _ hw288_1; first | rwa [add_block] at this | exact this) GW289.out)) | (show (Addr.add _ _).block ≠ _; rw [add_block]; exact Nat.ne_of_lt (Nat.lt_of_lt_of_le (by have := World.block_lt_of_cell? _ _ hw288_1; first | rwa [add_block] at this | exact this) GW289.out)) | (dsimp only; exact Nat.ne_of_lt (Nat.lt_of_lt_of_le (by have := World.block_lt_of_cell? _ _ hw288_1; first | rwa [add_block] at this | exact this) GW289.out))) _).trans (((cell_far (p := ⟨gb289, _, none⟩) (by first | exact Nat.ne_of_lt (Nat.lt_of_lt_of_le (by have := World.block_lt_of_cell? _ _ hw288_1; first | rwa [add_block] at this | exact this) GW289.out) | (rw [add_block]; exact Nat.ne_of_lt (Nat.lt_of_lt_of_le (by have := World.block_lt_of_cell? _ _ hw288_1; first | rwa [add_block] at this | exact this) GW289.out)) | (show (Addr.add _ _).block ≠ _; rw [add_block]; exact Nat.ne_of_lt (Nat.lt_of_lt_of_le (by have := World.block_lt_of_cell? _ _ hw288_1; first | rwa [add_block] at this | exact this) GW289.out)) | (dsimp only; exact Nat.ne_of_lt (Nat.lt_of_lt_of_le (by have := World.block_lt_of_cell? _ _ hw288_1; first | rwa [add_block] at this | exact this) GW289.out))) _).trans (((cell_far (p := ⟨gb289, _, none⟩) (by first | exact Nat.ne_of_lt (Nat.lt_of_lt_of_le (by have := World.block_lt_of_cell? _ _ hw288_1; first | rwa [add_block] at this | exact this) GW289.out) | (rw [add_block]; exact Nat.ne_of_lt (Nat.lt_of_lt_of_le (by have := World.block_lt_of_cell? _ _ hw288_1; first | rwa [add_block] at this | exact this) GW289.out)) | (show (Addr.add _ _).block ≠ _; rw [add_block]; exact Nat.ne_of_lt (Nat.lt_of_lt_of_le (by have := World.block_lt_of_cell? _ _ hw288_1; first | rwa [add_block] at this | exact this) GW289.out)) | (dsimp only; exact Nat.ne_of_lt (Nat.lt_of_lt_of_le (by have := World.block_lt_of_cell? _ _ hw288_1; first | rwa [add_block] at this | exact this) GW289.out))) _).trans (((cell_far (p := ⟨gb289, _, none⟩) (by first | exact Nat.ne_of_lt (Nat.lt_of_lt_of_le (by have := World.block_lt_of_cell? _ _ hw288_1; first | rwa [add_block] at this | exact this) GW289.out) | (rw [add_block]; exact Nat.ne_of_lt (Nat.lt_of_lt_of_le (by have := World.block_lt_of_cell? _ _ hw288_1; first | rwa [add_block] at this | exact this) GW289.out)) | (show (Addr.add _ _).block ≠ _; rw [add_block]; exact Nat.ne_of_lt (Nat.lt_of_lt_of_le (by have := World.block_lt_of_cell? _ _ hw288_1; first | rwa [add_block] at this | exact this) GW289.out)) | (dsimp only; exact Nat.ne_of_lt (Nat.lt_of_lt_of_le (by have := World.block_lt_of_cell? _ _ hw288_1; first | rwa [add_block] at this | exact this) GW289.out))) _).trans (hHeld.2.2.2.2.2.2.2.2.1)))))))), ((cell_far (p := ⟨gb289, _, none⟩) (by first | exact Nat.ne_of_lt (Nat.lt_of_lt_of_le (by have := World.block_lt_of_cell? _ _ hw288_2; first | rwa [add_block] at this | exact this) GW289.out) | (rw [add_block]; exact Nat.ne_of_lt (Nat.lt_of_lt_of_le (by have := World.block_lt_of_cell? _ _ hw288_2; first | rwa [add_block] at this | exact this) GW289.out)) | (show (Addr.add _ _).block ≠ _; rw [add_block]; exact Nat.ne_of_lt (Nat.lt_of_lt_of_le (by have := World.block_lt_of_cell? _ _ hw288_2; first | rwa [add_block] at this | exact this) GW289.out)) | (dsimp only; exact Nat.ne_of_lt (Nat.lt_of_lt_of_le (by have := World.block_lt_of_cell? _ _ hw288_2; first | rwa [add_block] at this | exact this) GW289.out))) _).trans (((cell_far (p := ⟨gb289, _, none⟩) (by first | exact Nat.ne_of_lt (Nat.lt_of_lt_of_le (by have := World.block_lt_of_cell? _ _ hw288_2; first | rwa [add_block] at this | exact this) GW289.out) | (rw [add_block]; exact Nat.ne_of_lt (Nat.lt_of_lt_of_le (by have := World.block_lt_of_cell? _ _ hw288_2; first | rwa [add_block] at this | exact this) GW289.out)) | (show (Addr.add _ _).block ≠ _; rw [add_block]; exact Nat.ne_of_lt (Nat.lt_of_lt_of_le (by have := World.block_lt_of_cell? _ _ hw288_2; first | rwa [add_block] at this | exact this) GW289.out)) | (dsimp only; exact Nat.ne_of_lt (Nat.lt_of_lt_of_le (by have := World.block_lt_of_cell? _ _ hw288_2; first | rwa [add_block] at this | exact this) GW289.out))) _).trans (((cell_far (p := ⟨gb289, _, none⟩) (by first | exact Nat.ne_of_lt (Nat.lt_of_lt_of_le (by have := World.block_lt_of_cell? _ _ hw288_2; first | rwa [add_block] at this | exact this) GW289.out) | (rw [add_block]; exact Nat.ne_of_lt (Nat.lt_of_lt_of_le (by have := World.block_lt_of_cell? _ _ hw288_2; first | rwa [add_block] at this | exact this) GW289.out)) | (show (Addr.add _ _).block ≠ _; rw [add_block]; exact Nat.ne_of_lt (Nat.lt_of_lt_of_le (by have := World.block_lt_of_cell? _ _ hw288_2; first | rwa [add_block] at this | exact this) GW289.out)) | (dsimp only; exact Nat.ne_of_lt (Nat.lt_of_lt_of_le (by have := World.block_lt_of_cell? _ _ hw288_2; first | rwa [add_block] at this | exact this) GW289.out))) _).trans (((cell_far (p := ⟨gb289, _, none⟩) (by first | exact Nat.ne_of_lt (Nat.lt_of_lt_of_le (by have := World.block_lt_of_cell? _ _ hw288_2; first | rwa [add_block] at this | exact this) GW289.out) | (rw [add_block]; exact Nat.ne_of_lt (Nat.lt_of_lt_of_le (by have := World.block_lt_of_cell? _ _ hw288_2; first | rwa [add_block] at this | exact this) GW289.out)) | (show (Addr.add _ _).block ≠ _; rw [add_block]; exact Nat.ne_of_lt (Nat.lt_of_lt_of_le (by have := World.block_lt_of_cell? _ _ hw288_2; first | rwa [add_block] at this | exact this) GW289.out)) | (dsimp only; exact Nat.ne_of_lt (Nat.lt_of_lt_of_le (by have := World.block_lt_of_cell? _ _ hw288_2; first | rwa [add_block] at this | exact this) GW289.out))) _).trans (hHeld.2.2.2.2.2.2.2.2.2.1)))))))), ((cell_far (p := ⟨gb289, _, none⟩) (by first | exact Nat.ne_of_lt (Nat.lt_of_lt_of_le (by have := World.block_lt_of_cell? _ _ hw288_3; first | rwa [add_block] at this | exact this) GW289.out) | (rw [add_block]; exact Nat.ne_of_lt (Nat.lt_of_lt_of_le (by have := World.block_lt_of_cell? _ _ hw288_3; first | rwa [add_block] at this | exact this) GW289.out)) | (show (Addr.add _ _).block ≠ _; rw [add_block]; exact Nat.ne_of_lt (Nat.lt_of_lt_of_le (by have := World.block_lt_of_cell? _ _ hw288_3; first | rwa [add_block] at this | exact this) GW289.out)) | (dsimp only; exact Nat.ne_of_lt (Nat.lt_of_lt_of_le (by have := World.block_lt_of_cell? _ _ hw288_3; first | rwa [add_block] at this | exact this) GW289.out))) _).trans (((cell_far (p := ⟨gb289, _, none⟩) (by first | exact Nat.ne_of_lt (Nat.lt_of_lt_of_le (by have := World.block_lt_of_cell? _ _ hw288_3; first | rwa [add_block] at this | exact this) GW289.out) | (rw [add_block]; exact Nat.ne_of_lt (Nat.lt_of_lt_of_le (by have := World.block_lt_of_cell? _ _ hw288_3; first | rwa [add_block] at this | exact this) GW289.out)) | (show (Addr.add _ _).block ≠ _; rw [add_block]; exact Nat.ne_of_lt (Nat.lt_of_lt_of_le (by have := World.block_lt_of_cell? _ _ hw288_3; first | rwa [add_block] at this | exact this) GW289.out)) | (dsimp only; exact Nat.ne_of_lt (Nat.lt_of_lt_of_le (by have := World.block_lt_of_cell? _ _ hw288_3; first | rwa [add_block] at this | exact this) GW289.out))) _).trans (((cell_far (p := ⟨gb289, _, none⟩) (by first | exact Nat.ne_of_lt (Nat.lt_of_lt_of_le (by have := World.block_lt_of_cell? _ _ hw288_3; first | rwa [add_block] at this | exact this) GW289.out) | (rw [add_block]; exact Nat.ne_of_lt (Nat.lt_of_lt_of_le (by have := World.block_lt_of_cell? _ _ hw288_3; first | rwa [add_block] at this | exact this) GW289.out)) | (show (Addr.add _ _).block ≠ _; rw [add_block]; exact Nat.ne_of_lt (Nat.lt_of_lt_of_le (by have := World.block_lt_of_cell? _ _ hw288_3; first | rwa [add_block] at this | exact this) GW289.out)) | (dsimp only; exact Nat.ne_of_lt (Nat.lt_of_lt_of_le (by have := World.block_lt_of_cell? _ _ hw288_3; first | rwa [add_block] at this | exact this) GW289.out))) _).trans (((cell_far (p := ⟨gb289, _, none⟩) (by first | exact Nat.ne_of_lt (Nat.lt_of_lt_of_le (by have := World.block_lt_of_cell? _ _ hw288_3; first | rwa [add_block] at this | exact this) GW289.out) | (rw [add_block]; exact Nat.ne_of_lt (Nat.lt_of_lt_of_le (by have := World.block_lt_of_cell? _ _ hw288_3; first | rwa [add_block] at this | exact this) GW289.out)) | (show (Addr.add _ _).block ≠ _; rw [add_block]; exact Nat.ne_of_lt (Nat.lt_of_lt_of_le (by have := World.block_lt_of_cell? _ _ hw288_3; first | rwa [add_block] at this | exact this) GW289.out)) | (dsimp only; exact Nat.ne_of_lt (Nat.lt_of_lt_of_le (by have := World.block_lt_of_cell? _ _ hw288_3; first | rwa [add_block] at this | exact this) GW289.out))) _).trans (hHeld.2.2.2.2.2.2.2.2.2.2))))))))⟩ (fun hHeld => ?_)
                   clear hK K
                   refine done_ (done_of HT_.out (by kernel_rfl)) ?_
                   obtain ⟨hcz64_0, hcz64_1, hcz64_2, hcz64_3⟩ := cells4 BK289
                   try go_wp2_with (first | ((with_reducible refine gate_callee (f := 31) rfl ?_); refine gL_ 119 Try.func31 #[.agg #[.int .i64 ((rd_T48 l0_3 (rd l3 x105_4)).f0), .int .i64 ((rd_T48 l0_3 (rd l3 x105_4)).f1), .int .i64 ((rd_T48 l0_3 (rd l3 x105_4)).f2), .int .i64 ((rd_T48 l0_3 (rd l3 x105_4)).f3)], .int .i64 a1] ?_; (with_reducible refine (jacquardref28_Weight.calls ((rd_T48 l0_3 (rd l3 x105_4)).f0) ((rd_T48 l0_3 (rd l3 x105_4)).f1) ((rd_T48 l0_3 (rd l3 x105_4)).f2) ((rd_T48 l0_3 (rd l3 x105_4)).f3) a1 t290 _ A53.out).mono ?_); rintro e w65 ⟨rfl, hb⟩; refine ⟨_, rfl, ?_⟩; have n0_ := Aside0.mk (blk_below (g := gb274) (o := .cells #[.int .i64 a0_0, .int .i64 a0_1, .bool a0_2, .slice (some ad285) l0_3.length c0_3, .slice A0_4 l0_4.length c0_4, .slice A0_5 l0_5.length c0_5] 26 (0, 0)) (by (with_reducible repeat (first | refine blk_drewN ?_ _ | refine blk_drew ?_ | refine blk_alloc ?_ _)); refine blk_far ?_ NB274_289.out _; (with_reducible repeat (first | refine blk_drewN ?_ _ | refine blk_drew ?_ | refine blk_alloc ?_ _)); refine blk_far ?_ NB274_289.out _; (with_reducible repeat (first | refine blk_drewN ?_ _ | refine blk_drew ?_ | refine blk_alloc ?_ _)); refine blk_far ?_ NB274_289.out _; (with_reducible repeat (first | refine blk_drewN ?_ _ | refine blk_drew ?_ | refine blk_alloc ?_ _)); refine blk_far ?_ NB274_289.out _; (with_reducible repeat (first | refine blk_drewN ?_ _ | refine blk_drew ?_ | refine blk_alloc ?_ _)); exact BK274.out) hb); have n1_ := Aside0.mk (blk_below (g := gb289) (o := .cells #[.int .i64 ((rd_T48 l0_3 (rd l3 x105_4)).f0), .int .i64 ((rd_T48 l0_3 (rd l3 x105_4)).f1), .int .i64 ((rd_T48 l0_3 (rd l3 x105_4)).f2), .int .i64 ((rd_T48 l0_3 (rd l3 x105_4)).f3)] 48 (0, 0)) (by (with_reducible repeat (first | refine blk_drewN ?_ _ | refine blk_drew ?_ | refine blk_alloc ?_ _)); refine blk_put (cs := #[.int .i64 ((rd_T48 l0_3 (rd l3 x105_4)).f0), .int .i64 ((rd_T48 l0_3 (rd l3 x105_4)).f1), .int .i64 ((rd_T48 l0_3 (rd l3 x105_4)).f2), .int .i64 0]) ?_ 3 _ rfl; (with_reducible repeat (first | refine blk_drewN ?_ _ | refine blk_drew ?_ | refine blk_alloc ?_ _)); refine blk_put (cs := #[.int .i64 ((rd_T48 l0_3 (rd l3 x105_4)).f0), .int .i64 ((rd_T48 l0_3 (rd l3 x105_4)).f1), .int .i64 0, .int .i64 0]) ?_ 2 _ rfl; (with_reducible repeat (first | refine blk_drewN ?_ _ | refine blk_drew ?_ | refine blk_alloc ?_ _)); refine blk_put (cs := #[.int .i64 ((rd_T48 l0_3 (rd l3 x105_4)).f0), .int .i64 0, .int .i64 0, .int .i64 0]) ?_ 1 _ rfl; (with_reducible repeat (first | refine blk_drewN ?_ _ | refine blk_drew ?_ | refine blk_alloc ?_ _)); refine blk_put (cs := #[.int .i64 0, .int .i64 0, .int .i64 0, .int .i64 0]) ?_ 0 _ rfl; (with_reducible repeat (first | refine blk_drewN ?_ _ | refine blk_drew ?_ | refine blk_alloc ?_ _)); exact BK289.out) hb); have n2_ := Aside0.mk (below_step bl_ hb); clear BK274; clear BK289; clear HB; have BK274 := n0_; have BK289 := n1_; have HB := n2_; clear n0_ n1_ n2_; (try clear hb); (try clear hb2); (try clear hk); (try clear hi); obtain ⟨hcz66_0, hcz66_1, hcz66_2, hcz66_3, hcz66_4, hcz66_5⟩ := cells6 BK274; obtain ⟨hcz67_0, hcz67_1, hcz67_2, hcz67_3⟩ := cells4 BK289) | ((with_reducible refine gate_callee (f := 30) rfl ?_); refine gL_ 125 Try.func30 #[.agg #[.int .i64 a0_0, .int .i64 a0_1, .bool a0_2, .slice (some ad285) l0_3.length c0_3, .slice A0_4 l0_4.length c0_4, .slice A0_5 l0_5.length c0_5], .slice A2 l2.length c2, .int .i64 ((rd_T48 l0_3 (rd l3 x105_4)).f1)] ?_; (with_reducible refine (jacquardref33_slot.calls k4 a0_0 a0_1 a0_2 _ _ l0_3 _ _ l0_4 _ _ l0_5 _ _ l2 ((rd_T48 l0_3 (rd l3 x105_4)).f1) t291 _ ?side1 ?side2 ?side3 ?side4 ?side5 ?side6 ?side7 ?side8 A54.out).mono ?_); (case side1 => exact CB_ HR0_3); (case side2 => exact HC0_3.out); (case side3 => exact CB_ HR0_4); (case side4 => exact HC0_4.out); (case side5 => exact CB_ HR0_5); (case side6 => exact HC0_5.out); (case side7 => exact CB_ HR2); (case side8 => exact HC2.out); rintro e w68 ⟨rfl, hb⟩; refine ⟨_, rfl, ?_⟩; have n0_ := Aside0.mk (blk_below (K_ BK274) hb); have n1_ := Aside0.mk (blk_below (K_ BK289) hb); have n2_ := Aside0.mk (below_step bl_ hb); clear BK274; clear BK289; clear HB; have BK274 := n0_; have BK289 := n1_; have HB := n2_; clear n0_ n1_ n2_; (try clear hb); (try clear hb2); (try clear hk); (try clear hi)) | ((with_reducible refine gate_callee (f := 32) rfl ?_); refine gL_ 135 Try.func32 #[.int .i64 (wrap64 ((wrap64 (t291 - t286)) - (wrap64 (x14_4 + t290)))), .int .i64 a1] ?_; (with_reducible refine (jacquardref33_mod.calls (wrap64 ((wrap64 (t291 - t286)) - (wrap64 (x14_4 + t290)))) a1 t292 _ A56.out).mono ?_); rintro e w' ⟨rfl, ⟨nd, rfl⟩⟩; refine ⟨_, rfl, ?_⟩))
                   go_roundg k4
                   case measure => have := HK1.out; have := HK2.out; have := HJ42.out; have := HK4.out; omega
                   case rel => exact ⟨(wrap64 ((wrap64 (x14_4 + t290)) + t292)), (wrap64 (x105_4 + 1)), (by first | rfl | (simp; done) | (simp [*]; done)), (by first | rfl | (simp; done) | (simp [*]; done)), H', ⟨by have := HK1.out; have := HK2.out; have := HJ42.out; have := HK4.out; omega⟩, ⟨K_ BK274⟩, ⟨bl_⟩⟩
                 rw [if_neg c55] at H
                 have c55b0 : decide (0 ≤ t291) = false := decide_eq_false c55
                 clear c55
                 have H' := Aside0.mk H
                 clear H
                 try go_wp2
                 have n0_ := Aside0.mk (blk_drew BK274.out)
                 have n1_ := Aside0.mk (below_drew1 HB.out)
                 clear BK274
                 clear HB
                 have BK274 := n0_
                 have HB := n1_
                 clear n0_ n1_
                 have p287 : 0 ≤ (x105_4 : Int) := of_decide_eq_true (by first | (with_reducible assumption) | assumption)
                 have q287 : x105_4 < (l3.length : Int) := of_decide_eq_true (by first | (with_reducible assumption) | assumption)
                 obtain ⟨ad287, e287, hx287_0⟩ := Kd.at_int HR3.out x105_4 p287 q287
                 have hw287_0 := hx287_0
                 obtain rfl : ad284 = ad287 := (by injection e287)
                 replace hx287_0 := hc_ HB hx287_0
                 replace p287 := eq_true p287
                 replace q287 := eq_true q287
                 have p288 : 0 ≤ ((rd l3 x105_4) : Int) := of_decide_eq_true (by first | (with_reducible assumption) | assumption)
                 have q288 : (rd l3 x105_4) < (l0_3.length : Int) := of_decide_eq_true (by first | (with_reducible assumption) | assumption)
                 obtain ⟨ad288, e288, hx288_0, hx288_1, hx288_2, hx288_3⟩ := at_T48 HR0_3.out (rd l3 x105_4) p288 q288
                 have hw288_3 := hx288_3
                 have hw288_2 := hx288_2
                 have hw288_1 := hx288_1
                 have hw288_0 := hx288_0
                 obtain rfl : ad285 = ad288 := (by injection e288)
                 replace hx288_0 := hc_ HB hx288_0
                 replace hx288_1 := hc_ HB hx288_1
                 replace hx288_2 := hc_ HB hx288_2
                 replace hx288_3 := hc_ HB hx288_3
                 replace p288 := eq_true p288
                 replace q288 := eq_true q288
                 refine start_ (n := 10) (S := fun w' => w'.cell? ⟨gb274, 0, none⟩ = some (.int .i64 a0_0) ∧ w'.cell? ⟨gb274, 1, none⟩ = some (.int .i64 a0_1) ∧ w'.cell? ⟨gb274, 2, none⟩ = some (.bool a0_2) ∧ w'.cell? ⟨gb274, 3, none⟩ = some (.slice (some ad285) l0_3.length c0_3) ∧ w'.cell? ⟨gb274, 4, none⟩ = some (.slice A0_4 l0_4.length c0_4) ∧ w'.cell? ⟨gb274, 5, none⟩ = some (.slice A0_5 l0_5.length c0_5) ∧ w'.cell? (ad284.add (x105_4).toNat) = some (.int .i64 (rd l3 x105_4)) ∧ w'.cell? (ad285.add (((rd l3 x105_4)).toNat * 4)) = some (.int .i64 ((rd_T48 l0_3 (rd l3 x105_4)).f0)) ∧ w'.cell? ⟨(ad285.add (((rd l3 x105_4)).toNat * 4)).block, (ad285.add (((rd l3 x105_4)).toNat * 4)).off + 1, none⟩ = some (.int .i64 ((rd_T48 l0_3 (rd l3 x105_4)).f1)) ∧ w'.cell? ⟨(ad285.add (((rd l3 x105_4)).toNat * 4)).block, (ad285.add (((rd l3 x105_4)).toNat * 4)).off + 2, none⟩ = some (.int .i64 ((rd_T48 l0_3 (rd l3 x105_4)).f2)) ∧ w'.cell? ⟨(ad285.add (((rd l3 x105_4)).toNat * 4)).block, (ad285.add (((rd l3 x105_4)).toNat * 4)).off + 3, none⟩ = some (.int .i64 ((rd_T48 l0_3 (rd l3 x105_4)).f3))) (ds := []) (bz 10 0) (by kernel_rfl) rfl rfl ⟨(blk_cell BK274.out 0).trans rfl, (blk_cell BK274.out 1).trans rfl, (blk_cell BK274.out 2).trans rfl, (blk_cell BK274.out 3).trans rfl, (blk_cell BK274.out 4).trans rfl, (blk_cell BK274.out 5).trans rfl, (hc_ HB hw287_0), (hc_ HB hw288_0), (hc_ HB hw288_1), (hc_ HB hw288_2), (hc_ HB hw288_3)⟩ (fun hHeld => ?_); refine with_tabW jacquardref33_Walk.tab24 jacquardref33_Walk.bits24 (fun HT_ HW_ => ?_)
                 generalize wr.drew = w69 at BK274 HB hx287_0 hx288_0 hx288_1 hx288_2 hx288_3 hHeld ⊢
                 refine pu_ 0 108 HT_ ?_
                 refine pu_ 2 110 HT_ ?_
                 refine pu_ 3 111 HT_ ?_
                 refine pu_ 4 112 HT_ ?_
                 refine tk_ 1 109 HT_ HW_ hHeld ?_ (hy := by rintro w' ⟨s0, s1, s2, s3, s4, s5, s6, s7, s8, s9, s10⟩; go_simp; with_reducible rfl)
                 refine tk_ 5 113 HT_ HW_ hHeld ?_ (hy := by rintro w' ⟨s0, s1, s2, s3, s4, s5, s6, s7, s8, s9, s10⟩; go_simp; with_reducible rfl)
                 refine pu_ 6 114 HT_ ?_
                 refine tk_ 7 115 HT_ HW_ hHeld ?_ (hy := by rintro w' ⟨s0, s1, s2, s3, s4, s5, s6, s7, s8, s9, s10⟩; go_simp; with_reducible rfl)
                 refine on_ 8 (some 16) HT_ (fun K hK => ?_)
                 refine box_step ?hg (N := 16) ?hd (cs := #[.int .i64 0, .int .i64 0, .int .i64 0, .int .i64 0]) (t := 48) ?hr ?_; (case hd => rfl); (case hg => rfl); (case hr => first | (go_simp; done) | (go_simp; rfl))
                 intro gb289 hg w70 hbox hb
                 have n0_ := Aside0.mk (blk_below (K_ BK274) hb)
                 have n1_ := Aside0.mk (below_step bl_ hb)
                 have n2_ := Aside0.mk (hbox)
                 have n3_ := Aside0.mk (gl_ (w := w) hg)
                 have n4_ := Aside0.mk (gl_ (w := w) hg)
                 have n5_ := Aside0.mk (nl_ hg (K_ BK274))
                 have n6_ := Aside0.mk (ng_ hg (K_ BK274))
                 clear BK274
                 clear HB
                 have BK274 := n0_
                 have HB := n1_
                 have BK289 := n2_
                 have GW289 := n3_
                 have GE289 := n4_
                 have NB274_289 := n5_
                 have NB289_274 := n6_
                 clear n0_ n1_ n2_ n3_ n4_ n5_ n6_
                 clear hb hbox hg
                 refine hK.out _ _ ⟨(blk_cell BK274.out 0).trans rfl, (blk_cell BK274.out 1).trans rfl, (blk_cell BK274.out 2).trans rfl, (blk_cell BK274.out 3).trans rfl, (blk_cell BK274.out 4).trans rfl, (blk_cell BK274.out 5).trans rfl, (hc_ HB hw287_0), (hc_ HB hw288_0), (hc_ HB hw288_1), (hc_ HB hw288_2), (hc_ HB hw288_3)⟩ (fun hHeld => ?_)
                 clear hK K
                 refine no_ 16 ?_
                 refine on_ 9 none HT_ (fun K hK => ?_)
                 have hs71 : w70.cell? ⟨gb289, 0, none⟩ = some (.int .i64 0) := (blk_cell BK289.out 0).trans rfl
                 have hfs71 := blk_frozen BK289.out 0
                 have hns71_0 := NB274_289.out
                 have hms71_0 := NB289_274.out
                 have hs72 : w70.cell? ⟨gb289, 1, none⟩ = some (.int .i64 0) := (blk_cell BK289.out 1).trans rfl
                 have hfs72 := blk_frozen BK289.out 1
                 have hns72_0 := NB274_289.out
                 have hms72_0 := NB289_274.out
                 have hs73 : w70.cell? ⟨gb289, 2, none⟩ = some (.int .i64 0) := (blk_cell BK289.out 2).trans rfl
                 have hfs73 := blk_frozen BK289.out 2
                 have hns73_0 := NB274_289.out
                 have hms73_0 := NB289_274.out
                 have hs74 : w70.cell? ⟨gb289, 3, none⟩ = some (.int .i64 0) := (blk_cell BK289.out 3).trans rfl
                 have hfs74 := blk_frozen BK289.out 3
                 have hns74_0 := NB274_289.out
                 have hms74_0 := NB289_274.out
                 refine skip_ (w1 := ?_) (by rfl) rfl ?_ ?_
                 rotate_left
                 · go_simp
                   rfl
                 refine hK.out _ _ ⟨((cell_far (p := ⟨gb289, _, none⟩) NB274_289.out _).trans (((cell_far (p := ⟨gb289, _, none⟩) NB274_289.out _).trans (((cell_far (p := ⟨gb289, _, none⟩) NB274_289.out _).trans (((cell_far (p := ⟨gb289, _, none⟩) NB274_289.out _).trans (hHeld.1)))))))), ((cell_far (p := ⟨gb289, _, none⟩) NB274_289.out _).trans (((cell_far (p := ⟨gb289, _, none⟩) NB274_289.out _).trans (((cell_far (p := ⟨gb289, _, none⟩) NB274_289.out _).trans (((cell_far (p := ⟨gb289, _, none⟩) NB274_289.out _).trans (hHeld.2.1)))))))), ((cell_far (p := ⟨gb289, _, none⟩) NB274_289.out _).trans (((cell_far (p := ⟨gb289, _, none⟩) NB274_289.out _).trans (((cell_far (p := ⟨gb289, _, none⟩) NB274_289.out _).trans (((cell_far (p := ⟨gb289, _, none⟩) NB274_289.out _).trans (hHeld.2.2.1)))))))), ((cell_far (p := ⟨gb289, _, none⟩) NB274_289.out _).trans (((cell_far (p := ⟨gb289, _, none⟩) NB274_289.out _).trans (((cell_far (p := ⟨gb289, _, none⟩) NB274_289.out _).trans (((cell_far (p := ⟨gb289, _, none⟩) NB274_289.out _).trans (hHeld.2.2.2.1)))))))), ((cell_far (p := ⟨gb289, _, none⟩) NB274_289.out _).trans (((cell_far (p := ⟨gb289, _, none⟩) NB274_289.out _).trans (((cell_far (p := ⟨gb289, _, none⟩) NB274_289.out _).trans (((cell_far (p := ⟨gb289, _, none⟩) NB274_289.out _).trans (hHeld.2.2.2.2.1)))))))), ((cell_far (p := ⟨gb289, _, none⟩) NB274_289.out _).trans (((cell_far (p := ⟨gb289, _, none⟩) NB274_289.out _).trans (((cell_far (p := ⟨gb289, _, none⟩) NB274_289.out _).trans (((cell_far (p := ⟨gb289, _, none⟩) NB274_289.out _).trans (hHeld.2.2.2.2.2.1)))))))), ((cell_far (p := ⟨gb289, _, none⟩) (by first | exact Nat.ne_of_lt (Nat.lt_of_lt_of_le (by have := World.block_lt_of_cell? _ _ hw287_0; first | rwa [add_block] at this | exact this) GW289.out) | (rw [add_block]; exact Nat.ne_of_lt (Nat.lt_of_lt_of_le (by have := World.block_lt_of_cell? _ _ hw287_0; first | rwa [add_block] at this | exact this) GW289.out)) | (show (Addr.add _ _).block ≠ _; rw [add_block]; exact Nat.ne_of_lt (Nat.lt_of_lt_of_le (by have := World.block_lt_of_cell? _ _ hw287_0; first | rwa [add_block] at this | exact this) GW289.out)) | (dsimp only; exact Nat.ne_of_lt (Nat.lt_of_lt_of_le (by have := World.block_lt_of_cell? _ _ hw287_0; first | rwa [add_block] at this | exact this) GW289.out))) _).trans (((cell_far (p := ⟨gb289, _, none⟩) (by first | exact Nat.ne_of_lt (Nat.lt_of_lt_of_le (by have := World.block_lt_of_cell? _ _ hw287_0; first | rwa [add_block] at this | exact this) GW289.out) | (rw [add_block]; exact Nat.ne_of_lt (Nat.lt_of_lt_of_le (by have := World.block_lt_of_cell? _ _ hw287_0; first | rwa [add_block] at this | exact this) GW289.out)) | (show (Addr.add _ _).block ≠ _; rw [add_block]; exact Nat.ne_of_lt (Nat.lt_of_lt_of_le (by have := World.block_lt_of_cell? _ _ hw287_0; first | rwa [add_block] at this | exact this) GW289.out)) | (dsimp only; exact Nat.ne_of_lt (Nat.lt_of_lt_of_le (by have := World.block_lt_of_cell? _ _ hw287_0; first | rwa [add_block] at this | exact this) GW289.out))) _).trans (((cell_far (p := ⟨gb289, _, none⟩) (by first | exact Nat.ne_of_lt (Nat.lt_of_lt_of_le (by have := World.block_lt_of_cell? _ _ hw287_0; first | rwa [add_block] at this | exact this) GW289.out) | (rw [add_block]; exact Nat.ne_of_lt (Nat.lt_of_lt_of_le (by have := World.block_lt_of_cell? _ _ hw287_0; first | rwa [add_block] at this | exact this) GW289.out)) | (show (Addr.add _ _).block ≠ _; rw [add_block]; exact Nat.ne_of_lt (Nat.lt_of_lt_of_le (by have := World.block_lt_of_cell? _ _ hw287_0; first | rwa [add_block] at this | exact this) GW289.out)) | (dsimp only; exact Nat.ne_of_lt (Nat.lt_of_lt_of_le (by have := World.block_lt_of_cell? _ _ hw287_0; first | rwa [add_block] at this | exact this) GW289.out))) _).trans (((cell_far (p := ⟨gb289, _, none⟩) (by first | exact Nat.ne_of_lt (Nat.lt_of_lt_of_le (by have := World.block_lt_of_cell? _ _ hw287_0; first | rwa [add_block] at this | exact this) GW289.out) | (rw [add_block]; exact Nat.ne_of_lt (Nat.lt_of_lt_of_le (by have := World.block_lt_of_cell? _ _ hw287_0; first | rwa [add_block] at this | exact this) GW289.out)) | (show (Addr.add _ _).block ≠ _; rw [add_block]; exact Nat.ne_of_lt (Nat.lt_of_lt_of_le (by have := World.block_lt_of_cell? _ _ hw287_0; first | rwa [add_block] at this | exact this) GW289.out)) | (dsimp only; exact Nat.ne_of_lt (Nat.lt_of_lt_of_le (by have := World.block_lt_of_cell? _ _ hw287_0; first | rwa [add_block] at this | exact this) GW289.out))) _).trans (hHeld.2.2.2.2.2.2.1)))))))), ((cell_far (p := ⟨gb289, _, none⟩) (by first | exact Nat.ne_of_lt (Nat.lt_of_lt_of_le (by have := World.block_lt_of_cell? _ _ hw288_0; first | rwa [add_block] at this | exact this) GW289.out) | (rw [add_block]; exact Nat.ne_of_lt (Nat.lt_of_lt_of_le (by have := World.block_lt_of_cell? _ _ hw288_0; first | rwa [add_block] at this | exact this) GW289.out)) | (show (Addr.add _ _).block ≠ _; rw [add_block]; exact Nat.ne_of_lt (Nat.lt_of_lt_of_le (by have := World.block_lt_of_cell? _ _ hw288_0; first | rwa [add_block] at this | exact this) GW289.out)) | (dsimp only; exact Nat.ne_of_lt (Nat.lt_of_lt_of_le (by have := World.block_lt_of_cell? _ _ hw288_0; first | rwa [add_block] at this | exact this) GW289.out))) _).trans (((cell_far (p := ⟨gb289, _, none⟩) (by first | exact Nat.ne_of_lt (Nat.lt_of_lt_of_le (by have := World.block_lt_of_cell? _ _ hw288_0; first | rwa [add_block] at this | exact this) GW289.out) | (rw [add_block]; exact Nat.ne_of_lt (Nat.lt_of_lt_of_le (by have := World.block_lt_of_cell? _ _ hw288_0; first | rwa [add_block] at this | exact this) GW289.out)) | (show (Addr.add _ _).block ≠ _; rw [add_block]; exact Nat.ne_of_lt (Nat.lt_of_lt_of_le (by have := World.block_lt_of_cell? _ _ hw288_0; first | rwa [add_block] at this | exact this) GW289.out)) | (dsimp only; exact Nat.ne_of_lt (Nat.lt_of_lt_of_le (by have := World.block_lt_of_cell? _ _ hw288_0; first | rwa [add_block] at this | exact this) GW289.out))) _).trans (((cell_far (p := ⟨gb289, _, none⟩) (by first | exact Nat.ne_of_lt (Nat.lt_of_lt_of_le (by have := World.block_lt_of_cell? _ _ hw288_0; first | rwa [add_block] at this | exact this) GW289.out) | (rw [add_block]; exact Nat.ne_of_lt (Nat.lt_of_lt_of_le (by have := World.block_lt_of_cell? _ _ hw288_0; first | rwa [add_block] at this | exact this) GW289.out)) | (show (Addr.add _ _).block ≠ _; rw [add_block]; exact Nat.ne_of_lt (Nat.lt_of_lt_of_le (by have := World.block_lt_of_cell? _ _ hw288_0; first | rwa [add_block] at this | exact this) GW289.out)) | (dsimp only; exact Nat.ne_of_lt (Nat.lt_of_lt_of_le (by have := World.block_lt_of_cell? _ _ hw288_0; first | rwa [add_block] at this | exact this) GW289.out))) _).trans (((cell_far (p := ⟨gb289, _, none⟩) (by first | exact Nat.ne_of_lt (Nat.lt_of_lt_of_le (by have := World.block_lt_of_cell? _ _ hw288_0; first | rwa [add_block] at this | exact this) GW289.out) | (rw [add_block]; exact Nat.ne_of_lt (Nat.lt_of_lt_of_le (by have := World.block_lt_of_cell? _ _ hw288_0; first | rwa [add_block] at this | exact this) GW289.out)) | (show (Addr.add _ _).block ≠ _; rw [add_block]; exact Nat.ne_of_lt (Nat.lt_of_lt_of_le (by have := World.block_lt_of_cell? _ _ hw288_0; first | rwa [add_block] at this | exact this) GW289.out)) | (dsimp only; exact Nat.ne_of_lt (Nat.lt_of_lt_of_le (by have := World.block_lt_of_cell? _ _ hw288_0; first | rwa [add_block] at this | exact this) GW289.out))) _).trans (hHeld.2.2.2.2.2.2.2.1)))))))), ((cell_far (p := ⟨gb289, _, none⟩) (by first | exact Nat.ne_of_lt (Nat.lt_of_lt_of_le (by have := World.block_lt_of_cell? _ _ hw288_1; first | rwa [add_block] at this | exact this) GW289.out) | (rw [add_block]; exact Nat.ne_of_lt (Nat.lt_of_lt_of_le (by have := World.block_lt_of_cell? _ _ hw288_1; first | rwa [add_block] at this | exact this) GW289.out)) | (show (Addr.add _ _).block ≠ _; rw [add_block]; exact Nat.ne_of_lt (Nat.lt_of_lt_of_le (by have := World.block_lt_of_cell? _ _ hw288_1; first | rwa [add_block] at this | exact this) GW289.out)) | (dsimp only; exact Nat.ne_of_lt (Nat.lt_of_lt_of_le (by have := World.block_lt_of_cell? _ _ hw288_1; first | rwa [add_block] at this | exact this) GW289.out))) _).trans (((cell_far (p := ⟨gb289, _, none⟩) (by first | exact Nat.ne_of_lt (Nat.lt_of_lt_of_le (by have := World.block_lt_of_cell? _ _ hw288_1; first | rwa [add_block] at this | exact this) GW289.out) | (rw [add_block]; exact Nat.ne_of_lt (Nat.lt_of_lt_of_le (by have := World.block_lt_of_cell? _ _ hw288_1; first | rwa [add_block] at this | exact this) GW289.out)) | (show (Addr.add _ _).block ≠ _; rw [add_block]; exact Nat.ne_of_lt (Nat.lt_of_lt_of_le (by have := World.block_lt_of_cell? _ _ hw288_1; first | rwa [add_block] at this | exact this) GW289.out)) | (dsimp only; exact Nat.ne_of_lt (Nat.lt_of_lt_of_le (by have := World.block_lt_of_cell? _ _ hw288_1; first | rwa [add_block] at this | exact this) GW289.out))) _).trans (((cell_far (p := ⟨gb289, _, none⟩) (by first | exact Nat.ne_of_lt (Nat.lt_of_lt_of_le (by have := World.block_lt_of_cell? _ _ hw288_1; first | rwa [add_block] at this | exact this) GW289.out) | (rw [add_block]; exact Nat.ne_of_lt (Nat.lt_of_lt_of_le (by have := World.block_lt_of_cell? _ _ hw288_1; first | rwa [add_block] at this | exact this) GW289.out)) | (show (Addr.add _ _).block ≠ _; rw [add_block]; exact Nat.ne_of_lt (Nat.lt_of_lt_of_le (by have := World.block_lt_of_cell? _ _ hw288_1; first | rwa [add_block] at this | exact this) GW289.out)) | (dsimp only; exact Nat.ne_of_lt (Nat.lt_of_lt_of_le (by have := World.block_lt_of_cell? _ _ hw288_1; first | rwa [add_block] at this | exact this) GW289.out))) _).trans (((cell_far (p := ⟨gb289, _, none⟩) (by first | exact Nat.ne_of_lt (Nat.lt_of_lt_of_le (by have := World.block_lt_of_cell? _ _ hw288_1; first | rwa [add_block] at this | exact this) GW289.out) | (rw [add_block]; exact Nat.ne_of_lt (Nat.lt_of_lt_of_le (by have := World.block_lt_of_cell? _ _ hw288_1; first | rwa [add_block] at this | exact this) GW289.out)) | (show (Addr.add _ _).block ≠ _; rw [add_block]; exact Nat.ne_of_lt (Nat.lt_of_lt_of_le (by have := World.block_lt_of_cell? _ _ hw288_1; first | rwa [add_block] at this | exact this) GW289.out)) | (dsimp only; exact Nat.ne_of_lt (Nat.lt_of_lt_of_le (by have := World.block_lt_of_cell? _ _ hw288_1; first | rwa [add_block] at this | exact this) GW289.out))) _).trans (hHeld.2.2.2.2.2.2.2.2.1)))))))), ((cell_far (p := ⟨gb289, _, none⟩) (by first | exact Nat.ne_of_lt (Nat.lt_of_lt_of_le (by have := World.block_lt_of_cell? _ _ hw288_2; first | rwa [add_block] at this | exact this) GW289.out) | (rw [add_block]; exact Nat.ne_of_lt (Nat.lt_of_lt_of_le (by have := World.block_lt_of_cell? _ _ hw288_2; first | rwa [add_block] at this | exact this) GW289.out)) | (show (Addr.add _ _).block ≠ _; rw [add_block]; exact Nat.ne_of_lt (Nat.lt_of_lt_of_le (by have := World.block_lt_of_cell? _ _ hw288_2; first | rwa [add_block] at this | exact this) GW289.out)) | (dsimp only; exact Nat.ne_of_lt (Nat.lt_of_lt_of_le (by have := World.block_lt_of_cell? _ _ hw288_2; first | rwa [add_block] at this | exact this) GW289.out))) _).trans (((cell_far (p := ⟨gb289, _, none⟩) (by first | exact Nat.ne_of_lt (Nat.lt_of_lt_of_le (by have := World.block_lt_of_cell? _ _ hw288_2; first | rwa [add_block] at this | exact this) GW289.out) | (rw [add_block]; exact Nat.ne_of_lt (Nat.lt_of_lt_of_le (by have := World.block_lt_of_cell? _ _ hw288_2; first | rwa [add_block] at this | exact this) GW289.out)) | (show (Addr.add _ _).block ≠ _; rw [add_block]; exact Nat.ne_of_lt (Nat.lt_of_lt_of_le (by have := World.block_lt_of_cell? _ _ hw288_2; first | rwa [add_block] at this | exact this) GW289.out)) | (dsimp only; exact Nat.ne_of_lt (Nat.lt_of_lt_of_le (by have := World.block_lt_of_cell? _ _ hw288_2; first | rwa [add_block] at this | exact this) GW289.out))) _).trans (((cell_far (p := ⟨gb289, _, none⟩) (by first | exact Nat.ne_of_lt (Nat.lt_of_lt_of_le (by have := World.block_lt_of_cell? _ _ hw288_2; first | rwa [add_block] at this | exact this) GW289.out) | (rw [add_block]; exact Nat.ne_of_lt (Nat.lt_of_lt_of_le (by have := World.block_lt_of_cell? _ _ hw288_2; first | rwa [add_block] at this | exact this) GW289.out)) | (show (Addr.add _ _).block ≠ _; rw [add_block]; exact Nat.ne_of_lt (Nat.lt_of_lt_of_le (by have := World.block_lt_of_cell? _ _ hw288_2; first | rwa [add_block] at this | exact this) GW289.out)) | (dsimp only; exact Nat.ne_of_lt (Nat.lt_of_lt_of_le (by have := World.block_lt_of_cell? _ _ hw288_2; first | rwa [add_block] at this | exact this) GW289.out))) _).trans (((cell_far (p := ⟨gb289, _, none⟩) (by first | exact Nat.ne_of_lt (Nat.lt_of_lt_of_le (by have := World.block_lt_of_cell? _ _ hw288_2; first | rwa [add_block] at this | exact this) GW289.out) | (rw [add_block]; exact Nat.ne_of_lt (Nat.lt_of_lt_of_le (by have := World.block_lt_of_cell? _ _ hw288_2; first | rwa [add_block] at this | exact this) GW289.out)) | (show (Addr.add _ _).block ≠ _; rw [add_block]; exact Nat.ne_of_lt (Nat.lt_of_lt_of_le (by have := World.block_lt_of_cell? _ _ hw288_2; first | rwa [add_block] at this | exact this) GW289.out)) | (dsimp only; exact Nat.ne_of_lt (Nat.lt_of_lt_of_le (by have := World.block_lt_of_cell? _ _ hw288_2; first | rwa [add_block] at this | exact this) GW289.out))) _).trans (hHeld.2.2.2.2.2.2.2.2.2.1)))))))), ((cell_far (p := ⟨gb289, _, none⟩) (by first | exact Nat.ne_of_lt (Nat.lt_of_lt_of_le (by have := World.block_lt_of_cell? _ _ hw288_3; first | rwa [add_block] at this | exact this) GW289.out) | (rw [add_block]; exact Nat.ne_of_lt (Nat.lt_of_lt_of_le (by have := World.block_lt_of_cell? _ _ hw288_3; first | rwa [add_block] at this | exact this) GW289.out)) | (show (Addr.add _ _).block ≠ _; rw [add_block]; exact Nat.ne_of_lt (Nat.lt_of_lt_of_le (by have := World.block_lt_of_cell? _ _ hw288_3; first | rwa [add_block] at this | exact this) GW289.out)) | (dsimp only; exact Nat.ne_of_lt (Nat.lt_of_lt_of_le (by have := World.block_lt_of_cell? _ _ hw288_3; first | rwa [add_block] at this | exact this) GW289.out))) _).trans (((cell_far (p := ⟨gb289, _, none⟩) (by first | exact Nat.ne_of_lt (Nat.lt_of_lt_of_le (by have := World.block_lt_of_cell? _ _ hw288_3; first | rwa [add_block] at this | exact this) GW289.out) | (rw [add_block]; exact Nat.ne_of_lt (Nat.lt_of_lt_of_le (by have := World.block_lt_of_cell? _ _ hw288_3; first | rwa [add_block] at this | exact this) GW289.out)) | (show (Addr.add _ _).block ≠ _; rw [add_block]; exact Nat.ne_of_lt (Nat.lt_of_lt_of_le (by have := World.block_lt_of_cell? _ _ hw288_3; first | rwa [add_block] at this | exact this) GW289.out)) | (dsimp only; exact Nat.ne_of_lt (Nat.lt_of_lt_of_le (by have := World.block_lt_of_cell? _ _ hw288_3; first | rwa [add_block] at this | exact this) GW289.out))) _).trans (((cell_far (p := ⟨gb289, _, none⟩) (by first | exact Nat.ne_of_lt (Nat.lt_of_lt_of_le (by have := World.block_lt_of_cell? _ _ hw288_3; first | rwa [add_block] at this | exact this) GW289.out) | (rw [add_block]; exact Nat.ne_of_lt (Nat.lt_of_lt_of_le (by have := World.block_lt_of_cell? _ _ hw288_3; first | rwa [add_block] at this | exact this) GW289.out)) | (show (Addr.add _ _).block ≠ _; rw [add_block]; exact Nat.ne_of_lt (Nat.lt_of_lt_of_le (by have := World.block_lt_of_cell? _ _ hw288_3; first | rwa [add_block] at this | exact this) GW289.out)) | (dsimp only; exact Nat.ne_of_lt (Nat.lt_of_lt_of_le (by have := World.block_lt_of_cell? _ _ hw288_3; first | rwa [add_block] at this | exact this) GW289.out))) _).trans (((cell_far (p := ⟨gb289, _, none⟩) (by first | exact Nat.ne_of_lt (Nat.lt_of_lt_of_le (by have := World.block_lt_of_cell? _ _ hw288_3; first | rwa [add_block] at this | exact this) GW289.out) | (rw [add_block]; exact Nat.ne_of_lt (Nat.lt_of_lt_of_le (by have := World.block_lt_of_cell? _ _ hw288_3; first | rwa [add_block] at this | exact this) GW289.out)) | (show (Addr.add _ _).block ≠ _; rw [add_block]; exact Nat.ne_of_lt (Nat.lt_of_lt_of_le (by have := World.block_lt_of_cell? _ _ hw288_3; first | rwa [add_block] at this | exact this) GW289.out)) | (dsimp only; exact Nat.ne_of_lt (Nat.lt_of_lt_of_le (by have := World.block_lt_of_cell? _ _ hw288_3; first | rwa [add_block] at this | exact this) GW289.out))) _).trans (hHeld.2.2.2.2.2.2.2.2.2.2))))))))⟩ (fun hHeld => ?_)
                 clear hK K
                 refine done_ (done_of HT_.out (by kernel_rfl)) ?_
                 obtain ⟨hcz76_0, hcz76_1, hcz76_2, hcz76_3⟩ := cells4 BK289
                 try go_wp2_with (first | ((with_reducible refine gate_callee (f := 31) rfl ?_); refine gL_ 119 Try.func31 #[.agg #[.int .i64 ((rd_T48 l0_3 (rd l3 x105_4)).f0), .int .i64 ((rd_T48 l0_3 (rd l3 x105_4)).f1), .int .i64 ((rd_T48 l0_3 (rd l3 x105_4)).f2), .int .i64 ((rd_T48 l0_3 (rd l3 x105_4)).f3)], .int .i64 a1] ?_; (with_reducible refine (jacquardref28_Weight.calls ((rd_T48 l0_3 (rd l3 x105_4)).f0) ((rd_T48 l0_3 (rd l3 x105_4)).f1) ((rd_T48 l0_3 (rd l3 x105_4)).f2) ((rd_T48 l0_3 (rd l3 x105_4)).f3) a1 t290 _ A53.out).mono ?_); rintro e w77 ⟨rfl, hb⟩; refine ⟨_, rfl, ?_⟩; have n0_ := Aside0.mk (blk_below (g := gb274) (o := .cells #[.int .i64 a0_0, .int .i64 a0_1, .bool a0_2, .slice (some ad285) l0_3.length c0_3, .slice A0_4 l0_4.length c0_4, .slice A0_5 l0_5.length c0_5] 26 (0, 0)) (by (with_reducible repeat (first | refine blk_drewN ?_ _ | refine blk_drew ?_ | refine blk_alloc ?_ _)); refine blk_far ?_ NB274_289.out _; (with_reducible repeat (first | refine blk_drewN ?_ _ | refine blk_drew ?_ | refine blk_alloc ?_ _)); refine blk_far ?_ NB274_289.out _; (with_reducible repeat (first | refine blk_drewN ?_ _ | refine blk_drew ?_ | refine blk_alloc ?_ _)); refine blk_far ?_ NB274_289.out _; (with_reducible repeat (first | refine blk_drewN ?_ _ | refine blk_drew ?_ | refine blk_alloc ?_ _)); refine blk_far ?_ NB274_289.out _; (with_reducible repeat (first | refine blk_drewN ?_ _ | refine blk_drew ?_ | refine blk_alloc ?_ _)); exact BK274.out) hb); have n1_ := Aside0.mk (blk_below (g := gb289) (o := .cells #[.int .i64 ((rd_T48 l0_3 (rd l3 x105_4)).f0), .int .i64 ((rd_T48 l0_3 (rd l3 x105_4)).f1), .int .i64 ((rd_T48 l0_3 (rd l3 x105_4)).f2), .int .i64 ((rd_T48 l0_3 (rd l3 x105_4)).f3)] 48 (0, 0)) (by (with_reducible repeat (first | refine blk_drewN ?_ _ | refine blk_drew ?_ | refine blk_alloc ?_ _)); refine blk_put (cs := #[.int .i64 ((rd_T48 l0_3 (rd l3 x105_4)).f0), .int .i64 ((rd_T48 l0_3 (rd l3 x105_4)).f1), .int .i64 ((rd_T48 l0_3 (rd l3 x105_4)).f2), .int .i64 0]) ?_ 3 _ rfl; (with_reducible repeat (first | refine blk_drewN ?_ _ | refine blk_drew ?_ | refine blk_alloc ?_ _)); refine blk_put (cs := #[.int .i64 ((rd_T48 l0_3 (rd l3 x105_4)).f0), .int .i64 ((rd_T48 l0_3 (rd l3 x105_4)).f1), .int .i64 0, .int .i64 0]) ?_ 2 _ rfl; (with_reducible repeat (first | refine blk_drewN ?_ _ | refine blk_drew ?_ | refine blk_alloc ?_ _)); refine blk_put (cs := #[.int .i64 ((rd_T48 l0_3 (rd l3 x105_4)).f0), .int .i64 0, .int .i64 0, .int .i64 0]) ?_ 1 _ rfl; (with_reducible repeat (first | refine blk_drewN ?_ _ | refine blk_drew ?_ | refine blk_alloc ?_ _)); refine blk_put (cs := #[.int .i64 0, .int .i64 0, .int .i64 0, .int .i64 0]) ?_ 0 _ rfl; (with_reducible repeat (first | refine blk_drewN ?_ _ | refine blk_drew ?_ | refine blk_alloc ?_ _)); exact BK289.out) hb); have n2_ := Aside0.mk (below_step bl_ hb); clear BK274; clear BK289; clear HB; have BK274 := n0_; have BK289 := n1_; have HB := n2_; clear n0_ n1_ n2_; (try clear hb); (try clear hb2); (try clear hk); (try clear hi); obtain ⟨hcz78_0, hcz78_1, hcz78_2, hcz78_3, hcz78_4, hcz78_5⟩ := cells6 BK274; obtain ⟨hcz79_0, hcz79_1, hcz79_2, hcz79_3⟩ := cells4 BK289) | ((with_reducible refine gate_callee (f := 30) rfl ?_); refine gL_ 125 Try.func30 #[.agg #[.int .i64 a0_0, .int .i64 a0_1, .bool a0_2, .slice (some ad285) l0_3.length c0_3, .slice A0_4 l0_4.length c0_4, .slice A0_5 l0_5.length c0_5], .slice A2 l2.length c2, .int .i64 ((rd_T48 l0_3 (rd l3 x105_4)).f1)] ?_; (with_reducible refine (jacquardref33_slot.calls k4 a0_0 a0_1 a0_2 _ _ l0_3 _ _ l0_4 _ _ l0_5 _ _ l2 ((rd_T48 l0_3 (rd l3 x105_4)).f1) t291 _ ?side1 ?side2 ?side3 ?side4 ?side5 ?side6 ?side7 ?side8 A54.out).mono ?_); (case side1 => exact CB_ HR0_3); (case side2 => exact HC0_3.out); (case side3 => exact CB_ HR0_4); (case side4 => exact HC0_4.out); (case side5 => exact CB_ HR0_5); (case side6 => exact HC0_5.out); (case side7 => exact CB_ HR2); (case side8 => exact HC2.out); rintro e w80 ⟨rfl, hb⟩; refine ⟨_, rfl, ?_⟩; have n0_ := Aside0.mk (blk_below (K_ BK274) hb); have n1_ := Aside0.mk (blk_below (K_ BK289) hb); have n2_ := Aside0.mk (below_step bl_ hb); clear BK274; clear BK289; clear HB; have BK274 := n0_; have BK289 := n1_; have HB := n2_; clear n0_ n1_ n2_; (try clear hb); (try clear hb2); (try clear hk); (try clear hi)))
                 go_roundg k4
                 case measure => have := HK1.out; have := HK2.out; have := HJ42.out; have := HK4.out; omega
                 case rel => exact ⟨(wrap64 (x14_4 + t290)), (wrap64 (x105_4 + 1)), (by first | rfl | (simp; done) | (simp [*]; done)), (by first | rfl | (simp; done) | (simp [*]; done)), H', ⟨by have := HK1.out; have := HK2.out; have := HJ42.out; have := HK4.out; omega⟩, ⟨K_ BK274⟩, ⟨bl_⟩⟩
               rw [if_neg c52] at H
               exact absurd H (by simp)
             rw [if_neg c51] at H
             exact absurd H (by simp)
           rw [if_neg c50] at H
           exact absurd H (by simp)
         rw [if_neg c49] at H
         exact absurd H (by simp)
       rw [if_neg c48] at H
       have c48b0 : decide (x105_4 < (l3.length : Int)) = false := decide_eq_false c48
       clear c48
       simp only [Option.some.injEq, Prod.mk.injEq] at H
       obtain ⟨rfl, rfl⟩ := H
       go_wp2
       go_ret2
       exact ⟨by first | rfl | (simp [errW_none, errW_some] <;> rfl) | (simp [*, errW_none, errW_some] <;> rfl), by repeat (first | (with_reducible first | exact HB.out | apply below_alloc | apply pw_below_drewN | apply below_drew1 | refine below_set ?_ GE274.out) | exact HB.out)⟩
     rw [if_neg c41] at H
     exact absurd H (by simp)
   rw [if_neg c40] at H
   exact absurd H (by simp)
 rw [if_neg c39] at H
 exact absurd H (by simp)
end Go.Proofs.Ytpmlbbglekaidaa.PAll
