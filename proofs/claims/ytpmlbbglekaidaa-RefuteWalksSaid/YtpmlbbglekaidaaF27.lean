-- Written for this claim by programs of this session (wip/print2 in its repo: a changed printer, a shortener, a packer). Lean checks it.
import Derived.Test.YtpmlbbglekaidaaP0
import Derived.Test.YtpmlbbglekaidaaF41
namespace Go.Proofs.Ytpmlbbglekaidaa.PAll
open Go.RowKit Go.Proofs.YtpmlbbglekaidaaW.PrintWords Go.Proofs.YtpmlbbglekaidaaW.PrintLast Go.Proofs.YtpmlbbglekaidaaW.PrintMore
attribute [local go_sem] max2_int min2_int max_two min_two max_three min_three max_four min_four   -- for this text's walks alone
set_option linter.unusedVariables false
set_option linter.unusedSimpArgs false

/-! ### refute_walk: function 27 -/
mutual
def refute_walk.l0 : Nat → Int → List Int → List Int → Int → Bool → List Int → Int → Int → Int → Int → Bool → List (S48) → List (S50) → List (S52) → Option (Int × Bool)
  | 0, _, _, _, _, _, _, _, _, _, _, _, _, _, _ => none
  | k + 1, x1, x2, x3, x8, x10, x25, x26, x27, x146000, x146001, x146002, x146003, x146004, x146005 => if x27 < x26 then (if 0 ≤ x27 then (if x27 < (x25.length : Int) then (if (x3.length : Int) = 0 then (none) else (if 0 ≤ (Int.tmod (wrap64 (x27 + 1)) (x3.length : Int)) then (if (Int.tmod (wrap64 (x27 + 1)) (x3.length : Int)) < (x3.length : Int) then (if (rd x25 x27) < 0 then (refute_walk.j1 k x1 x2 x3 x8 x10 (rd x25 x27) x25 x26 x27 true x146000 x146001 x146002 x146003 x146004 x146005) else (if (rd x25 x27) ≥ (x146003.length : Int) then (refute_walk.j1 k x1 x2 x3 x8 x10 (rd x25 x27) x25 x26 x27 true x146000 x146001 x146002 x146003 x146004 x146005) else (if (rd x3 (Int.tmod (wrap64 (x27 + 1)) (x3.length : Int))) < 0 then (refute_walk.j1 k x1 x2 x3 x8 x10 (rd x25 x27) x25 x26 x27 true x146000 x146001 x146002 x146003 x146004 x146005) else (if (rd x3 (Int.tmod (wrap64 (x27 + 1)) (x3.length : Int))) ≥ (x146003.length : Int) then (refute_walk.j1 k x1 x2 x3 x8 x10 (rd x25 x27) x25 x26 x27 true x146000 x146001 x146002 x146003 x146004 x146005) else (if 0 ≤ (rd x25 x27) then (if (rd x25 x27) < (x146003.length : Int) then (if 0 ≤ (rd x3 (Int.tmod (wrap64 (x27 + 1)) (x3.length : Int))) then (if (rd x3 (Int.tmod (wrap64 (x27 + 1)) (x3.length : Int))) < (x146003.length : Int) then (refute_walk.j1 k x1 x2 x3 x8 x10 (rd x25 x27) x25 x26 x27 (((rd_T48 x146003 (rd x25 x27)).f1) != ((rd_T48 x146003 (rd x3 (Int.tmod (wrap64 (x27 + 1)) (x3.length : Int)))).f0)) x146000 x146001 x146002 x146003 x146004 x146005) else (none)) else (none)) else (none)) else (none)))))) else (none)) else (none))) else (none)) else (none)) else (if 0 < (x3.length : Int) then (if 0 ≤ (rd x3 0) then (if (rd x3 0) < (x146003.length : Int) then ((refute_slot.f k x146000 x146001 x146002 x146003 x146004 x146005 x1 x2 ((rd_T48 x146003 (rd x3 0)).f0)).bind fun bt155 => (if x10 = true then (refute_walk.j2 k x1 x2 x3 x8 bt155.1 (!bt155.2) x146000 x146001 x146002 x146003 x146004 x146005) else (refute_walk.j2 k x1 x2 x3 x8 bt155.1 false x146000 x146001 x146002 x146003 x146004 x146005))) else (none)) else (none)) else (none))
def refute_walk.j1 : Nat → Int → List Int → List Int → Int → Bool → Int → List Int → Int → Int → Bool → Int → Int → Bool → List (S48) → List (S50) → List (S52) → Option (Int × Bool)
  | 0, _, _, _, _, _, _, _, _, _, _, _, _, _, _, _, _ => none
  | k + 1, x1, x2, x3, x8, x10, x12, x25, x26, x27, x74, x146000, x146001, x146002, x146003, x146004, x146005 => if x74 = true then (some (0, false)) else (if 0 ≤ x12 then (if x12 < (x146003.length : Int) then ((refute_slot.f k x146000 x146001 x146002 x146003 x146004 x146005 x1 x2 ((rd_T48 x146003 x12).f0)).bind fun bt151 => (if x10 = true then (refute_walk.l0 k x1 x2 x3 x8 true x25 x26 (wrap64 (x27 + 1)) x146000 x146001 x146002 x146003 x146004 x146005) else (refute_walk.l0 k x1 x2 x3 x8 bt151.2 x25 x26 (wrap64 (x27 + 1)) x146000 x146001 x146002 x146003 x146004 x146005))) else (none)) else (none))
def refute_walk.j2 : Nat → Int → List Int → List Int → Int → Int → Bool → Int → Int → Bool → List (S48) → List (S50) → List (S52) → Option (Int × Bool)
  | 0, _, _, _, _, _, _, _, _, _, _, _, _ => none
  | k + 1, x1, x2, x3, x8, x16, x112, x146000, x146001, x146002, x146003, x146004, x146005 => if x112 = true then (some (0, false)) else (refute_walk.l1 k x1 x2 x8 x16 x3 (x3.length : Int) 0 x146000 x146001 x146002 x146003 x146004 x146005)
def refute_walk.l1 : Nat → Int → List Int → Int → Int → List Int → Int → Int → Int → Int → Bool → List (S48) → List (S50) → List (S52) → Option (Int × Bool)
  | 0, _, _, _, _, _, _, _, _, _, _, _, _, _ => none
  | k + 1, x1, x2, x8, x16, x113, x114, x115, x146000, x146001, x146002, x146003, x146004, x146005 => if x115 < x114 then (if 0 ≤ x115 then (if x115 < (x113.length : Int) then (if 0 ≤ (rd x113 x115) then (if (rd x113 x115) < (x146003.length : Int) then ((refute_slot.f k x146000 x146001 x146002 x146003 x146004 x146005 x1 x2 ((rd_T48 x146003 (rd x113 x115)).f1)).bind fun bt161 => (if bt161.2 = true then (if x1 = 0 then (none) else (refute_walk.l1 k x1 x2 (wrap64 ((wrap64 (x8 + (wrap64 (((rd_T48 x146003 (rd x113 x115)).f2) - (wrap64 (x1 * ((rd_T48 x146003 (rd x113 x115)).f3))))))) + (Int.tmod (wrap64 ((Int.tmod (wrap64 ((wrap64 (bt161.1 - x16)) - (wrap64 (x8 + (wrap64 (((rd_T48 x146003 (rd x113 x115)).f2) - (wrap64 (x1 * ((rd_T48 x146003 (rd x113 x115)).f3))))))))) x1) + x1)) x1))) x16 x113 x114 (wrap64 (x115 + 1)) x146000 x146001 x146002 x146003 x146004 x146005)) else (refute_walk.l1 k x1 x2 (wrap64 (x8 + (wrap64 (((rd_T48 x146003 (rd x113 x115)).f2) - (wrap64 (x1 * ((rd_T48 x146003 (rd x113 x115)).f3))))))) x16 x113 x114 (wrap64 (x115 + 1)) x146000 x146001 x146002 x146003 x146004 x146005))) else (none)) else (none)) else (none)) else (none)) else (some (x8, true))
end
def refute_walk.f (k : Nat) (a0_0 : Int) (a0_1 : Int) (a0_2 : Bool) (l0_3 : List (S48)) (l0_4 : List (S50)) (l0_5 : List (S52)) (a1 : Int) (l2 : List Int) (l3 : List Int) : Option (Int × Bool) := if (l3.length : Int) = 0 then (some (0, false)) else (refute_walk.l0 k a1 l2 l3 0 false l3 (l3.length : Int) 0 a0_0 a0_1 a0_2 l0_3 l0_4 l0_5)
theorem refute_walk.mono_l : ∀ k, (∀ y0 y1 y2 y3 y4 y5 y6 y7 y8 y9 y10 y11 y12 y13, LeO (refute_walk.l0 k y0 y1 y2 y3 y4 y5 y6 y7 y8 y9 y10 y11 y12 y13) (refute_walk.l0 (k + 1) y0 y1 y2 y3 y4 y5 y6 y7 y8 y9 y10 y11 y12 y13)) ∧ (∀ y0 y1 y2 y3 y4 y5 y6 y7 y8 y9 y10 y11 y12 y13 y14 y15, LeO (refute_walk.j1 k y0 y1 y2 y3 y4 y5 y6 y7 y8 y9 y10 y11 y12 y13 y14 y15) (refute_walk.j1 (k + 1) y0 y1 y2 y3 y4 y5 y6 y7 y8 y9 y10 y11 y12 y13 y14 y15)) ∧ (∀ y0 y1 y2 y3 y4 y5 y6 y7 y8 y9 y10 y11, LeO (refute_walk.j2 k y0 y1 y2 y3 y4 y5 y6 y7 y8 y9 y10 y11) (refute_walk.j2 (k + 1) y0 y1 y2 y3 y4 y5 y6 y7 y8 y9 y10 y11)) ∧ (∀ y0 y1 y2 y3 y4 y5 y6 y7 y8 y9 y10 y11 y12, LeO (refute_walk.l1 k y0 y1 y2 y3 y4 y5 y6 y7 y8 y9 y10 y11 y12) (refute_walk.l1 (k + 1) y0 y1 y2 y3 y4 y5 y6 y7 y8 y9 y10 y11 y12))
  | 0 => by refine ⟨?_, ?_, ?_, ?_⟩ <;> intros <;> intro r h <;> simp [refute_walk.l0, refute_walk.j1, refute_walk.j2, refute_walk.l1] at h
  | k + 1 => by
    obtain ⟨ih0, ih1, ih2, ih3⟩ := refute_walk.mono_l k
    refine ⟨?_, ?_, ?_, ?_⟩ <;> intros <;> (first | unfold refute_walk.l0 | unfold refute_walk.j1 | unfold refute_walk.j2 | unfold refute_walk.l1) <;> repeat' first | (with_reducible first | apply ih0 | apply ih1 | apply ih2 | apply ih3 | apply refute_slot.mono | exact LeO.refl _ | exact LeO.none _ | refine LeO.ite ?_ ?_ | refine LeO.bind ?_ (fun _ => ?_)) | apply ih0 | apply ih1 | apply ih2 | apply ih3 | apply refute_slot.mono | exact LeO.none _ | refine LeO.ite ?_ ?_ | refine LeO.bind ?_ (fun _ => ?_)
theorem refute_walk.mono : ∀ a0 a1 a2 a3 a4 a5 a6 a7 a8 k, LeO (refute_walk.f k a0 a1 a2 a3 a4 a5 a6 a7 a8) (refute_walk.f (k + 1) a0 a1 a2 a3 a4 a5 a6 a7 a8) := by
 intro a0 a1 a2 a3 a4 a5 a6 a7 a8 k
 obtain ⟨ih0, ih1, ih2, ih3⟩ := refute_walk.mono_l k
 unfold refute_walk.f
 repeat' first | (with_reducible first | apply ih0 | apply ih1 | apply ih2 | apply ih3 | apply refute_slot.mono | exact LeO.refl _ | exact LeO.none _ | refine LeO.ite ?_ ?_ | refine LeO.bind ?_ (fun _ => ?_)) | apply ih0 | apply ih1 | apply ih2 | apply ih3 | apply refute_slot.mono | exact LeO.none _ | refine LeO.ite ?_ ?_ | refine LeO.bind ?_ (fun _ => ?_)
def refute_walk.T8 : Bool × List (List Nat × List Nat) := (true, [([], []), ([0], [0]), ([1], [1]), ([2], [2]), ([2], [2]), ([4, 2], [2, 4]), ([5, 2], [2, 5]), ([3, 6, 2], [2, 3, 6]), ([2, 7], [2, 7]), ([8, 2], [8]), ([9], [9]), ([10, 9], [9, 10]), ([9, 11], [9, 11]), ([12, 9], [12]), ([13], [13]), ([13], [13]), ([15, 13], [13, 15]), ([16, 13], [13, 16]), ([14, 17, 13], [13, 14, 17]), ([13, 18], [13, 18]), ([19, 13], [19]), ([20], [20]), ([21, 20], [20, 21]), ([20], [20]), ([22, 23, 20], [20, 22, 23]), ([24, 20], [20, 24]), ([25, 20], [20, 25]), ([20], [20]), ([27, 20], [20, 27]), ([20], [20]), ([28, 29, 20], [20, 28, 29]), ([30, 20], [20, 30]), ([31, 20], [20, 31]), ([26, 32, 20], [20, 26, 32]), ([20, 33], [20, 33])])
def refute_walk.B8 : List Nat := [0, 1, 3, 7, 7, 23, 55, 127, 255, 511, 1023, 2047, 4095, 8191, 16383, 16383, 49151, 114687, 262143, 524287, 1048575, 2097151, 4194303, 2097151, 16777215, 33554431, 67108863, 2097151, 136314879, 2097151, 941621247, 2015363071, 4162846719, 8589934591, 17179869183]
theorem refute_walk.tab8 : rtab .any (opsOf Try.f27 8) = refute_walk.T8 := by kernel_rfl
theorem refute_walk.bits8 : waitsOk refute_walk.T8.2 refute_walk.B8 = true := by kernel_rfl
def refute_walk.T10 : Bool × List (List Nat × List Nat) := (true, [([], []), ([], []), ([], []), ([], []), ([3], [3]), ([], []), ([4, 5], [4, 5]), ([6], [6]), ([7], [7]), ([0, 1, 2, 8], [0, 1, 2, 8]), ([9], [9]), ([10], [10]), ([10], [10]), ([11, 9, 0, 1, 2, 3, 4, 5, 6, 7, 8, 9, 10, 11], [11]), ([12, 13, 0, 1, 2, 3, 4, 5, 6, 7, 8, 9, 10, 11, 12, 13], [12])])
def refute_walk.B10 : List Nat := [0, 0, 0, 0, 8, 0, 56, 120, 248, 511, 1023, 2047, 2047, 4095, 16383]
theorem refute_walk.tab10 : rtab .any (opsOf Try.f27 10) = refute_walk.T10 := by kernel_rfl
theorem refute_walk.bits10 : waitsOk refute_walk.T10.2 refute_walk.B10 = true := by kernel_rfl
def refute_walk.T13 : Bool × List (List Nat × List Nat) := (true, [([], []), ([], []), ([], []), ([], []), ([3], [3]), ([], []), ([5], [5]), ([6], [6]), ([4, 7], [4, 7]), ([8], [8]), ([9], [9]), ([0, 1, 2, 10], [0, 1, 2, 10]), ([11], [11]), ([12], [12]), ([12], [12]), ([13, 11, 0, 1, 2, 3, 4, 5, 6, 7, 8, 9, 10, 11, 12, 13], [13]), ([14, 15, 0, 1, 2, 3, 4, 5, 6, 7, 8, 9, 10, 11, 12, 13, 14, 15], [14])])
def refute_walk.B13 : List Nat := [0, 0, 0, 0, 8, 0, 32, 96, 248, 504, 1016, 2047, 4095, 8191, 8191, 16383, 65535]
theorem refute_walk.tab13 : rtab .any (opsOf Try.f27 13) = refute_walk.T13 := by kernel_rfl
theorem refute_walk.bits13 : waitsOk refute_walk.T13.2 refute_walk.B13 = true := by kernel_rfl
def refute_walk.T19 : Bool × List (List Nat × List Nat) := (true, [([], []), ([], []), ([1], [1]), ([], []), ([2, 3], [2, 3]), ([4], [4]), ([5], [5]), ([], []), ([], []), ([8], [8]), ([], []), ([9, 10], [9, 10]), ([11], [11]), ([12], [12]), ([7, 13], [7, 13]), ([6, 14], [6, 14]), ([0, 15], [0, 15]), ([16, 0, 1, 2, 3, 4, 5, 6, 7, 8, 9, 10, 11, 12, 13, 14, 15, 16], [0, 16])])
def refute_walk.B19 : List Nat := [0, 0, 2, 0, 14, 30, 62, 0, 0, 256, 0, 1792, 3840, 7936, 16256, 32766, 65535, 131071]
theorem refute_walk.tab19 : rtab .any (opsOf Try.f27 19) = refute_walk.T19 := by kernel_rfl
theorem refute_walk.bits19 : waitsOk refute_walk.T19.2 refute_walk.B19 = true := by kernel_rfl
def refute_walk.T20 : Bool × List (List Nat × List Nat) := (true, [([], []), ([], []), ([], []), ([], []), ([3], [3]), ([], []), ([4, 5], [4, 5]), ([6], [6]), ([7], [7]), ([0, 1, 2, 8], [0, 1, 2, 8]), ([9], [9]), ([10], [10]), ([10], [10]), ([11, 9, 0, 1, 2, 3, 4, 5, 6, 7, 8, 9, 10, 11], [11]), ([12, 13, 0, 1, 2, 3, 4, 5, 6, 7, 8, 9, 10, 11, 12, 13], [12])])
def refute_walk.B20 : List Nat := [0, 0, 0, 0, 8, 0, 56, 120, 248, 511, 1023, 2047, 2047, 4095, 16383]
theorem refute_walk.tab20 : rtab .any (opsOf Try.f27 20) = refute_walk.T20 := by kernel_rfl
theorem refute_walk.bits20 : waitsOk refute_walk.T20.2 refute_walk.B20 = true := by kernel_rfl
set_option maxHeartbeats 8000000 in
set_option maxRecDepth 100000 in
theorem refute_walk.calls (k : Nat) (a0_0 : Int) (a0_1 : Int) (a0_2 : Bool) (A0_3 : Option Addr) (c0_3 : Nat) (l0_3 : List (S48)) (A0_4 : Option Addr) (c0_4 : Nat) (l0_4 : List (S50)) (A0_5 : Option Addr) (c0_5 : Nat) (l0_5 : List (S52)) (a1 : Int) (A2 : Option Addr) (c2 : Nat) (l2 : List Int) (A3 : Option Addr) (c3 : Nat) (l3 : List Int) (r1 : Int) (r2 : Bool) (w : World) (hr0_3 : Kd.C k48 w A0_3 l0_3.length l0_3) (hc0_3 : l0_3.length ≤ c0_3) (hr0_4 : Kd.C k50 w A0_4 l0_4.length l0_4) (hc0_4 : l0_4.length ≤ c0_4) (hr0_5 : Kd.C k52 w A0_5 l0_5.length l0_5) (hc0_5 : l0_5.length ≤ c0_5) (hr2 : Kd.C (Kd.int .i64) w A2 l2.length l2) (hc2 : l2.length ≤ c2) (hr3 : Kd.C (Kd.int .i64) w A3 l3.length l3) (hc3 : l3.length ≤ c3) (h : refute_walk.f k a0_0 a0_1 a0_2 l0_3 l0_4 l0_5 a1 l2 l3 = some (r1, r2)) :
    Calls Try.prog 27 #[.agg #[.int .i64 a0_0, .int .i64 a0_1, .bool a0_2, .slice A0_3 l0_3.length c0_3, .slice A0_4 l0_4.length c0_4, .slice A0_5 l0_5.length c0_5], .int .i64 a1, .slice A2 l2.length c2, .slice A3 l3.length c3] w fun e w' => e = .returned (.tuple #[.int .i64 r1, .bool r2]) ∧ Below w.heap.size w w' := by
 have hu26 := Try.underlying26
 have HR0_3 := Aside0.mk hr0_3
 have HC0_3 := Aside0.mk hc0_3
 clear hr0_3 hc0_3
 have HR0_4 := Aside0.mk hr0_4
 have HC0_4 := Aside0.mk hc0_4
 clear hr0_4 hc0_4
 have HR0_5 := Aside0.mk hr0_5
 have HC0_5 := Aside0.mk hc0_5
 clear hr0_5 hc0_5
 have HR2 := Aside0.mk hr2
 have HC2 := Aside0.mk hc2
 clear hr2 hc2
 have HR3 := Aside0.mk hr3
 have HC3 := Aside0.mk hc3
 clear hr3 hc3
 have HB := Aside0.mk (Below.refl w.heap.size w)
 have H : (if (l3.length : Int) = 0 then (some (0, false)) else (refute_walk.l0 k a1 l2 l3 0 false l3 (l3.length : Int) 0 a0_0 a0_1 a0_2 l0_3 l0_4 l0_5)) = some (r1, r2) := h
 clear h
 by_cases c5 : (l3.length : Int) = 0
 · rw [if_pos c5] at H
   have c5b0 : ((l3.length : Int) == 0) = true := beq_iff_eq.mpr c5
   have c5b1 : ((l3.length : Int) != 0) = false := bne_eq_false_iff_eq.mpr c5
   clear c5
   simp only [Option.some.injEq, Prod.mk.injEq] at H
   obtain ⟨rfl, rfl⟩ := H
   go_enter Try.func27, Try.ntmps27
   go_wp2_with (first | ((with_reducible refine gate_dst (N := 4) rfl ?_); (try (refine gate_guard (by rfl) ?_; dsimp only)); refine box_event ?hg (N := 4) ?hd (cs := #[.int .i64 a0_0, .int .i64 a0_1, .bool a0_2, .slice A0_3 l0_3.length c0_3, .slice A0_4 l0_4.length c0_4, .slice A0_5 l0_5.length c0_5]) (t := 26) ?hr ?_; (case hd => rfl); (case hg => rfl); (case hr => first | (go_simp; done) | (go_simp; rfl)); intro gb145 hg w6 hbox hb; have n0_ := Aside0.mk (below_step bl_ hb); have n1_ := Aside0.mk (hbox); have n2_ := Aside0.mk (gl_ (w := w) hg); have n3_ := Aside0.mk (gl_ (w := w) hg); clear HB; have HB := n0_; have BK145 := n1_; have GW145 := n2_; have GE145 := n3_; clear n0_ n1_ n2_ n3_; clear hb hbox hg))
   go_ret2
   exact ⟨by first | rfl | (simp [errW_none, errW_some] <;> rfl) | (simp [*, errW_none, errW_some] <;> rfl), by repeat (first | (with_reducible first | exact HB.out | apply below_alloc | apply pw_below_drewN | apply below_drew1 | refine below_set ?_ GE145.out) | exact HB.out)⟩
 rw [if_neg c5] at H
 have c5b0 : ((l3.length : Int) == 0) = false := beq_eq_false_iff_ne.mpr c5
 have c5b1 : ((l3.length : Int) != 0) = true := bne_iff_ne.mpr c5
 have c5b2 : ¬ (l3 = []) := fun h_ => c5 (by rw [h_]; rfl)
 have H' := Aside0.mk H
 clear H
 go_enter Try.func27, Try.ntmps27
 go_wp2_with (first | ((with_reducible refine gate_dst (N := 4) rfl ?_); (try (refine gate_guard (by rfl) ?_; dsimp only)); refine box_event ?hg (N := 4) ?hd (cs := #[.int .i64 a0_0, .int .i64 a0_1, .bool a0_2, .slice A0_3 l0_3.length c0_3, .slice A0_4 l0_4.length c0_4, .slice A0_5 l0_5.length c0_5]) (t := 26) ?hr ?_; (case hd => rfl); (case hg => rfl); (case hr => first | (go_simp; done) | (go_simp; rfl)); intro gb145 hg w7 hbox hb; have n0_ := Aside0.mk (below_step bl_ hb); have n1_ := Aside0.mk (hbox); have n2_ := Aside0.mk (gl_ (w := w) hg); have n3_ := Aside0.mk (gl_ (w := w) hg); clear HB; have HB := n0_; have BK145 := n1_; have GW145 := n2_; have GE145 := n3_; clear n0_ n1_ n2_ n3_; clear hb hbox hg))
 go_loopg [8, 10, 27] k (fun kq v8 v10 v27 w' => ∃ (x8_1 : Int) (x10_1 : Bool) (x27_1 : Int), v8 = .int .i64 x8_1 ∧ v10 = .bool x10_1 ∧ v27 = .int .i64 x27_1 ∧ Aside0 (refute_walk.l0 kq a1 l2 l3 x8_1 x10_1 l3 (l3.length : Int) x27_1 a0_0 a0_1 a0_2 l0_3 l0_4 l0_5 = some (r1, r2)) ∧ Aside0 (kq ≤ k) ∧ Aside0 (w'.heap[gb145]? = some (.cells #[.int .i64 a0_0, .int .i64 a0_1, .bool a0_2, (.slice A0_3 l0_3.length c0_3), (.slice A0_4 l0_4.length c0_4), (.slice A0_5 l0_5.length c0_5)] 26 (0, 0))) ∧ Aside0 (Below w.heap.size w w'))
 case atStart => exact ⟨(0), (false), (0), (by first | rfl | (simp; done) | (simp [*]; done)), (by first | rfl | (simp; done) | (simp [*]; done)), (by first | rfl | (simp; done) | (simp [*]; done)), H', ⟨Nat.le_refl _⟩, ⟨K_ BK145⟩, ⟨bl_⟩⟩
 clear H'
 obtain ⟨x8_1, x10_1, x27_1, rfl, rfl, rfl, HA, HK1, BK145, HB⟩ := hrel
 cases gk with
 | zero => exact absurd HA.out (by simp [refute_walk.l0])
 | succ k1 => ?_
 have H := HA.out
 clear HA
 simp only [refute_walk.l0] at H
 by_cases c8 : x27_1 < (l3.length : Int)
 · rw [if_pos c8] at H
   have c8b0 : decide (x27_1 < (l3.length : Int)) = true := decide_eq_true c8
   clear c8
   by_cases c9 : 0 ≤ x27_1
   · rw [if_pos c9] at H
     have c9b0 : decide (0 ≤ x27_1) = true := decide_eq_true c9
     clear c9
     by_cases c10 : x27_1 < (l3.length : Int)
     · rw [if_pos c10] at H
       have c10b0 : decide (x27_1 < (l3.length : Int)) = true := decide_eq_true c10
       clear c10
       by_cases c11 : (l3.length : Int) = 0
       · rw [if_pos c11] at H
         exact absurd H (by simp)
       rw [if_neg c11] at H
       have c11b0 : ((l3.length : Int) == 0) = false := beq_eq_false_iff_ne.mpr c11
       have c11b1 : ((l3.length : Int) != 0) = true := bne_iff_ne.mpr c11
       have c11b2 : ¬ (l3 = []) := fun h_ => c11 (by rw [h_]; rfl)
       obtain ⟨ji12, hji12⟩ : ∃ j_ : Int, (Int.tmod (wrap64 (x27_1 + 1)) (l3.length : Int)) = j_ := ⟨_, rfl⟩
       replace H : (if 0 ≤ (ji12) then (if (ji12) < (l3.length : Int) then (if (rd l3 x27_1) < 0 then (refute_walk.j1 k1 a1 l2 l3 x8_1 x10_1 (rd l3 x27_1) l3 (l3.length : Int) x27_1 true a0_0 a0_1 a0_2 l0_3 l0_4 l0_5) else (if (rd l3 x27_1) ≥ (l0_3.length : Int) then (refute_walk.j1 k1 a1 l2 l3 x8_1 x10_1 (rd l3 x27_1) l3 (l3.length : Int) x27_1 true a0_0 a0_1 a0_2 l0_3 l0_4 l0_5) else (if (rd l3 (ji12)) < 0 then (refute_walk.j1 k1 a1 l2 l3 x8_1 x10_1 (rd l3 x27_1) l3 (l3.length : Int) x27_1 true a0_0 a0_1 a0_2 l0_3 l0_4 l0_5) else (if (rd l3 (ji12)) ≥ (l0_3.length : Int) then (refute_walk.j1 k1 a1 l2 l3 x8_1 x10_1 (rd l3 x27_1) l3 (l3.length : Int) x27_1 true a0_0 a0_1 a0_2 l0_3 l0_4 l0_5) else (if 0 ≤ (rd l3 x27_1) then (if (rd l3 x27_1) < (l0_3.length : Int) then (if 0 ≤ (rd l3 (ji12)) then (if (rd l3 (ji12)) < (l0_3.length : Int) then (refute_walk.j1 k1 a1 l2 l3 x8_1 x10_1 (rd l3 x27_1) l3 (l3.length : Int) x27_1 (((rd_T48 l0_3 (rd l3 x27_1)).f1) != ((rd_T48 l0_3 (rd l3 (ji12))).f0)) a0_0 a0_1 a0_2 l0_3 l0_4 l0_5) else (none)) else (none)) else (none)) else (none)))))) else (none)) else (none)) = some (r1, r2) := by first | (rw [hji12] at H; exact H) | (simp only [hji12] at H ⊢; exact H)
       by_cases c13 : 0 ≤ (ji12)
       · rw [if_pos c13] at H
         have c13b0 : decide (0 ≤ (ji12)) = true := decide_eq_true c13
         clear c13
         by_cases c14 : (ji12) < (l3.length : Int)
         · rw [if_pos c14] at H
           have c14b0 : decide ((ji12) < (l3.length : Int)) = true := decide_eq_true c14
           clear c14
           have HC15 := Aside0.mk H
           clear H
           have p146 : 0 ≤ (x27_1 : Int) := of_decide_eq_true (by first | (with_reducible assumption) | assumption)
           have q146 : x27_1 < (l3.length : Int) := of_decide_eq_true (by first | (with_reducible assumption) | assumption)
           obtain ⟨ad146, e146, hx146_0⟩ := Kd.at_int HR3.out x27_1 p146 q146
           cases e146
           replace hx146_0 := hc_ HB hx146_0
           replace p146 := eq_true p146
           replace q146 := eq_true q146
           have p147 : 0 ≤ ((ji12) : Int) := of_decide_eq_true (by first | (with_reducible assumption) | assumption)
           have q147 : (ji12) < (l3.length : Int) := of_decide_eq_true (by first | (with_reducible assumption) | assumption)
           obtain ⟨ad147, e147, hx147_0⟩ := Kd.at_int HR3.out (ji12) p147 q147
           obtain rfl : ad146 = ad147 := (by injection e147)
           replace hx147_0 := hc_ HB hx147_0
           replace p147 := eq_true p147
           replace q147 := eq_true q147
           go_upto_region 8 with (fail)
           go_cut [74] (fun v74 wc => ∃ (kq : Nat) (x74_14 : Bool), v74 = .bool x74_14 ∧ Aside0 (refute_walk.j1 kq a1 l2 l3 x8_1 x10_1 (rd l3 x27_1) l3 (l3.length : Int) x27_1 x74_14 a0_0 a0_1 a0_2 l0_3 l0_4 l0_5 = some (r1, r2)) ∧ Aside0 (kq ≤ k1) ∧ Aside0 (wc.heap[gb145]? = some (.cells #[.int .i64 a0_0, .int .i64 a0_1, .bool a0_2, (.slice A0_3 l0_3.length c0_3), (.slice A0_4 l0_4.length c0_4), (.slice A0_5 l0_5.length c0_5)] 26 (0, 0))) ∧ Aside0 (Below w.heap.size w wc))
           case first =>
            have H := HC15.out
            clear HC15
            by_cases c16 : (rd l3 x27_1) < 0
            · rw [if_pos c16] at H
              have c16b0 : decide ((rd l3 x27_1) < 0) = true := decide_eq_true c16
              clear c16
              (first | rw [c16b0] | (simp only [i64_w, i32_w]; rw [c16b0]) | skip)
              have H' := Aside0.mk H
              clear H
              try go_wp2
              have n0_ := Aside0.mk (blk_drew BK145.out)
              have n1_ := Aside0.mk (below_drew1 HB.out)
              clear BK145
              clear HB
              have BK145 := n0_
              have HB := n1_
              clear n0_ n1_
              refine start_ (n := 35) (S := fun w' => True) (ds := []) (bz 35 0) (by kernel_rfl) rfl rfl trivial (fun hHeld => ?_); refine with_tabW refute_walk.tab8 refute_walk.bits8 (fun HT_ HW_ => ?_)
              generalize wr.drew = w17 at BK145 HB hHeld ⊢
              refine pu_ 0 40 HT_ ?_
              refine pu_ 1 41 HT_ ?_
              refine pu_ 2 42 HT_ ?_
              refine pn_ 3 43 HT_ ?_
              refine pn_ 4 44 HT_ ?_
              refine pn_ 5 45 HT_ ?_
              refine pn_ 6 46 HT_ ?_
              refine pn_ 7 47 HT_ ?_
              refine pu_ 8 48 HT_ ?_
              refine pu_ 9 49 HT_ ?_
              refine pn_ 10 50 HT_ ?_
              refine pn_ 11 51 HT_ ?_
              refine pu_ 12 52 HT_ ?_
              refine pu_ 13 53 HT_ ?_
              refine pn_ 14 54 HT_ ?_
              refine pn_ 15 55 HT_ ?_
              refine pn_ 16 56 HT_ ?_
              refine pn_ 17 57 HT_ ?_
              refine pn_ 18 58 HT_ ?_
              refine pu_ 19 59 HT_ ?_
              refine pu_ 20 60 HT_ ?_
              refine pn_ 21 61 HT_ ?_
              refine pn_ 22 62 HT_ ?_
              refine pn_ 23 63 HT_ ?_
              refine pn_ 24 64 HT_ ?_
              refine pn_ 25 65 HT_ ?_
              refine pn_ 26 66 HT_ ?_
              refine pn_ 27 67 HT_ ?_
              refine pn_ 28 68 HT_ ?_
              refine pn_ 29 69 HT_ ?_
              refine pn_ 30 70 HT_ ?_
              refine pn_ 31 71 HT_ ?_
              refine pn_ 32 72 HT_ ?_
              refine pn_ 33 73 HT_ ?_
              refine pu_ 34 74 HT_ ?_
              refine done_ (done_of HT_.out (by kernel_rfl)) ?_
              try go_wp2
              go_meet
              case rel => exact ⟨_, (true), (by first | rfl | (simp; done) | (simp [*]; done)), H', ⟨by have := HK1.out; first | omega | exact Nat.le_refl _⟩, ⟨K_ BK145⟩, ⟨bl_⟩⟩
            rw [if_neg c16] at H
            have c16b0 : decide ((rd l3 x27_1) < 0) = false := decide_eq_false c16
            clear c16
            (first | rw [c16b0] | (simp only [i64_w, i32_w]; rw [c16b0]) | skip)
            by_cases c18 : (rd l3 x27_1) ≥ (l0_3.length : Int)
            · rw [if_pos c18] at H
              have c18b0 : decide ((l0_3.length : Int) ≤ (rd l3 x27_1)) = true := decide_eq_true c18
              clear c18
              have H' := Aside0.mk H
              clear H
              try go_wp2
              have n0_ := Aside0.mk (blk_drew BK145.out)
              have n1_ := Aside0.mk (below_drew1 HB.out)
              clear BK145
              clear HB
              have BK145 := n0_
              have HB := n1_
              clear n0_ n1_
              refine start_ (n := 35) (S := fun w' => w'.cell? ⟨gb145, 0, none⟩ = some (.int .i64 a0_0) ∧ w'.cell? ⟨gb145, 1, none⟩ = some (.int .i64 a0_1) ∧ w'.cell? ⟨gb145, 2, none⟩ = some (.bool a0_2) ∧ w'.cell? ⟨gb145, 3, none⟩ = some (.slice A0_3 l0_3.length c0_3) ∧ w'.cell? ⟨gb145, 4, none⟩ = some (.slice A0_4 l0_4.length c0_4) ∧ w'.cell? ⟨gb145, 5, none⟩ = some (.slice A0_5 l0_5.length c0_5)) (ds := []) (bz 35 0) (by kernel_rfl) rfl rfl ⟨(blk_cell BK145.out 0).trans rfl, (blk_cell BK145.out 1).trans rfl, (blk_cell BK145.out 2).trans rfl, (blk_cell BK145.out 3).trans rfl, (blk_cell BK145.out 4).trans rfl, (blk_cell BK145.out 5).trans rfl⟩ (fun hHeld => ?_); refine with_tabW refute_walk.tab8 refute_walk.bits8 (fun HT_ HW_ => ?_)
              generalize wr.drew = w19 at BK145 HB hHeld ⊢
              refine pu_ 0 40 HT_ ?_
              refine pu_ 1 41 HT_ ?_
              refine pu_ 2 42 HT_ ?_
              refine pu_ 3 43 HT_ ?_
              refine pu_ 4 44 HT_ ?_
              refine tk_ 5 45 HT_ HW_ hHeld ?_ (hy := by rintro w' ⟨s0, s1, s2, s3, s4, s5⟩; go_simp; with_reducible rfl)
              refine pu_ 6 46 HT_ ?_
              refine pu_ 7 47 HT_ ?_
              refine pu_ 8 48 HT_ ?_
              refine pu_ 9 49 HT_ ?_
              refine pn_ 10 50 HT_ ?_
              refine pn_ 11 51 HT_ ?_
              refine pu_ 12 52 HT_ ?_
              refine pu_ 13 53 HT_ ?_
              refine pn_ 14 54 HT_ ?_
              refine pn_ 15 55 HT_ ?_
              refine pn_ 16 56 HT_ ?_
              refine pn_ 17 57 HT_ ?_
              refine pn_ 18 58 HT_ ?_
              refine pu_ 19 59 HT_ ?_
              refine pu_ 20 60 HT_ ?_
              refine pn_ 21 61 HT_ ?_
              refine pn_ 22 62 HT_ ?_
              refine pn_ 23 63 HT_ ?_
              refine pn_ 24 64 HT_ ?_
              refine pn_ 25 65 HT_ ?_
              refine pn_ 26 66 HT_ ?_
              refine pn_ 27 67 HT_ ?_
              refine pn_ 28 68 HT_ ?_
              refine pn_ 29 69 HT_ ?_
              refine pn_ 30 70 HT_ ?_
              refine pn_ 31 71 HT_ ?_
              refine pn_ 32 72 HT_ ?_
              refine pn_ 33 73 HT_ ?_
              refine pu_ 34 74 HT_ ?_
              refine done_ (done_of HT_.out (by kernel_rfl)) ?_
              try go_wp2
              go_meet
              case rel => exact ⟨_, (true), (by first | rfl | (simp; done) | (simp [*]; done)), H', ⟨by have := HK1.out; first | omega | exact Nat.le_refl _⟩, ⟨K_ BK145⟩, ⟨bl_⟩⟩
            rw [if_neg c18] at H
            have c18b0 : decide ((l0_3.length : Int) ≤ (rd l3 x27_1)) = false := decide_eq_false c18
            clear c18
            by_cases c20 : (rd l3 (ji12)) < 0
            · rw [if_pos c20] at H
              have c20b0 : decide ((rd l3 (ji12)) < 0) = true := decide_eq_true c20
              clear c20
              have H' := Aside0.mk H
              clear H
              try go_wp2
              have n0_ := Aside0.mk (blk_drew BK145.out)
              have n1_ := Aside0.mk (below_drew1 HB.out)
              clear BK145
              clear HB
              have BK145 := n0_
              have HB := n1_
              clear n0_ n1_
              refine start_ (n := 35) (S := fun w' => w'.cell? ⟨gb145, 0, none⟩ = some (.int .i64 a0_0) ∧ w'.cell? ⟨gb145, 1, none⟩ = some (.int .i64 a0_1) ∧ w'.cell? ⟨gb145, 2, none⟩ = some (.bool a0_2) ∧ w'.cell? ⟨gb145, 3, none⟩ = some (.slice A0_3 l0_3.length c0_3) ∧ w'.cell? ⟨gb145, 4, none⟩ = some (.slice A0_4 l0_4.length c0_4) ∧ w'.cell? ⟨gb145, 5, none⟩ = some (.slice A0_5 l0_5.length c0_5)) (ds := []) (bz 35 0) (by kernel_rfl) rfl rfl ⟨(blk_cell BK145.out 0).trans rfl, (blk_cell BK145.out 1).trans rfl, (blk_cell BK145.out 2).trans rfl, (blk_cell BK145.out 3).trans rfl, (blk_cell BK145.out 4).trans rfl, (blk_cell BK145.out 5).trans rfl⟩ (fun hHeld => ?_); refine with_tabW refute_walk.tab8 refute_walk.bits8 (fun HT_ HW_ => ?_)
              generalize wr.drew = w21 at BK145 HB hHeld ⊢
              refine pu_ 0 40 HT_ ?_
              refine pu_ 1 41 HT_ ?_
              refine pu_ 2 42 HT_ ?_
              refine pu_ 3 43 HT_ ?_
              refine pu_ 4 44 HT_ ?_
              refine tk_ 5 45 HT_ HW_ hHeld ?_ (hy := by rintro w' ⟨s0, s1, s2, s3, s4, s5⟩; go_simp; with_reducible rfl)
              refine pu_ 6 46 HT_ ?_
              refine pu_ 7 47 HT_ ?_
              refine pu_ 8 48 HT_ ?_
              refine pu_ 9 49 HT_ ?_
              refine pu_ 10 50 HT_ ?_
              refine pu_ 11 51 HT_ ?_
              refine pu_ 12 52 HT_ ?_
              refine pu_ 13 53 HT_ ?_
              refine pn_ 14 54 HT_ ?_
              refine pn_ 15 55 HT_ ?_
              refine pn_ 16 56 HT_ ?_
              refine pn_ 17 57 HT_ ?_
              refine pn_ 18 58 HT_ ?_
              refine pu_ 19 59 HT_ ?_
              refine pu_ 20 60 HT_ ?_
              refine pn_ 21 61 HT_ ?_
              refine pn_ 22 62 HT_ ?_
              refine pn_ 23 63 HT_ ?_
              refine pn_ 24 64 HT_ ?_
              refine pn_ 25 65 HT_ ?_
              refine pn_ 26 66 HT_ ?_
              refine pn_ 27 67 HT_ ?_
              refine pn_ 28 68 HT_ ?_
              refine pn_ 29 69 HT_ ?_
              refine pn_ 30 70 HT_ ?_
              refine pn_ 31 71 HT_ ?_
              refine pn_ 32 72 HT_ ?_
              refine pn_ 33 73 HT_ ?_
              refine pu_ 34 74 HT_ ?_
              refine done_ (done_of HT_.out (by kernel_rfl)) ?_
              try go_wp2
              go_meet
              case rel => exact ⟨_, (true), (by first | rfl | (simp; done) | (simp [*]; done)), H', ⟨by have := HK1.out; first | omega | exact Nat.le_refl _⟩, ⟨K_ BK145⟩, ⟨bl_⟩⟩
            rw [if_neg c20] at H
            have c20b0 : decide ((rd l3 (ji12)) < 0) = false := decide_eq_false c20
            clear c20
            by_cases c22 : (rd l3 (ji12)) ≥ (l0_3.length : Int)
            · rw [if_pos c22] at H
              have c22b0 : decide ((l0_3.length : Int) ≤ (rd l3 (ji12))) = true := decide_eq_true c22
              clear c22
              have H' := Aside0.mk H
              clear H
              try go_wp2
              have n0_ := Aside0.mk (blk_drew BK145.out)
              have n1_ := Aside0.mk (below_drew1 HB.out)
              clear BK145
              clear HB
              have BK145 := n0_
              have HB := n1_
              clear n0_ n1_
              refine start_ (n := 35) (S := fun w' => w'.cell? ⟨gb145, 0, none⟩ = some (.int .i64 a0_0) ∧ w'.cell? ⟨gb145, 1, none⟩ = some (.int .i64 a0_1) ∧ w'.cell? ⟨gb145, 2, none⟩ = some (.bool a0_2) ∧ w'.cell? ⟨gb145, 3, none⟩ = some (.slice A0_3 l0_3.length c0_3) ∧ w'.cell? ⟨gb145, 4, none⟩ = some (.slice A0_4 l0_4.length c0_4) ∧ w'.cell? ⟨gb145, 5, none⟩ = some (.slice A0_5 l0_5.length c0_5)) (ds := []) (bz 35 0) (by kernel_rfl) rfl rfl ⟨(blk_cell BK145.out 0).trans rfl, (blk_cell BK145.out 1).trans rfl, (blk_cell BK145.out 2).trans rfl, (blk_cell BK145.out 3).trans rfl, (blk_cell BK145.out 4).trans rfl, (blk_cell BK145.out 5).trans rfl⟩ (fun hHeld => ?_); refine with_tabW refute_walk.tab8 refute_walk.bits8 (fun HT_ HW_ => ?_)
              generalize wr.drew = w23 at BK145 HB hHeld ⊢
              refine pu_ 0 40 HT_ ?_
              refine pu_ 1 41 HT_ ?_
              refine pu_ 2 42 HT_ ?_
              refine pu_ 3 43 HT_ ?_
              refine pu_ 4 44 HT_ ?_
              refine tk_ 5 45 HT_ HW_ hHeld ?_ (hy := by rintro w' ⟨s0, s1, s2, s3, s4, s5⟩; go_simp; with_reducible rfl)
              refine pu_ 6 46 HT_ ?_
              refine pu_ 7 47 HT_ ?_
              refine pu_ 8 48 HT_ ?_
              refine pu_ 9 49 HT_ ?_
              refine pu_ 10 50 HT_ ?_
              refine pu_ 11 51 HT_ ?_
              refine pu_ 12 52 HT_ ?_
              refine pu_ 13 53 HT_ ?_
              refine pu_ 14 54 HT_ ?_
              refine pu_ 15 55 HT_ ?_
              refine tk_ 16 56 HT_ HW_ hHeld ?_ (hy := by rintro w' ⟨s0, s1, s2, s3, s4, s5⟩; go_simp; with_reducible rfl)
              refine pu_ 17 57 HT_ ?_
              refine pu_ 18 58 HT_ ?_
              refine pu_ 19 59 HT_ ?_
              refine pu_ 20 60 HT_ ?_
              refine pn_ 21 61 HT_ ?_
              refine pn_ 22 62 HT_ ?_
              refine pn_ 23 63 HT_ ?_
              refine pn_ 24 64 HT_ ?_
              refine pn_ 25 65 HT_ ?_
              refine pn_ 26 66 HT_ ?_
              refine pn_ 27 67 HT_ ?_
              refine pn_ 28 68 HT_ ?_
              refine pn_ 29 69 HT_ ?_
              refine pn_ 30 70 HT_ ?_
              refine pn_ 31 71 HT_ ?_
              refine pn_ 32 72 HT_ ?_
              refine pn_ 33 73 HT_ ?_
              refine pu_ 34 74 HT_ ?_
              refine done_ (done_of HT_.out (by kernel_rfl)) ?_
              try go_wp2
              go_meet
              case rel => exact ⟨_, (true), (by first | rfl | (simp; done) | (simp [*]; done)), H', ⟨by have := HK1.out; first | omega | exact Nat.le_refl _⟩, ⟨K_ BK145⟩, ⟨bl_⟩⟩
            rw [if_neg c22] at H
            have c22b0 : decide ((l0_3.length : Int) ≤ (rd l3 (ji12))) = false := decide_eq_false c22
            clear c22
            by_cases c24 : 0 ≤ (rd l3 x27_1)
            · rw [if_pos c24] at H
              have c24b0 : decide (0 ≤ (rd l3 x27_1)) = true := decide_eq_true c24
              clear c24
              by_cases c25 : (rd l3 x27_1) < (l0_3.length : Int)
              · rw [if_pos c25] at H
                have c25b0 : decide ((rd l3 x27_1) < (l0_3.length : Int)) = true := decide_eq_true c25
                clear c25
                by_cases c26 : 0 ≤ (rd l3 (ji12))
                · rw [if_pos c26] at H
                  have c26b0 : decide (0 ≤ (rd l3 (ji12))) = true := decide_eq_true c26
                  clear c26
                  by_cases c27 : (rd l3 (ji12)) < (l0_3.length : Int)
                  · rw [if_pos c27] at H
                    have c27b0 : decide ((rd l3 (ji12)) < (l0_3.length : Int)) = true := decide_eq_true c27
                    clear c27
                    have H' := Aside0.mk H
                    clear H
                    try go_wp2
                    have n0_ := Aside0.mk (blk_drew BK145.out)
                    have n1_ := Aside0.mk (below_drew1 HB.out)
                    clear BK145
                    clear HB
                    have BK145 := n0_
                    have HB := n1_
                    clear n0_ n1_
                    have p148 : 0 ≤ ((rd l3 x27_1) : Int) := of_decide_eq_true (by first | (with_reducible assumption) | assumption)
                    have q148 : (rd l3 x27_1) < (l0_3.length : Int) := of_decide_eq_true (by first | (with_reducible assumption) | assumption)
                    obtain ⟨ad148, e148, hx148_0, hx148_1, hx148_2, hx148_3⟩ := at_T48 HR0_3.out (rd l3 x27_1) p148 q148
                    have hw148_3 := hx148_3
                    have hw148_2 := hx148_2
                    have hw148_1 := hx148_1
                    have hw148_0 := hx148_0
                    cases e148
                    replace hx148_0 := hc_ HB hx148_0
                    replace hx148_1 := hc_ HB hx148_1
                    replace hx148_2 := hc_ HB hx148_2
                    replace hx148_3 := hc_ HB hx148_3
                    replace p148 := eq_true p148
                    replace q148 := eq_true q148
                    have p149 : 0 ≤ ((rd l3 (ji12)) : Int) := of_decide_eq_true (by first | (with_reducible assumption) | assumption)
                    have q149 : (rd l3 (ji12)) < (l0_3.length : Int) := of_decide_eq_true (by first | (with_reducible assumption) | assumption)
                    obtain ⟨ad149, e149, hx149_0, hx149_1, hx149_2, hx149_3⟩ := at_T48 HR0_3.out (rd l3 (ji12)) p149 q149
                    have hw149_3 := hx149_3
                    have hw149_2 := hx149_2
                    have hw149_1 := hx149_1
                    have hw149_0 := hx149_0
                    obtain rfl : ad148 = ad149 := (by injection e149)
                    replace hx149_0 := hc_ HB hx149_0
                    replace hx149_1 := hc_ HB hx149_1
                    replace hx149_2 := hc_ HB hx149_2
                    replace hx149_3 := hc_ HB hx149_3
                    replace p149 := eq_true p149
                    replace q149 := eq_true q149
                    refine start_ (n := 35) (S := fun w' => w'.cell? ⟨gb145, 0, none⟩ = some (.int .i64 a0_0) ∧ w'.cell? ⟨gb145, 1, none⟩ = some (.int .i64 a0_1) ∧ w'.cell? ⟨gb145, 2, none⟩ = some (.bool a0_2) ∧ w'.cell? ⟨gb145, 3, none⟩ = some (.slice (some ad148) l0_3.length c0_3) ∧ w'.cell? ⟨gb145, 4, none⟩ = some (.slice A0_4 l0_4.length c0_4) ∧ w'.cell? ⟨gb145, 5, none⟩ = some (.slice A0_5 l0_5.length c0_5) ∧ w'.cell? (ad148.add (((rd l3 x27_1)).toNat * 4)) = some (.int .i64 ((rd_T48 l0_3 (rd l3 x27_1)).f0)) ∧ w'.cell? ⟨(ad148.add (((rd l3 x27_1)).toNat * 4)).block, (ad148.add (((rd l3 x27_1)).toNat * 4)).off + 1, none⟩ = some (.int .i64 ((rd_T48 l0_3 (rd l3 x27_1)).f1)) ∧ w'.cell? ⟨(ad148.add (((rd l3 x27_1)).toNat * 4)).block, (ad148.add (((rd l3 x27_1)).toNat * 4)).off + 2, none⟩ = some (.int .i64 ((rd_T48 l0_3 (rd l3 x27_1)).f2)) ∧ w'.cell? ⟨(ad148.add (((rd l3 x27_1)).toNat * 4)).block, (ad148.add (((rd l3 x27_1)).toNat * 4)).off + 3, none⟩ = some (.int .i64 ((rd_T48 l0_3 (rd l3 x27_1)).f3)) ∧ w'.cell? (ad148.add (((rd l3 (ji12))).toNat * 4)) = some (.int .i64 ((rd_T48 l0_3 (rd l3 (ji12))).f0)) ∧ w'.cell? ⟨(ad148.add (((rd l3 (ji12))).toNat * 4)).block, (ad148.add (((rd l3 (ji12))).toNat * 4)).off + 1, none⟩ = some (.int .i64 ((rd_T48 l0_3 (rd l3 (ji12))).f1)) ∧ w'.cell? ⟨(ad148.add (((rd l3 (ji12))).toNat * 4)).block, (ad148.add (((rd l3 (ji12))).toNat * 4)).off + 2, none⟩ = some (.int .i64 ((rd_T48 l0_3 (rd l3 (ji12))).f2)) ∧ w'.cell? ⟨(ad148.add (((rd l3 (ji12))).toNat * 4)).block, (ad148.add (((rd l3 (ji12))).toNat * 4)).off + 3, none⟩ = some (.int .i64 ((rd_T48 l0_3 (rd l3 (ji12))).f3))) (ds := []) (bz 35 0) (by kernel_rfl) rfl rfl ⟨(blk_cell BK145.out 0).trans rfl, (blk_cell BK145.out 1).trans rfl, (blk_cell BK145.out 2).trans rfl, (blk_cell BK145.out 3).trans rfl, (blk_cell BK145.out 4).trans rfl, (blk_cell BK145.out 5).trans rfl, (hc_ HB hw148_0), (hc_ HB hw148_1), (hc_ HB hw148_2), (hc_ HB hw148_3), (hc_ HB hw149_0), (hc_ HB hw149_1), (hc_ HB hw149_2), (hc_ HB hw149_3)⟩ (fun hHeld => ?_); refine with_tabW refute_walk.tab8 refute_walk.bits8 (fun HT_ HW_ => ?_)
                    generalize wr.drew = w28 at BK145 HB hx148_0 hx148_1 hx148_2 hx148_3 hx149_0 hx149_1 hx149_2 hx149_3 hHeld ⊢
                    refine pu_ 0 40 HT_ ?_
                    refine pu_ 1 41 HT_ ?_
                    refine pu_ 2 42 HT_ ?_
                    refine pu_ 3 43 HT_ ?_
                    refine pu_ 4 44 HT_ ?_
                    refine tk_ 5 45 HT_ HW_ hHeld ?_ (hy := by rintro w' ⟨s0, s1, s2, s3, s4, s5, s6, s7, s8, s9, s10, s11, s12, s13⟩; go_simp; with_reducible rfl)
                    refine pu_ 6 46 HT_ ?_
                    refine pu_ 7 47 HT_ ?_
                    refine pu_ 8 48 HT_ ?_
                    refine pu_ 9 49 HT_ ?_
                    refine pu_ 10 50 HT_ ?_
                    refine pu_ 11 51 HT_ ?_
                    refine pu_ 12 52 HT_ ?_
                    refine pu_ 13 53 HT_ ?_
                    refine pu_ 14 54 HT_ ?_
                    refine pu_ 15 55 HT_ ?_
                    refine tk_ 16 56 HT_ HW_ hHeld ?_ (hy := by rintro w' ⟨s0, s1, s2, s3, s4, s5, s6, s7, s8, s9, s10, s11, s12, s13⟩; go_simp; with_reducible rfl)
                    refine pu_ 17 57 HT_ ?_
                    refine pu_ 18 58 HT_ ?_
                    refine pu_ 19 59 HT_ ?_
                    refine pu_ 20 60 HT_ ?_
                    refine pu_ 21 61 HT_ ?_
                    refine pu_ 23 63 HT_ ?_
                    refine pu_ 27 67 HT_ ?_
                    refine pu_ 29 69 HT_ ?_
                    refine tk_ 22 62 HT_ HW_ hHeld ?_ (hy := by rintro w' ⟨s0, s1, s2, s3, s4, s5, s6, s7, s8, s9, s10, s11, s12, s13⟩; go_simp; with_reducible rfl)
                    refine pu_ 24 64 HT_ ?_
                    refine pu_ 25 65 HT_ ?_
                    refine tk_ 26 66 HT_ HW_ hHeld ?_ (hy := by rintro w' ⟨s0, s1, s2, s3, s4, s5, s6, s7, s8, s9, s10, s11, s12, s13⟩; go_simp; with_reducible rfl)
                    refine tk_ 28 68 HT_ HW_ hHeld ?_ (hy := by rintro w' ⟨s0, s1, s2, s3, s4, s5, s6, s7, s8, s9, s10, s11, s12, s13⟩; go_simp; with_reducible rfl)
                    refine pu_ 30 70 HT_ ?_
                    refine pu_ 31 71 HT_ ?_
                    refine tk_ 32 72 HT_ HW_ hHeld ?_ (hy := by rintro w' ⟨s0, s1, s2, s3, s4, s5, s6, s7, s8, s9, s10, s11, s12, s13⟩; go_simp; with_reducible rfl)
                    refine pu_ 33 73 HT_ ?_
                    refine pu_ 34 74 HT_ ?_
                    refine done_ (done_of HT_.out (by kernel_rfl)) ?_
                    try go_wp2
                    go_meet
                    case rel => exact ⟨_, ((((rd_T48 l0_3 (rd l3 x27_1)).f1) != ((rd_T48 l0_3 (rd l3 (ji12))).f0))), (by first | rfl | (simp; done) | (simp only [← hji12] <;> (first | rfl | simp)) | (simp [*]; done)), H', ⟨by have := HK1.out; first | omega | exact Nat.le_refl _⟩, ⟨K_ BK145⟩, ⟨bl_⟩⟩
                  rw [if_neg c27] at H
                  exact absurd H (by simp)
                rw [if_neg c26] at H
                exact absurd H (by simp)
              rw [if_neg c25] at H
              exact absurd H (by simp)
            rw [if_neg c24] at H
            exact absurd H (by simp)
           clear HC15
           obtain ⟨kq, x74_14, rfl, HA, HJ14, BK145, HB⟩ := hcut
           cases kq with
           | zero => exact absurd HA.out (by simp [refute_walk.j1])
           | succ kj14 => ?_
           have H := HA.out
           clear HA
           simp only [refute_walk.j1] at H
           by_cases c29 : x74_14 = true
           · subst c29
             have H1 : (some (0, false)) = some (r1, r2) := by rw [if_pos rfl] at H; exact H
             clear H
             have H := H1
             clear H1
             simp only [Option.some.injEq, Prod.mk.injEq] at H
             obtain ⟨rfl, rfl⟩ := H
             go_wp2
             go_ret2
             exact ⟨by first | rfl | (simp [errW_none, errW_some] <;> rfl) | (simp only [← hji12]; first | rfl | (simp [errW_none, errW_some] <;> rfl)) | (simp [*, errW_none, errW_some] <;> rfl), by repeat (first | (with_reducible first | exact HB.out | apply below_alloc | apply pw_below_drewN | apply below_drew1 | refine below_set ?_ GE145.out) | exact HB.out)⟩
           replace c29 := Bool.eq_false_iff.mpr c29
           subst c29
           have H1 : (if 0 ≤ (rd l3 x27_1) then (if (rd l3 x27_1) < (l0_3.length : Int) then ((refute_slot.f kj14 a0_0 a0_1 a0_2 l0_3 l0_4 l0_5 a1 l2 ((rd_T48 l0_3 (rd l3 x27_1)).f0)).bind fun bt151 => (if x10_1 = true then (refute_walk.l0 kj14 a1 l2 l3 x8_1 true l3 (l3.length : Int) (wrap64 (x27_1 + 1)) a0_0 a0_1 a0_2 l0_3 l0_4 l0_5) else (refute_walk.l0 kj14 a1 l2 l3 x8_1 bt151.2 l3 (l3.length : Int) (wrap64 (x27_1 + 1)) a0_0 a0_1 a0_2 l0_3 l0_4 l0_5))) else (none)) else (none)) = some (r1, r2) := by rw [if_neg (show ¬ (false = true) by decide)] at H; exact H
           clear H
           have H := H1
           clear H1
           by_cases c30 : 0 ≤ (rd l3 x27_1)
           · rw [if_pos c30] at H
             have c30b0 : decide (0 ≤ (rd l3 x27_1)) = true := decide_eq_true c30
             clear c30
             by_cases c31 : (rd l3 x27_1) < (l0_3.length : Int)
             · rw [if_pos c31] at H
               have c31b0 : decide ((rd l3 x27_1) < (l0_3.length : Int)) = true := decide_eq_true c31
               clear c31
               replace H := Option.bind_eq_some_iff.mp H
               obtain ⟨⟨t151, t152⟩, A320, H⟩ := H
               replace H : (if x10_1 = true then (refute_walk.l0 kj14 a1 l2 l3 x8_1 true l3 (l3.length : Int) (wrap64 (x27_1 + 1)) a0_0 a0_1 a0_2 l0_3 l0_4 l0_5) else (refute_walk.l0 kj14 a1 l2 l3 x8_1 t152 l3 (l3.length : Int) (wrap64 (x27_1 + 1)) a0_0 a0_1 a0_2 l0_3 l0_4 l0_5)) = some (r1, r2) := H
               have A32 := Aside0.mk A320
               clear A320
               by_cases c33 : x10_1 = true
               · subst c33
                 have H1 : (refute_walk.l0 kj14 a1 l2 l3 x8_1 true l3 (l3.length : Int) (wrap64 (x27_1 + 1)) a0_0 a0_1 a0_2 l0_3 l0_4 l0_5) = some (r1, r2) := by rw [if_pos rfl] at H; exact H
                 clear H
                 have H := H1
                 clear H1
                 have H' := Aside0.mk H
                 clear H
                 try go_wp2
                 have n0_ := Aside0.mk (blk_drew BK145.out)
                 have n1_ := Aside0.mk (below_drew1 HB.out)
                 clear BK145
                 clear HB
                 have BK145 := n0_
                 have HB := n1_
                 clear n0_ n1_
                 have p150 : 0 ≤ ((rd l3 x27_1) : Int) := of_decide_eq_true (by first | (with_reducible assumption) | assumption)
                 have q150 : (rd l3 x27_1) < (l0_3.length : Int) := of_decide_eq_true (by first | (with_reducible assumption) | assumption)
                 obtain ⟨ad150, e150, hx150_0, hx150_1, hx150_2, hx150_3⟩ := at_T48 HR0_3.out (rd l3 x27_1) p150 q150
                 have hw150_3 := hx150_3
                 have hw150_2 := hx150_2
                 have hw150_1 := hx150_1
                 have hw150_0 := hx150_0
                 cases e150
                 replace hx150_0 := hc_ HB hx150_0
                 replace hx150_1 := hc_ HB hx150_1
                 replace hx150_2 := hc_ HB hx150_2
                 replace hx150_3 := hc_ HB hx150_3
                 replace p150 := eq_true p150
                 replace q150 := eq_true q150
                 refine start_ (n := 15) (S := fun w' => w'.cell? ⟨gb145, 0, none⟩ = some (.int .i64 a0_0) ∧ w'.cell? ⟨gb145, 1, none⟩ = some (.int .i64 a0_1) ∧ w'.cell? ⟨gb145, 2, none⟩ = some (.bool a0_2) ∧ w'.cell? ⟨gb145, 3, none⟩ = some (.slice (some ad150) l0_3.length c0_3) ∧ w'.cell? ⟨gb145, 4, none⟩ = some (.slice A0_4 l0_4.length c0_4) ∧ w'.cell? ⟨gb145, 5, none⟩ = some (.slice A0_5 l0_5.length c0_5) ∧ w'.cell? (ad150.add (((rd l3 x27_1)).toNat * 4)) = some (.int .i64 ((rd_T48 l0_3 (rd l3 x27_1)).f0)) ∧ w'.cell? ⟨(ad150.add (((rd l3 x27_1)).toNat * 4)).block, (ad150.add (((rd l3 x27_1)).toNat * 4)).off + 1, none⟩ = some (.int .i64 ((rd_T48 l0_3 (rd l3 x27_1)).f1)) ∧ w'.cell? ⟨(ad150.add (((rd l3 x27_1)).toNat * 4)).block, (ad150.add (((rd l3 x27_1)).toNat * 4)).off + 2, none⟩ = some (.int .i64 ((rd_T48 l0_3 (rd l3 x27_1)).f2)) ∧ w'.cell? ⟨(ad150.add (((rd l3 x27_1)).toNat * 4)).block, (ad150.add (((rd l3 x27_1)).toNat * 4)).off + 3, none⟩ = some (.int .i64 ((rd_T48 l0_3 (rd l3 x27_1)).f3))) (ds := []) (bz 15 0) (by kernel_rfl) rfl rfl ⟨(blk_cell BK145.out 0).trans rfl, (blk_cell BK145.out 1).trans rfl, (blk_cell BK145.out 2).trans rfl, (blk_cell BK145.out 3).trans rfl, (blk_cell BK145.out 4).trans rfl, (blk_cell BK145.out 5).trans rfl, (hc_ HB hw150_0), (hc_ HB hw150_1), (hc_ HB hw150_2), (hc_ HB hw150_3)⟩ (fun hHeld => ?_); refine with_tabW refute_walk.tab10 refute_walk.bits10 (fun HT_ HW_ => ?_)
                 generalize wc.drew = w34 at BK145 HB hx150_0 hx150_1 hx150_2 hx150_3 hHeld ⊢
                 refine pu_ 1 77 HT_ ?_
                 refine pu_ 2 78 HT_ ?_
                 refine pu_ 3 79 HT_ ?_
                 refine pu_ 5 81 HT_ ?_
                 refine tk_ 0 76 HT_ HW_ hHeld ?_ (hy := by rintro w' ⟨s0, s1, s2, s3, s4, s5, s6, s7, s8, s9⟩; go_simp; with_reducible rfl)
                 refine tk_ 4 80 HT_ HW_ hHeld ?_ (hy := by rintro w' ⟨s0, s1, s2, s3, s4, s5, s6, s7, s8, s9⟩; go_simp; with_reducible rfl)
                 refine pu_ 6 82 HT_ ?_
                 refine pu_ 7 83 HT_ ?_
                 refine tk_ 8 84 HT_ HW_ hHeld ?_ (hy := by rintro w' ⟨s0, s1, s2, s3, s4, s5, s6, s7, s8, s9⟩; go_simp; with_reducible rfl)
                 refine on_ 9 (some 85) HT_ (fun K hK => ?_)
                 refine gs_ Try.func41 #[.agg #[.int .i64 a0_0, .int .i64 a0_1, .bool a0_2, .slice (some ad150) l0_3.length c0_3, .slice A0_4 l0_4.length c0_4, .slice A0_5 l0_5.length c0_5], .int .i64 a1, .slice A2 l2.length c2, .int .i64 ((rd_T48 l0_3 (rd l3 x27_1)).f0)] ?_
                 with_reducible refine (refute_slot.calls kj14 a0_0 a0_1 a0_2 _ _ l0_3 _ _ l0_4 _ _ l0_5 a1 _ _ l2 ((rd_T48 l0_3 (rd l3 x27_1)).f0) t151 t152 _ ?side1 ?side2 ?side3 ?side4 ?side5 ?side6 ?side7 ?side8 A32.out).mono ?_
                 (case side1 => exact CB_ HR0_3)
                 (case side2 => exact HC0_3.out)
                 (case side3 => exact CB_ HR0_4)
                 (case side4 => exact HC0_4.out)
                 (case side5 => exact CB_ HR0_5)
                 (case side6 => exact HC0_5.out)
                 (case side7 => exact CB_ HR2)
                 (case side8 => exact HC2.out)
                 rintro e w35 ⟨rfl, hb⟩
                 refine ⟨_, rfl, ?_⟩
                 have n0_ := Aside0.mk (blk_below (K_ BK145) hb)
                 have n1_ := Aside0.mk (below_step bl_ hb)
                 clear BK145
                 clear HB
                 have BK145 := n0_
                 have HB := n1_
                 clear n0_ n1_
                 refine hK.out _ _ ⟨(blk_cell BK145.out 0).trans rfl, (blk_cell BK145.out 1).trans rfl, (blk_cell BK145.out 2).trans rfl, (blk_cell BK145.out 3).trans rfl, (blk_cell BK145.out 4).trans rfl, (blk_cell BK145.out 5).trans rfl, (hc_ HB hw150_0), (hc_ HB hw150_1), (hc_ HB hw150_2), (hc_ HB hw150_3)⟩ (fun hHeld => ?_)
                 clear hK K
                 refine no_ 85 ?_
                 refine pu_ 10 75 HT_ ?_
                 refine pu_ 11 86 HT_ ?_
                 refine pu_ 12 87 HT_ ?_
                 refine pu_ 13 14 HT_ ?_
                 refine pu_ 14 15 HT_ ?_
                 refine done_ (done_of HT_.out (by kernel_rfl)) ?_
                 try go_wp2
                 go_roundg kj14
                 case measure => have := HK1.out; have := HJ14.out; omega
                 case rel => exact ⟨(x8_1), (true), (wrap64 (x27_1 + 1)), (by first | rfl | (simp; done) | (simp [*]; done)), (by first | rfl | (simp; done) | (simp [*]; done)), (by first | rfl | (simp; done) | (simp [*]; done)), H', ⟨by have := HK1.out; have := HJ14.out; omega⟩, ⟨K_ BK145⟩, ⟨bl_⟩⟩
               replace c33 := Bool.eq_false_iff.mpr c33
               subst c33
               have H1 : (refute_walk.l0 kj14 a1 l2 l3 x8_1 t152 l3 (l3.length : Int) (wrap64 (x27_1 + 1)) a0_0 a0_1 a0_2 l0_3 l0_4 l0_5) = some (r1, r2) := by rw [if_neg (show ¬ (false = true) by decide)] at H; exact H
               clear H
               have H := H1
               clear H1
               have H' := Aside0.mk H
               clear H
               try go_wp2
               have n0_ := Aside0.mk (blk_drew BK145.out)
               have n1_ := Aside0.mk (below_drew1 HB.out)
               clear BK145
               clear HB
               have BK145 := n0_
               have HB := n1_
               clear n0_ n1_
               have p150 : 0 ≤ ((rd l3 x27_1) : Int) := of_decide_eq_true (by first | (with_reducible assumption) | assumption)
               have q150 : (rd l3 x27_1) < (l0_3.length : Int) := of_decide_eq_true (by first | (with_reducible assumption) | assumption)
               obtain ⟨ad150, e150, hx150_0, hx150_1, hx150_2, hx150_3⟩ := at_T48 HR0_3.out (rd l3 x27_1) p150 q150
               have hw150_3 := hx150_3
               have hw150_2 := hx150_2
               have hw150_1 := hx150_1
               have hw150_0 := hx150_0
               cases e150
               replace hx150_0 := hc_ HB hx150_0
               replace hx150_1 := hc_ HB hx150_1
               replace hx150_2 := hc_ HB hx150_2
               replace hx150_3 := hc_ HB hx150_3
               replace p150 := eq_true p150
               replace q150 := eq_true q150
               refine start_ (n := 15) (S := fun w' => w'.cell? ⟨gb145, 0, none⟩ = some (.int .i64 a0_0) ∧ w'.cell? ⟨gb145, 1, none⟩ = some (.int .i64 a0_1) ∧ w'.cell? ⟨gb145, 2, none⟩ = some (.bool a0_2) ∧ w'.cell? ⟨gb145, 3, none⟩ = some (.slice (some ad150) l0_3.length c0_3) ∧ w'.cell? ⟨gb145, 4, none⟩ = some (.slice A0_4 l0_4.length c0_4) ∧ w'.cell? ⟨gb145, 5, none⟩ = some (.slice A0_5 l0_5.length c0_5) ∧ w'.cell? (ad150.add (((rd l3 x27_1)).toNat * 4)) = some (.int .i64 ((rd_T48 l0_3 (rd l3 x27_1)).f0)) ∧ w'.cell? ⟨(ad150.add (((rd l3 x27_1)).toNat * 4)).block, (ad150.add (((rd l3 x27_1)).toNat * 4)).off + 1, none⟩ = some (.int .i64 ((rd_T48 l0_3 (rd l3 x27_1)).f1)) ∧ w'.cell? ⟨(ad150.add (((rd l3 x27_1)).toNat * 4)).block, (ad150.add (((rd l3 x27_1)).toNat * 4)).off + 2, none⟩ = some (.int .i64 ((rd_T48 l0_3 (rd l3 x27_1)).f2)) ∧ w'.cell? ⟨(ad150.add (((rd l3 x27_1)).toNat * 4)).block, (ad150.add (((rd l3 x27_1)).toNat * 4)).off + 3, none⟩ = some (.int .i64 ((rd_T48 l0_3 (rd l3 x27_1)).f3))) (ds := []) (bz 15 0) (by kernel_rfl) rfl rfl ⟨(blk_cell BK145.out 0).trans rfl, (blk_cell BK145.out 1).trans rfl, (blk_cell BK145.out 2).trans rfl, (blk_cell BK145.out 3).trans rfl, (blk_cell BK145.out 4).trans rfl, (blk_cell BK145.out 5).trans rfl, (hc_ HB hw150_0), (hc_ HB hw150_1), (hc_ HB hw150_2), (hc_ HB hw150_3)⟩ (fun hHeld => ?_); refine with_tabW refute_walk.tab10 refute_walk.bits10 (fun HT_ HW_ => ?_)
               generalize wc.drew = w36 at BK145 HB hx150_0 hx150_1 hx150_2 hx150_3 hHeld ⊢
               refine pu_ 1 77 HT_ ?_
               refine pu_ 2 78 HT_ ?_
               refine pu_ 3 79 HT_ ?_
               refine pu_ 5 81 HT_ ?_
               refine tk_ 0 76 HT_ HW_ hHeld ?_ (hy := by rintro w' ⟨s0, s1, s2, s3, s4, s5, s6, s7, s8, s9⟩; go_simp; with_reducible rfl)
               refine tk_ 4 80 HT_ HW_ hHeld ?_ (hy := by rintro w' ⟨s0, s1, s2, s3, s4, s5, s6, s7, s8, s9⟩; go_simp; with_reducible rfl)
               refine pu_ 6 82 HT_ ?_
               refine pu_ 7 83 HT_ ?_
               refine tk_ 8 84 HT_ HW_ hHeld ?_ (hy := by rintro w' ⟨s0, s1, s2, s3, s4, s5, s6, s7, s8, s9⟩; go_simp; with_reducible rfl)
               refine on_ 9 (some 85) HT_ (fun K hK => ?_)
               refine gs_ Try.func41 #[.agg #[.int .i64 a0_0, .int .i64 a0_1, .bool a0_2, .slice (some ad150) l0_3.length c0_3, .slice A0_4 l0_4.length c0_4, .slice A0_5 l0_5.length c0_5], .int .i64 a1, .slice A2 l2.length c2, .int .i64 ((rd_T48 l0_3 (rd l3 x27_1)).f0)] ?_
               with_reducible refine (refute_slot.calls kj14 a0_0 a0_1 a0_2 _ _ l0_3 _ _ l0_4 _ _ l0_5 a1 _ _ l2 ((rd_T48 l0_3 (rd l3 x27_1)).f0) t151 t152 _ ?side1 ?side2 ?side3 ?side4 ?side5 ?side6 ?side7 ?side8 A32.out).mono ?_
               (case side1 => exact CB_ HR0_3)
               (case side2 => exact HC0_3.out)
               (case side3 => exact CB_ HR0_4)
               (case side4 => exact HC0_4.out)
               (case side5 => exact CB_ HR0_5)
               (case side6 => exact HC0_5.out)
               (case side7 => exact CB_ HR2)
               (case side8 => exact HC2.out)
               rintro e w37 ⟨rfl, hb⟩
               refine ⟨_, rfl, ?_⟩
               have n0_ := Aside0.mk (blk_below (K_ BK145) hb)
               have n1_ := Aside0.mk (below_step bl_ hb)
               clear BK145
               clear HB
               have BK145 := n0_
               have HB := n1_
               clear n0_ n1_
               refine hK.out _ _ ⟨(blk_cell BK145.out 0).trans rfl, (blk_cell BK145.out 1).trans rfl, (blk_cell BK145.out 2).trans rfl, (blk_cell BK145.out 3).trans rfl, (blk_cell BK145.out 4).trans rfl, (blk_cell BK145.out 5).trans rfl, (hc_ HB hw150_0), (hc_ HB hw150_1), (hc_ HB hw150_2), (hc_ HB hw150_3)⟩ (fun hHeld => ?_)
               clear hK K
               refine no_ 85 ?_
               refine pu_ 10 75 HT_ ?_
               refine pu_ 11 86 HT_ ?_
               refine pu_ 12 87 HT_ ?_
               refine pu_ 13 14 HT_ ?_
               refine pu_ 14 15 HT_ ?_
               refine done_ (done_of HT_.out (by kernel_rfl)) ?_
               try go_wp2
               go_roundg kj14
               case measure => have := HK1.out; have := HJ14.out; omega
               case rel => exact ⟨(x8_1), (t152), (wrap64 (x27_1 + 1)), (by first | rfl | (simp; done) | (simp [*]; done)), (by first | rfl | (simp; done) | (simp [*]; done)), (by first | rfl | (simp; done) | (simp [*]; done)), H', ⟨by have := HK1.out; have := HJ14.out; omega⟩, ⟨K_ BK145⟩, ⟨bl_⟩⟩
             rw [if_neg c31] at H
             exact absurd H (by simp)
           rw [if_neg c30] at H
           exact absurd H (by simp)
         rw [if_neg c14] at H
         exact absurd H (by simp)
       rw [if_neg c13] at H
       exact absurd H (by simp)
     rw [if_neg c10] at H
     exact absurd H (by simp)
   rw [if_neg c9] at H
   exact absurd H (by simp)
 rw [if_neg c8] at H
 have c8b0 : decide (x27_1 < (l3.length : Int)) = false := decide_eq_false c8
 clear c8
 by_cases c38 : 0 < (l3.length : Int)
 · rw [if_pos c38] at H
   have c38b0 : decide (0 < (l3.length : Int)) = true := decide_eq_true c38
   have c38b1 : decide (0 < l3.length) = true := decide_eq_true (by omega)
   clear c38
   by_cases c39 : 0 ≤ (rd l3 0)
   · rw [if_pos c39] at H
     have c39b0 : decide (0 ≤ (rd l3 0)) = true := decide_eq_true c39
     clear c39
     by_cases c40 : (rd l3 0) < (l0_3.length : Int)
     · rw [if_pos c40] at H
       have c40b0 : decide ((rd l3 0) < (l0_3.length : Int)) = true := decide_eq_true c40
       clear c40
       replace H := Option.bind_eq_some_iff.mp H
       obtain ⟨⟨t155, t156⟩, A410, H⟩ := H
       replace H : (if x10_1 = true then (refute_walk.j2 k1 a1 l2 l3 x8_1 t155 (!t156) a0_0 a0_1 a0_2 l0_3 l0_4 l0_5) else (refute_walk.j2 k1 a1 l2 l3 x8_1 t155 false a0_0 a0_1 a0_2 l0_3 l0_4 l0_5)) = some (r1, r2) := H
       have A41 := Aside0.mk A410
       clear A410
       have HC42 := Aside0.mk H
       clear H
       try go_wp2
       have n0_ := Aside0.mk (blk_drew BK145.out)
       have n1_ := Aside0.mk (below_drew1 HB.out)
       clear BK145
       clear HB
       have BK145 := n0_
       have HB := n1_
       clear n0_ n1_
       have p153 : 0 ≤ (0 : Int) := (by omega)
       have q153 : 0 < (l3.length : Int) := of_decide_eq_true (by first | (with_reducible assumption) | assumption)
       obtain ⟨ad153, e153, hx153_0⟩ := Kd.at_int HR3.out 0 p153 q153
       have hw153_0 := hx153_0
       (try rw [show ((0 : Int)).toNat = 0 from rfl] at hw153_0)
       (try rw [show 0 * 1 = 0 from rfl] at hw153_0)
       (try rw [Addr.add_zero'] at hw153_0)
       cases e153
       have qi153 : (0 < l3.length) = True := eq_true (by omega)
       (try rw [show ((0 : Int)).toNat = 0 from rfl] at hx153_0)
       (try rw [Addr.add_zero'] at hx153_0)
       replace hx153_0 := hc_ HB hx153_0
       replace p153 := eq_true p153
       replace q153 := eq_true q153
       have p154 : 0 ≤ ((rd l3 0) : Int) := of_decide_eq_true (by first | (with_reducible assumption) | assumption)
       have q154 : (rd l3 0) < (l0_3.length : Int) := of_decide_eq_true (by first | (with_reducible assumption) | assumption)
       obtain ⟨ad154, e154, hx154_0, hx154_1, hx154_2, hx154_3⟩ := at_T48 HR0_3.out (rd l3 0) p154 q154
       have hw154_3 := hx154_3
       have hw154_2 := hx154_2
       have hw154_1 := hx154_1
       have hw154_0 := hx154_0
       cases e154
       replace hx154_0 := hc_ HB hx154_0
       replace hx154_1 := hc_ HB hx154_1
       replace hx154_2 := hc_ HB hx154_2
       replace hx154_3 := hc_ HB hx154_3
       replace p154 := eq_true p154
       replace q154 := eq_true q154
       refine start_ (n := 17) (S := fun w' => w'.cell? ⟨gb145, 0, none⟩ = some (.int .i64 a0_0) ∧ w'.cell? ⟨gb145, 1, none⟩ = some (.int .i64 a0_1) ∧ w'.cell? ⟨gb145, 2, none⟩ = some (.bool a0_2) ∧ w'.cell? ⟨gb145, 3, none⟩ = some (.slice (some ad154) l0_3.length c0_3) ∧ w'.cell? ⟨gb145, 4, none⟩ = some (.slice A0_4 l0_4.length c0_4) ∧ w'.cell? ⟨gb145, 5, none⟩ = some (.slice A0_5 l0_5.length c0_5) ∧ w'.cell? ad153 = some (.int .i64 (rd l3 0)) ∧ w'.cell? (ad154.add (((rd l3 0)).toNat * 4)) = some (.int .i64 ((rd_T48 l0_3 (rd l3 0)).f0)) ∧ w'.cell? ⟨(ad154.add (((rd l3 0)).toNat * 4)).block, (ad154.add (((rd l3 0)).toNat * 4)).off + 1, none⟩ = some (.int .i64 ((rd_T48 l0_3 (rd l3 0)).f1)) ∧ w'.cell? ⟨(ad154.add (((rd l3 0)).toNat * 4)).block, (ad154.add (((rd l3 0)).toNat * 4)).off + 2, none⟩ = some (.int .i64 ((rd_T48 l0_3 (rd l3 0)).f2)) ∧ w'.cell? ⟨(ad154.add (((rd l3 0)).toNat * 4)).block, (ad154.add (((rd l3 0)).toNat * 4)).off + 3, none⟩ = some (.int .i64 ((rd_T48 l0_3 (rd l3 0)).f3))) (ds := []) (bz 17 0) (by kernel_rfl) rfl rfl ⟨(blk_cell BK145.out 0).trans rfl, (blk_cell BK145.out 1).trans rfl, (blk_cell BK145.out 2).trans rfl, (blk_cell BK145.out 3).trans rfl, (blk_cell BK145.out 4).trans rfl, (blk_cell BK145.out 5).trans rfl, (hc_ HB hw153_0), (hc_ HB hw154_0), (hc_ HB hw154_1), (hc_ HB hw154_2), (hc_ HB hw154_3)⟩ (fun hHeld => ?_); refine with_tabW refute_walk.tab13 refute_walk.bits13 (fun HT_ HW_ => ?_)
       generalize wr.drew = w43 at BK145 HB hx153_0 hx154_0 hx154_1 hx154_2 hx154_3 hHeld ⊢
       refine pu_ 1 95 HT_ ?_
       refine pu_ 2 96 HT_ ?_
       refine pu_ 3 97 HT_ ?_
       refine pu_ 5 99 HT_ ?_
       refine pu_ 6 100 HT_ ?_
       refine tk_ 0 94 HT_ HW_ hHeld ?_ (hy := by rintro w' ⟨s0, s1, s2, s3, s4, s5, s6, s7, s8, s9, s10⟩; go_simp; with_reducible rfl)
       refine tk_ 4 98 HT_ HW_ hHeld ?_ (hy := by rintro w' ⟨s0, s1, s2, s3, s4, s5, s6, s7, s8, s9, s10⟩; go_simp; with_reducible rfl)
       refine tk_ 7 101 HT_ HW_ hHeld ?_ (hy := by rintro w' ⟨s0, s1, s2, s3, s4, s5, s6, s7, s8, s9, s10⟩; go_simp; with_reducible rfl)
       refine pu_ 8 102 HT_ ?_
       refine pu_ 9 103 HT_ ?_
       refine tk_ 10 104 HT_ HW_ hHeld ?_ (hy := by rintro w' ⟨s0, s1, s2, s3, s4, s5, s6, s7, s8, s9, s10⟩; go_simp; with_reducible rfl)
       refine on_ 11 (some 105) HT_ (fun K hK => ?_)
       refine gs_ Try.func41 #[.agg #[.int .i64 a0_0, .int .i64 a0_1, .bool a0_2, .slice (some ad154) l0_3.length c0_3, .slice A0_4 l0_4.length c0_4, .slice A0_5 l0_5.length c0_5], .int .i64 a1, .slice A2 l2.length c2, .int .i64 ((rd_T48 l0_3 (rd l3 0)).f0)] ?_
       with_reducible refine (refute_slot.calls k1 a0_0 a0_1 a0_2 _ _ l0_3 _ _ l0_4 _ _ l0_5 a1 _ _ l2 ((rd_T48 l0_3 (rd l3 0)).f0) t155 t156 _ ?side1 ?side2 ?side3 ?side4 ?side5 ?side6 ?side7 ?side8 A41.out).mono ?_
       (case side1 => exact CB_ HR0_3)
       (case side2 => exact HC0_3.out)
       (case side3 => exact CB_ HR0_4)
       (case side4 => exact HC0_4.out)
       (case side5 => exact CB_ HR0_5)
       (case side6 => exact HC0_5.out)
       (case side7 => exact CB_ HR2)
       (case side8 => exact HC2.out)
       rintro e w44 ⟨rfl, hb⟩
       refine ⟨_, rfl, ?_⟩
       have n0_ := Aside0.mk (blk_below (K_ BK145) hb)
       have n1_ := Aside0.mk (below_step bl_ hb)
       clear BK145
       clear HB
       have BK145 := n0_
       have HB := n1_
       clear n0_ n1_
       refine hK.out _ _ ⟨(blk_cell BK145.out 0).trans rfl, (blk_cell BK145.out 1).trans rfl, (blk_cell BK145.out 2).trans rfl, (blk_cell BK145.out 3).trans rfl, (blk_cell BK145.out 4).trans rfl, (blk_cell BK145.out 5).trans rfl, (hc_ HB hw153_0), (hc_ HB hw154_0), (hc_ HB hw154_1), (hc_ HB hw154_2), (hc_ HB hw154_3)⟩ (fun hHeld => ?_)
       clear hK K
       refine no_ 105 ?_
       refine pu_ 12 93 HT_ ?_
       refine pu_ 13 106 HT_ ?_
       refine pu_ 14 107 HT_ ?_
       refine pu_ 15 16 HT_ ?_
       refine pu_ 16 17 HT_ ?_
       refine done_ (done_of HT_.out (by kernel_rfl)) ?_
       go_upto_region 14 with (fail)
       go_cut [112] (fun v112 wc => ∃ (kq : Nat) (x112_41 : Bool), v112 = .bool x112_41 ∧ Aside0 (refute_walk.j2 kq a1 l2 l3 x8_1 t155 x112_41 a0_0 a0_1 a0_2 l0_3 l0_4 l0_5 = some (r1, r2)) ∧ Aside0 (kq ≤ k1) ∧ Aside0 (wc.heap[gb145]? = some (.cells #[.int .i64 a0_0, .int .i64 a0_1, .bool a0_2, (.slice (some ad154) l0_3.length c0_3), (.slice A0_4 l0_4.length c0_4), (.slice A0_5 l0_5.length c0_5)] 26 (0, 0))) ∧ Aside0 (Below w.heap.size w wc))
       case first =>
        have H := HC42.out
        clear HC42
        by_cases c45 : x10_1 = true
        · subst c45
          have H1 : (refute_walk.j2 k1 a1 l2 l3 x8_1 t155 (!t156) a0_0 a0_1 a0_2 l0_3 l0_4 l0_5) = some (r1, r2) := by rw [if_pos rfl] at H; exact H
          clear H
          have H := H1
          clear H1
          have H' := Aside0.mk H
          clear H
          go_wp2
          go_meet
          case rel => exact ⟨_, (!t156), (by first | rfl | (simp; done) | (simp [*]; done)), H', ⟨by have := HK1.out; first | omega | exact Nat.le_refl _⟩, ⟨K_ BK145⟩, ⟨bl_⟩⟩
        replace c45 := Bool.eq_false_iff.mpr c45
        subst c45
        have H1 : (refute_walk.j2 k1 a1 l2 l3 x8_1 t155 false a0_0 a0_1 a0_2 l0_3 l0_4 l0_5) = some (r1, r2) := by rw [if_neg (show ¬ (false = true) by decide)] at H; exact H
        clear H
        have H := H1
        clear H1
        have H' := Aside0.mk H
        clear H
        go_wp2
        go_meet
        case rel => exact ⟨_, (false), (by first | rfl | (simp; done) | (simp [*]; done)), H', ⟨by have := HK1.out; first | omega | exact Nat.le_refl _⟩, ⟨K_ BK145⟩, ⟨bl_⟩⟩
       clear HC42
       obtain ⟨kq, x112_41, rfl, HA, HJ41, BK145, HB⟩ := hcut
       cases kq with
       | zero => exact absurd HA.out (by simp [refute_walk.j2])
       | succ kj41 => ?_
       have H := HA.out
       clear HA
       simp only [refute_walk.j2] at H
       by_cases c46 : x112_41 = true
       · subst c46
         have H1 : (some (0, false)) = some (r1, r2) := by rw [if_pos rfl] at H; exact H
         clear H
         have H := H1
         clear H1
         simp only [Option.some.injEq, Prod.mk.injEq] at H
         obtain ⟨rfl, rfl⟩ := H
         go_wp2
         go_ret2
         exact ⟨by first | rfl | (simp [errW_none, errW_some] <;> rfl) | (simp [*, errW_none, errW_some] <;> rfl), by repeat (first | (with_reducible first | exact HB.out | apply below_alloc | apply pw_below_drewN | apply below_drew1 | refine below_set ?_ GE145.out) | exact HB.out)⟩
       replace c46 := Bool.eq_false_iff.mpr c46
       subst c46
       have H1 : (refute_walk.l1 kj41 a1 l2 x8_1 t155 l3 (l3.length : Int) 0 a0_0 a0_1 a0_2 l0_3 l0_4 l0_5) = some (r1, r2) := by rw [if_neg (show ¬ (false = true) by decide)] at H; exact H
       clear H
       have H := H1
       clear H1
       have H' := Aside0.mk H
       clear H
       go_wp2
       go_loopg [8, 115] kj41 (fun kq v8 v115 w' => ∃ (x8_3 : Int) (x115_3 : Int), v8 = .int .i64 x8_3 ∧ v115 = .int .i64 x115_3 ∧ Aside0 (refute_walk.l1 kq a1 l2 x8_3 t155 l3 (l3.length : Int) x115_3 a0_0 a0_1 a0_2 l0_3 l0_4 l0_5 = some (r1, r2)) ∧ Aside0 (kq ≤ kj41) ∧ Aside0 (w'.heap[gb145]? = some (.cells #[.int .i64 a0_0, .int .i64 a0_1, .bool a0_2, (.slice (some ad154) l0_3.length c0_3), (.slice A0_4 l0_4.length c0_4), (.slice A0_5 l0_5.length c0_5)] 26 (0, 0))) ∧ Aside0 (Below w.heap.size w w'))
       case atStart => exact ⟨(x8_1), (0), (by first | rfl | (simp; done) | (simp [*]; done)), (by first | rfl | (simp; done) | (simp [*]; done)), H', ⟨Nat.le_refl _⟩, ⟨K_ BK145⟩, ⟨bl_⟩⟩
       clear H'
       obtain ⟨x8_3, x115_3, rfl, rfl, HA, HK3, BK145, HB⟩ := hrel
       cases gk with
       | zero => exact absurd HA.out (by simp [refute_walk.l1])
       | succ k3 => ?_
       have H := HA.out
       clear HA
       simp only [refute_walk.l1] at H
       by_cases c47 : x115_3 < (l3.length : Int)
       · rw [if_pos c47] at H
         have c47b0 : decide (x115_3 < (l3.length : Int)) = true := decide_eq_true c47
         clear c47
         by_cases c48 : 0 ≤ x115_3
         · rw [if_pos c48] at H
           have c48b0 : decide (0 ≤ x115_3) = true := decide_eq_true c48
           clear c48
           by_cases c49 : x115_3 < (l3.length : Int)
           · rw [if_pos c49] at H
             have c49b0 : decide (x115_3 < (l3.length : Int)) = true := decide_eq_true c49
             clear c49
             by_cases c50 : 0 ≤ (rd l3 x115_3)
             · rw [if_pos c50] at H
               have c50b0 : decide (0 ≤ (rd l3 x115_3)) = true := decide_eq_true c50
               clear c50
               by_cases c51 : (rd l3 x115_3) < (l0_3.length : Int)
               · rw [if_pos c51] at H
                 have c51b0 : decide ((rd l3 x115_3) < (l0_3.length : Int)) = true := decide_eq_true c51
                 clear c51
                 replace H := Option.bind_eq_some_iff.mp H
                 obtain ⟨⟨t161, t162⟩, A520, H⟩ := H
                 replace H : (if t162 = true then (if a1 = 0 then (none) else (refute_walk.l1 k3 a1 l2 (wrap64 ((wrap64 (x8_3 + (wrap64 (((rd_T48 l0_3 (rd l3 x115_3)).f2) - (wrap64 (a1 * ((rd_T48 l0_3 (rd l3 x115_3)).f3))))))) + (Int.tmod (wrap64 ((Int.tmod (wrap64 ((wrap64 (t161 - t155)) - (wrap64 (x8_3 + (wrap64 (((rd_T48 l0_3 (rd l3 x115_3)).f2) - (wrap64 (a1 * ((rd_T48 l0_3 (rd l3 x115_3)).f3))))))))) a1) + a1)) a1))) t155 l3 (l3.length : Int) (wrap64 (x115_3 + 1)) a0_0 a0_1 a0_2 l0_3 l0_4 l0_5)) else (refute_walk.l1 k3 a1 l2 (wrap64 (x8_3 + (wrap64 (((rd_T48 l0_3 (rd l3 x115_3)).f2) - (wrap64 (a1 * ((rd_T48 l0_3 (rd l3 x115_3)).f3))))))) t155 l3 (l3.length : Int) (wrap64 (x115_3 + 1)) a0_0 a0_1 a0_2 l0_3 l0_4 l0_5)) = some (r1, r2) := H
                 have A52 := Aside0.mk A520
                 clear A520
                 by_cases c53 : t162 = true
                 · subst c53
                   have H1 : (if a1 = 0 then (none) else (refute_walk.l1 k3 a1 l2 (wrap64 ((wrap64 (x8_3 + (wrap64 (((rd_T48 l0_3 (rd l3 x115_3)).f2) - (wrap64 (a1 * ((rd_T48 l0_3 (rd l3 x115_3)).f3))))))) + (Int.tmod (wrap64 ((Int.tmod (wrap64 ((wrap64 (t161 - t155)) - (wrap64 (x8_3 + (wrap64 (((rd_T48 l0_3 (rd l3 x115_3)).f2) - (wrap64 (a1 * ((rd_T48 l0_3 (rd l3 x115_3)).f3))))))))) a1) + a1)) a1))) t155 l3 (l3.length : Int) (wrap64 (x115_3 + 1)) a0_0 a0_1 a0_2 l0_3 l0_4 l0_5)) = some (r1, r2) := by rw [if_pos rfl] at H; exact H
                   clear H
                   have H := H1
                   clear H1
                   by_cases c54 : a1 = 0
                   · rw [if_pos c54] at H
                     exact absurd H (by simp)
                   rw [if_neg c54] at H
                   have c54b0 : (a1 == 0) = false := beq_eq_false_iff_ne.mpr c54
                   have c54b1 : (a1 != 0) = true := bne_iff_ne.mpr c54
                   have H' := Aside0.mk H
                   clear H
                   have p157 : 0 ≤ (x115_3 : Int) := of_decide_eq_true (by first | (with_reducible assumption) | assumption)
                   have q157 : x115_3 < (l3.length : Int) := of_decide_eq_true (by first | (with_reducible assumption) | assumption)
                   obtain ⟨ad157, e157, hx157_0⟩ := Kd.at_int HR3.out x115_3 p157 q157
                   obtain rfl : ad153 = ad157 := (by injection e157)
                   replace hx157_0 := hc_ HB hx157_0
                   replace p157 := eq_true p157
                   replace q157 := eq_true q157
                   try go_wp2
                   have n0_ := Aside0.mk (blk_drew BK145.out)
                   have n1_ := Aside0.mk (below_drew1 HB.out)
                   clear BK145
                   clear HB
                   have BK145 := n0_
                   have HB := n1_
                   clear n0_ n1_
                   have p158 : 0 ≤ ((rd l3 x115_3) : Int) := of_decide_eq_true (by first | (with_reducible assumption) | assumption)
                   have q158 : (rd l3 x115_3) < (l0_3.length : Int) := of_decide_eq_true (by first | (with_reducible assumption) | assumption)
                   obtain ⟨ad158, e158, hx158_0, hx158_1, hx158_2, hx158_3⟩ := at_T48 HR0_3.out (rd l3 x115_3) p158 q158
                   have hw158_3 := hx158_3
                   have hw158_2 := hx158_2
                   have hw158_1 := hx158_1
                   have hw158_0 := hx158_0
                   obtain rfl : ad154 = ad158 := (by injection e158)
                   replace hx158_0 := hc_ HB hx158_0
                   replace hx158_1 := hc_ HB hx158_1
                   replace hx158_2 := hc_ HB hx158_2
                   replace hx158_3 := hc_ HB hx158_3
                   replace p158 := eq_true p158
                   replace q158 := eq_true q158
                   have p159 : 0 ≤ ((rd l3 x115_3) : Int) := of_decide_eq_true (by first | (with_reducible assumption) | assumption)
                   have q159 : (rd l3 x115_3) < (l0_3.length : Int) := of_decide_eq_true (by first | (with_reducible assumption) | assumption)
                   obtain ⟨ad159, e159, hx159_0, hx159_1, hx159_2, hx159_3⟩ := at_T48 HR0_3.out (rd l3 x115_3) p159 q159
                   have hw159_3 := hx159_3
                   have hw159_2 := hx159_2
                   have hw159_1 := hx159_1
                   have hw159_0 := hx159_0
                   obtain rfl : ad154 = ad159 := (by injection e159)
                   replace hx159_0 := hc_ HB hx159_0
                   replace hx159_1 := hc_ HB hx159_1
                   replace hx159_2 := hc_ HB hx159_2
                   replace hx159_3 := hc_ HB hx159_3
                   replace p159 := eq_true p159
                   replace q159 := eq_true q159
                   refine start_ (n := 18) (S := fun w' => w'.cell? ⟨gb145, 0, none⟩ = some (.int .i64 a0_0) ∧ w'.cell? ⟨gb145, 1, none⟩ = some (.int .i64 a0_1) ∧ w'.cell? ⟨gb145, 2, none⟩ = some (.bool a0_2) ∧ w'.cell? ⟨gb145, 3, none⟩ = some (.slice (some ad154) l0_3.length c0_3) ∧ w'.cell? ⟨gb145, 4, none⟩ = some (.slice A0_4 l0_4.length c0_4) ∧ w'.cell? ⟨gb145, 5, none⟩ = some (.slice A0_5 l0_5.length c0_5) ∧ w'.cell? (ad154.add (((rd l3 x115_3)).toNat * 4)) = some (.int .i64 ((rd_T48 l0_3 (rd l3 x115_3)).f0)) ∧ w'.cell? ⟨(ad154.add (((rd l3 x115_3)).toNat * 4)).block, (ad154.add (((rd l3 x115_3)).toNat * 4)).off + 1, none⟩ = some (.int .i64 ((rd_T48 l0_3 (rd l3 x115_3)).f1)) ∧ w'.cell? ⟨(ad154.add (((rd l3 x115_3)).toNat * 4)).block, (ad154.add (((rd l3 x115_3)).toNat * 4)).off + 2, none⟩ = some (.int .i64 ((rd_T48 l0_3 (rd l3 x115_3)).f2)) ∧ w'.cell? ⟨(ad154.add (((rd l3 x115_3)).toNat * 4)).block, (ad154.add (((rd l3 x115_3)).toNat * 4)).off + 3, none⟩ = some (.int .i64 ((rd_T48 l0_3 (rd l3 x115_3)).f3)) ∧ w'.cell? (ad154.add (((rd l3 x115_3)).toNat * 4)) = some (.int .i64 ((rd_T48 l0_3 (rd l3 x115_3)).f0)) ∧ w'.cell? ⟨(ad154.add (((rd l3 x115_3)).toNat * 4)).block, (ad154.add (((rd l3 x115_3)).toNat * 4)).off + 1, none⟩ = some (.int .i64 ((rd_T48 l0_3 (rd l3 x115_3)).f1)) ∧ w'.cell? ⟨(ad154.add (((rd l3 x115_3)).toNat * 4)).block, (ad154.add (((rd l3 x115_3)).toNat * 4)).off + 2, none⟩ = some (.int .i64 ((rd_T48 l0_3 (rd l3 x115_3)).f2)) ∧ w'.cell? ⟨(ad154.add (((rd l3 x115_3)).toNat * 4)).block, (ad154.add (((rd l3 x115_3)).toNat * 4)).off + 3, none⟩ = some (.int .i64 ((rd_T48 l0_3 (rd l3 x115_3)).f3))) (ds := []) (bz 18 0) (by kernel_rfl) rfl rfl ⟨(blk_cell BK145.out 0).trans rfl, (blk_cell BK145.out 1).trans rfl, (blk_cell BK145.out 2).trans rfl, (blk_cell BK145.out 3).trans rfl, (blk_cell BK145.out 4).trans rfl, (blk_cell BK145.out 5).trans rfl, (hc_ HB hw158_0), (hc_ HB hw158_1), (hc_ HB hw158_2), (hc_ HB hw158_3), (hc_ HB hw159_0), (hc_ HB hw159_1), (hc_ HB hw159_2), (hc_ HB hw159_3)⟩ (fun hHeld => ?_); refine with_tabW refute_walk.tab19 refute_walk.bits19 (fun HT_ HW_ => ?_)
                   generalize wr.drew = w55 at BK145 HB hx158_0 hx158_1 hx158_2 hx158_3 hx159_0 hx159_1 hx159_2 hx159_3 hHeld ⊢
                   refine pu_ 0 119 HT_ ?_
                   refine pu_ 1 120 HT_ ?_
                   refine pu_ 3 122 HT_ ?_
                   refine pu_ 7 126 HT_ ?_
                   refine pu_ 8 127 HT_ ?_
                   refine pu_ 10 129 HT_ ?_
                   refine tk_ 2 121 HT_ HW_ hHeld ?_ (hy := by rintro w' ⟨s0, s1, s2, s3, s4, s5, s6, s7, s8, s9, s10, s11, s12, s13⟩; go_simp; with_reducible rfl)
                   refine pu_ 4 123 HT_ ?_
                   refine pu_ 5 124 HT_ ?_
                   refine tk_ 6 125 HT_ HW_ hHeld ?_ (hy := by rintro w' ⟨s0, s1, s2, s3, s4, s5, s6, s7, s8, s9, s10, s11, s12, s13⟩; go_simp; with_reducible rfl)
                   refine tk_ 9 128 HT_ HW_ hHeld ?_ (hy := by rintro w' ⟨s0, s1, s2, s3, s4, s5, s6, s7, s8, s9, s10, s11, s12, s13⟩; go_simp; with_reducible rfl)
                   refine pu_ 11 130 HT_ ?_
                   refine pu_ 12 131 HT_ ?_
                   refine tk_ 13 132 HT_ HW_ hHeld ?_ (hy := by rintro w' ⟨s0, s1, s2, s3, s4, s5, s6, s7, s8, s9, s10, s11, s12, s13⟩; go_simp; with_reducible rfl)
                   refine pu_ 14 133 HT_ ?_
                   refine pu_ 15 134 HT_ ?_
                   refine pu_ 16 135 HT_ ?_
                   refine pu_ 17 8 HT_ ?_
                   refine done_ (done_of HT_.out (by kernel_rfl)) ?_
                   try go_wp2
                   have n0_ := Aside0.mk (blk_drew BK145.out)
                   have n1_ := Aside0.mk (below_drew1 HB.out)
                   clear BK145
                   clear HB
                   have BK145 := n0_
                   have HB := n1_
                   clear n0_ n1_
                   have p160 : 0 ≤ ((rd l3 x115_3) : Int) := of_decide_eq_true (by first | (with_reducible assumption) | assumption)
                   have q160 : (rd l3 x115_3) < (l0_3.length : Int) := of_decide_eq_true (by first | (with_reducible assumption) | assumption)
                   obtain ⟨ad160, e160, hx160_0, hx160_1, hx160_2, hx160_3⟩ := at_T48 HR0_3.out (rd l3 x115_3) p160 q160
                   have hw160_3 := hx160_3
                   have hw160_2 := hx160_2
                   have hw160_1 := hx160_1
                   have hw160_0 := hx160_0
                   obtain rfl : ad154 = ad160 := (by injection e160)
                   replace hx160_0 := hc_ HB hx160_0
                   replace hx160_1 := hc_ HB hx160_1
                   replace hx160_2 := hc_ HB hx160_2
                   replace hx160_3 := hc_ HB hx160_3
                   replace p160 := eq_true p160
                   replace q160 := eq_true q160
                   refine start_ (n := 15) (S := fun w' => w'.cell? ⟨gb145, 0, none⟩ = some (.int .i64 a0_0) ∧ w'.cell? ⟨gb145, 1, none⟩ = some (.int .i64 a0_1) ∧ w'.cell? ⟨gb145, 2, none⟩ = some (.bool a0_2) ∧ w'.cell? ⟨gb145, 3, none⟩ = some (.slice (some ad154) l0_3.length c0_3) ∧ w'.cell? ⟨gb145, 4, none⟩ = some (.slice A0_4 l0_4.length c0_4) ∧ w'.cell? ⟨gb145, 5, none⟩ = some (.slice A0_5 l0_5.length c0_5) ∧ w'.cell? (ad154.add (((rd l3 x115_3)).toNat * 4)) = some (.int .i64 ((rd_T48 l0_3 (rd l3 x115_3)).f0)) ∧ w'.cell? ⟨(ad154.add (((rd l3 x115_3)).toNat * 4)).block, (ad154.add (((rd l3 x115_3)).toNat * 4)).off + 1, none⟩ = some (.int .i64 ((rd_T48 l0_3 (rd l3 x115_3)).f1)) ∧ w'.cell? ⟨(ad154.add (((rd l3 x115_3)).toNat * 4)).block, (ad154.add (((rd l3 x115_3)).toNat * 4)).off + 2, none⟩ = some (.int .i64 ((rd_T48 l0_3 (rd l3 x115_3)).f2)) ∧ w'.cell? ⟨(ad154.add (((rd l3 x115_3)).toNat * 4)).block, (ad154.add (((rd l3 x115_3)).toNat * 4)).off + 3, none⟩ = some (.int .i64 ((rd_T48 l0_3 (rd l3 x115_3)).f3))) (ds := []) (bz 15 0) (by kernel_rfl) rfl rfl ⟨(blk_cell BK145.out 0).trans rfl, (blk_cell BK145.out 1).trans rfl, (blk_cell BK145.out 2).trans rfl, (blk_cell BK145.out 3).trans rfl, (blk_cell BK145.out 4).trans rfl, (blk_cell BK145.out 5).trans rfl, (hc_ HB hw160_0), (hc_ HB hw160_1), (hc_ HB hw160_2), (hc_ HB hw160_3)⟩ (fun hHeld => ?_); refine with_tabW refute_walk.tab20 refute_walk.bits20 (fun HT_ HW_ => ?_)
                   generalize w55.drew = w56 at BK145 HB hx160_0 hx160_1 hx160_2 hx160_3 hHeld ⊢
                   refine pu_ 1 138 HT_ ?_
                   refine pu_ 2 139 HT_ ?_
                   refine pu_ 3 140 HT_ ?_
                   refine pu_ 5 142 HT_ ?_
                   refine tk_ 0 137 HT_ HW_ hHeld ?_ (hy := by rintro w' ⟨s0, s1, s2, s3, s4, s5, s6, s7, s8, s9⟩; go_simp; with_reducible rfl)
                   refine tk_ 4 141 HT_ HW_ hHeld ?_ (hy := by rintro w' ⟨s0, s1, s2, s3, s4, s5, s6, s7, s8, s9⟩; go_simp; with_reducible rfl)
                   refine pu_ 6 143 HT_ ?_
                   refine pu_ 7 144 HT_ ?_
                   refine tk_ 8 145 HT_ HW_ hHeld ?_ (hy := by rintro w' ⟨s0, s1, s2, s3, s4, s5, s6, s7, s8, s9⟩; go_simp; with_reducible rfl)
                   refine on_ 9 (some 146) HT_ (fun K hK => ?_)
                   refine gs_ Try.func41 #[.agg #[.int .i64 a0_0, .int .i64 a0_1, .bool a0_2, .slice (some ad154) l0_3.length c0_3, .slice A0_4 l0_4.length c0_4, .slice A0_5 l0_5.length c0_5], .int .i64 a1, .slice A2 l2.length c2, .int .i64 ((rd_T48 l0_3 (rd l3 x115_3)).f1)] ?_
                   with_reducible refine (refute_slot.calls k3 a0_0 a0_1 a0_2 _ _ l0_3 _ _ l0_4 _ _ l0_5 a1 _ _ l2 ((rd_T48 l0_3 (rd l3 x115_3)).f1) t161 true _ ?side1 ?side2 ?side3 ?side4 ?side5 ?side6 ?side7 ?side8 A52.out).mono ?_
                   (case side1 => exact CB_ HR0_3)
                   (case side2 => exact HC0_3.out)
                   (case side3 => exact CB_ HR0_4)
                   (case side4 => exact HC0_4.out)
                   (case side5 => exact CB_ HR0_5)
                   (case side6 => exact HC0_5.out)
                   (case side7 => exact CB_ HR2)
                   (case side8 => exact HC2.out)
                   rintro e w57 ⟨rfl, hb⟩
                   refine ⟨_, rfl, ?_⟩
                   have n0_ := Aside0.mk (blk_below (K_ BK145) hb)
                   have n1_ := Aside0.mk (below_step bl_ hb)
                   clear BK145
                   clear HB
                   have BK145 := n0_
                   have HB := n1_
                   clear n0_ n1_
                   refine hK.out _ _ ⟨(blk_cell BK145.out 0).trans rfl, (blk_cell BK145.out 1).trans rfl, (blk_cell BK145.out 2).trans rfl, (blk_cell BK145.out 3).trans rfl, (blk_cell BK145.out 4).trans rfl, (blk_cell BK145.out 5).trans rfl, (hc_ HB hw160_0), (hc_ HB hw160_1), (hc_ HB hw160_2), (hc_ HB hw160_3)⟩ (fun hHeld => ?_)
                   clear hK K
                   refine no_ 146 ?_
                   refine pu_ 10 136 HT_ ?_
                   refine pu_ 11 147 HT_ ?_
                   refine pu_ 12 148 HT_ ?_
                   refine pu_ 13 20 HT_ ?_
                   refine pu_ 14 21 HT_ ?_
                   refine done_ (done_of HT_.out (by kernel_rfl)) ?_
                   try go_wp2
                   go_roundg k3
                   case measure => have := HK1.out; have := HJ41.out; have := HK3.out; omega
                   case rel => exact ⟨(wrap64 ((wrap64 (x8_3 + (wrap64 (((rd_T48 l0_3 (rd l3 x115_3)).f2) - (wrap64 (a1 * ((rd_T48 l0_3 (rd l3 x115_3)).f3))))))) + (Int.tmod (wrap64 ((Int.tmod (wrap64 ((wrap64 (t161 - t155)) - (wrap64 (x8_3 + (wrap64 (((rd_T48 l0_3 (rd l3 x115_3)).f2) - (wrap64 (a1 * ((rd_T48 l0_3 (rd l3 x115_3)).f3))))))))) a1) + a1)) a1))), (wrap64 (x115_3 + 1)), (by first | rfl | (simp; done) | (simp [*]; done)), (by first | rfl | (simp; done) | (simp [*]; done)), H', ⟨by have := HK1.out; have := HJ41.out; have := HK3.out; omega⟩, ⟨K_ BK145⟩, ⟨bl_⟩⟩
                 replace c53 := Bool.eq_false_iff.mpr c53
                 subst c53
                 have H1 : (refute_walk.l1 k3 a1 l2 (wrap64 (x8_3 + (wrap64 (((rd_T48 l0_3 (rd l3 x115_3)).f2) - (wrap64 (a1 * ((rd_T48 l0_3 (rd l3 x115_3)).f3))))))) t155 l3 (l3.length : Int) (wrap64 (x115_3 + 1)) a0_0 a0_1 a0_2 l0_3 l0_4 l0_5) = some (r1, r2) := by rw [if_neg (show ¬ (false = true) by decide)] at H; exact H
                 clear H
                 have H := H1
                 clear H1
                 have H' := Aside0.mk H
                 clear H
                 have p157 : 0 ≤ (x115_3 : Int) := of_decide_eq_true (by first | (with_reducible assumption) | assumption)
                 have q157 : x115_3 < (l3.length : Int) := of_decide_eq_true (by first | (with_reducible assumption) | assumption)
                 obtain ⟨ad157, e157, hx157_0⟩ := Kd.at_int HR3.out x115_3 p157 q157
                 obtain rfl : ad153 = ad157 := (by injection e157)
                 replace hx157_0 := hc_ HB hx157_0
                 replace p157 := eq_true p157
                 replace q157 := eq_true q157
                 try go_wp2
                 have n0_ := Aside0.mk (blk_drew BK145.out)
                 have n1_ := Aside0.mk (below_drew1 HB.out)
                 clear BK145
                 clear HB
                 have BK145 := n0_
                 have HB := n1_
                 clear n0_ n1_
                 have p158 : 0 ≤ ((rd l3 x115_3) : Int) := of_decide_eq_true (by first | (with_reducible assumption) | assumption)
                 have q158 : (rd l3 x115_3) < (l0_3.length : Int) := of_decide_eq_true (by first | (with_reducible assumption) | assumption)
                 obtain ⟨ad158, e158, hx158_0, hx158_1, hx158_2, hx158_3⟩ := at_T48 HR0_3.out (rd l3 x115_3) p158 q158
                 have hw158_3 := hx158_3
                 have hw158_2 := hx158_2
                 have hw158_1 := hx158_1
                 have hw158_0 := hx158_0
                 obtain rfl : ad154 = ad158 := (by injection e158)
                 replace hx158_0 := hc_ HB hx158_0
                 replace hx158_1 := hc_ HB hx158_1
                 replace hx158_2 := hc_ HB hx158_2
                 replace hx158_3 := hc_ HB hx158_3
                 replace p158 := eq_true p158
                 replace q158 := eq_true q158
                 have p159 : 0 ≤ ((rd l3 x115_3) : Int) := of_decide_eq_true (by first | (with_reducible assumption) | assumption)
                 have q159 : (rd l3 x115_3) < (l0_3.length : Int) := of_decide_eq_true (by first | (with_reducible assumption) | assumption)
                 obtain ⟨ad159, e159, hx159_0, hx159_1, hx159_2, hx159_3⟩ := at_T48 HR0_3.out (rd l3 x115_3) p159 q159
                 have hw159_3 := hx159_3
                 have hw159_2 := hx159_2
                 have hw159_1 := hx159_1
                 have hw159_0 := hx159_0
                 obtain rfl : ad154 = ad159 := (by injection e159)
                 replace hx159_0 := hc_ HB hx159_0
                 replace hx159_1 := hc_ HB hx159_1
                 replace hx159_2 := hc_ HB hx159_2
                 replace hx159_3 := hc_ HB hx159_3
                 replace p159 := eq_true p159
                 replace q159 := eq_true q159
                 refine start_ (n := 18) (S := fun w' => w'.cell? ⟨gb145, 0, none⟩ = some (.int .i64 a0_0) ∧ w'.cell? ⟨gb145, 1, none⟩ = some (.int .i64 a0_1) ∧ w'.cell? ⟨gb145, 2, none⟩ = some (.bool a0_2) ∧ w'.cell? ⟨gb145, 3, none⟩ = some (.slice (some ad154) l0_3.length c0_3) ∧ w'.cell? ⟨gb145, 4, none⟩ = some (.slice A0_4 l0_4.length c0_4) ∧ w'.cell? ⟨gb145, 5, none⟩ = some (.slice A0_5 l0_5.length c0_5) ∧ w'.cell? (ad154.add (((rd l3 x115_3)).toNat * 4)) = some (.int .i64 ((rd_T48 l0_3 (rd l3 x115_3)).f0)) ∧ w'.cell? ⟨(ad154.add (((rd l3 x115_3)).toNat * 4)).block, (ad154.add (((rd l3 x115_3)).toNat * 4)).off + 1, none⟩ = some (.int .i64 ((rd_T48 l0_3 (rd l3 x115_3)).f1)) ∧ w'.cell? ⟨(ad154.add (((rd l3 x115_3)).toNat * 4)).block, (ad154.add (((rd l3 x115_3)).toNat * 4)).off + 2, none⟩ = some (.int .i64 ((rd_T48 l0_3 (rd l3 x115_3)).f2)) ∧ w'.cell? ⟨(ad154.add (((rd l3 x115_3)).toNat * 4)).block, (ad154.add (((rd l3 x115_3)).toNat * 4)).off + 3, none⟩ = some (.int .i64 ((rd_T48 l0_3 (rd l3 x115_3)).f3)) ∧ w'.cell? (ad154.add (((rd l3 x115_3)).toNat * 4)) = some (.int .i64 ((rd_T48 l0_3 (rd l3 x115_3)).f0)) ∧ w'.cell? ⟨(ad154.add (((rd l3 x115_3)).toNat * 4)).block, (ad154.add (((rd l3 x115_3)).toNat * 4)).off + 1, none⟩ = some (.int .i64 ((rd_T48 l0_3 (rd l3 x115_3)).f1)) ∧ w'.cell? ⟨(ad154.add (((rd l3 x115_3)).toNat * 4)).block, (ad154.add (((rd l3 x115_3)).toNat * 4)).off + 2, none⟩ = some (.int .i64 ((rd_T48 l0_3 (rd l3 x115_3)).f2)) ∧ w'.cell? ⟨(ad154.add (((rd l3 x115_3)).toNat * 4)).block, (ad154.add (((rd l3 x115_3)).toNat * 4)).off + 3, none⟩ = some (.int .i64 ((rd_T48 l0_3 (rd l3 x115_3)).f3))) (ds := []) (bz 18 0) (by kernel_rfl) rfl rfl ⟨(blk_cell BK145.out 0).trans rfl, (blk_cell BK145.out 1).trans rfl, (blk_cell BK145.out 2).trans rfl, (blk_cell BK145.out 3).trans rfl, (blk_cell BK145.out 4).trans rfl, (blk_cell BK145.out 5).trans rfl, (hc_ HB hw158_0), (hc_ HB hw158_1), (hc_ HB hw158_2), (hc_ HB hw158_3), (hc_ HB hw159_0), (hc_ HB hw159_1), (hc_ HB hw159_2), (hc_ HB hw159_3)⟩ (fun hHeld => ?_); refine with_tabW refute_walk.tab19 refute_walk.bits19 (fun HT_ HW_ => ?_)
                 generalize wr.drew = w58 at BK145 HB hx158_0 hx158_1 hx158_2 hx158_3 hx159_0 hx159_1 hx159_2 hx159_3 hHeld ⊢
                 refine pu_ 0 119 HT_ ?_
                 refine pu_ 1 120 HT_ ?_
                 refine pu_ 3 122 HT_ ?_
                 refine pu_ 7 126 HT_ ?_
                 refine pu_ 8 127 HT_ ?_
                 refine pu_ 10 129 HT_ ?_
                 refine tk_ 2 121 HT_ HW_ hHeld ?_ (hy := by rintro w' ⟨s0, s1, s2, s3, s4, s5, s6, s7, s8, s9, s10, s11, s12, s13⟩; go_simp; with_reducible rfl)
                 refine pu_ 4 123 HT_ ?_
                 refine pu_ 5 124 HT_ ?_
                 refine tk_ 6 125 HT_ HW_ hHeld ?_ (hy := by rintro w' ⟨s0, s1, s2, s3, s4, s5, s6, s7, s8, s9, s10, s11, s12, s13⟩; go_simp; with_reducible rfl)
                 refine tk_ 9 128 HT_ HW_ hHeld ?_ (hy := by rintro w' ⟨s0, s1, s2, s3, s4, s5, s6, s7, s8, s9, s10, s11, s12, s13⟩; go_simp; with_reducible rfl)
                 refine pu_ 11 130 HT_ ?_
                 refine pu_ 12 131 HT_ ?_
                 refine tk_ 13 132 HT_ HW_ hHeld ?_ (hy := by rintro w' ⟨s0, s1, s2, s3, s4, s5, s6, s7, s8, s9, s10, s11, s12, s13⟩; go_simp; with_reducible rfl)
                 refine pu_ 14 133 HT_ ?_
                 refine pu_ 15 134 HT_ ?_
                 refine pu_ 16 135 HT_ ?_
                 refine pu_ 17 8 HT_ ?_
                 refine done_ (done_of HT_.out (by kernel_rfl)) ?_
                 try go_wp2
                 have n0_ := Aside0.mk (blk_drew BK145.out)
                 have n1_ := Aside0.mk (below_drew1 HB.out)
                 clear BK145
                 clear HB
                 have BK145 := n0_
                 have HB := n1_
                 clear n0_ n1_
                 have p160 : 0 ≤ ((rd l3 x115_3) : Int) := of_decide_eq_true (by first | (with_reducible assumption) | assumption)
                 have q160 : (rd l3 x115_3) < (l0_3.length : Int) := of_decide_eq_true (by first | (with_reducible assumption) | assumption)
                 obtain ⟨ad160, e160, hx160_0, hx160_1, hx160_2, hx160_3⟩ := at_T48 HR0_3.out (rd l3 x115_3) p160 q160
                 have hw160_3 := hx160_3
                 have hw160_2 := hx160_2
                 have hw160_1 := hx160_1
                 have hw160_0 := hx160_0
                 obtain rfl : ad154 = ad160 := (by injection e160)
                 replace hx160_0 := hc_ HB hx160_0
                 replace hx160_1 := hc_ HB hx160_1
                 replace hx160_2 := hc_ HB hx160_2
                 replace hx160_3 := hc_ HB hx160_3
                 replace p160 := eq_true p160
                 replace q160 := eq_true q160
                 refine start_ (n := 15) (S := fun w' => w'.cell? ⟨gb145, 0, none⟩ = some (.int .i64 a0_0) ∧ w'.cell? ⟨gb145, 1, none⟩ = some (.int .i64 a0_1) ∧ w'.cell? ⟨gb145, 2, none⟩ = some (.bool a0_2) ∧ w'.cell? ⟨gb145, 3, none⟩ = some (.slice (some ad154) l0_3.length c0_3) ∧ w'.cell? ⟨gb145, 4, none⟩ = some (.slice A0_4 l0_4.length c0_4) ∧ w'.cell? ⟨gb145, 5, none⟩ = some (.slice A0_5 l0_5.length c0_5) ∧ w'.cell? (ad154.add (((rd l3 x115_3)).toNat * 4)) = some (.int .i64 ((rd_T48 l0_3 (rd l3 x115_3)).f0)) ∧ w'.cell? ⟨(ad154.add (((rd l3 x115_3)).toNat * 4)).block, (ad154.add (((rd l3 x115_3)).toNat * 4)).off + 1, none⟩ = some (.int .i64 ((rd_T48 l0_3 (rd l3 x115_3)).f1)) ∧ w'.cell? ⟨(ad154.add (((rd l3 x115_3)).toNat * 4)).block, (ad154.add (((rd l3 x115_3)).toNat * 4)).off + 2, none⟩ = some (.int .i64 ((rd_T48 l0_3 (rd l3 x115_3)).f2)) ∧ w'.cell? ⟨(ad154.add (((rd l3 x115_3)).toNat * 4)).block, (ad154.add (((rd l3 x115_3)).toNat * 4)).off + 3, none⟩ = some (.int .i64 ((rd_T48 l0_3 (rd l3 x115_3)).f3))) (ds := []) (bz 15 0) (by kernel_rfl) rfl rfl ⟨(blk_cell BK145.out 0).trans rfl, (blk_cell BK145.out 1).trans rfl, (blk_cell BK145.out 2).trans rfl, (blk_cell BK145.out 3).trans rfl, (blk_cell BK145.out 4).trans rfl, (blk_cell BK145.out 5).trans rfl, (hc_ HB hw160_0), (hc_ HB hw160_1), (hc_ HB hw160_2), (hc_ HB hw160_3)⟩ (fun hHeld => ?_); refine with_tabW refute_walk.tab20 refute_walk.bits20 (fun HT_ HW_ => ?_)
                 generalize w58.drew = w59 at BK145 HB hx160_0 hx160_1 hx160_2 hx160_3 hHeld ⊢
                 refine pu_ 1 138 HT_ ?_
                 refine pu_ 2 139 HT_ ?_
                 refine pu_ 3 140 HT_ ?_
                 refine pu_ 5 142 HT_ ?_
                 refine tk_ 0 137 HT_ HW_ hHeld ?_ (hy := by rintro w' ⟨s0, s1, s2, s3, s4, s5, s6, s7, s8, s9⟩; go_simp; with_reducible rfl)
                 refine tk_ 4 141 HT_ HW_ hHeld ?_ (hy := by rintro w' ⟨s0, s1, s2, s3, s4, s5, s6, s7, s8, s9⟩; go_simp; with_reducible rfl)
                 refine pu_ 6 143 HT_ ?_
                 refine pu_ 7 144 HT_ ?_
                 refine tk_ 8 145 HT_ HW_ hHeld ?_ (hy := by rintro w' ⟨s0, s1, s2, s3, s4, s5, s6, s7, s8, s9⟩; go_simp; with_reducible rfl)
                 refine on_ 9 (some 146) HT_ (fun K hK => ?_)
                 refine gs_ Try.func41 #[.agg #[.int .i64 a0_0, .int .i64 a0_1, .bool a0_2, .slice (some ad154) l0_3.length c0_3, .slice A0_4 l0_4.length c0_4, .slice A0_5 l0_5.length c0_5], .int .i64 a1, .slice A2 l2.length c2, .int .i64 ((rd_T48 l0_3 (rd l3 x115_3)).f1)] ?_
                 with_reducible refine (refute_slot.calls k3 a0_0 a0_1 a0_2 _ _ l0_3 _ _ l0_4 _ _ l0_5 a1 _ _ l2 ((rd_T48 l0_3 (rd l3 x115_3)).f1) t161 false _ ?side1 ?side2 ?side3 ?side4 ?side5 ?side6 ?side7 ?side8 A52.out).mono ?_
                 (case side1 => exact CB_ HR0_3)
                 (case side2 => exact HC0_3.out)
                 (case side3 => exact CB_ HR0_4)
                 (case side4 => exact HC0_4.out)
                 (case side5 => exact CB_ HR0_5)
                 (case side6 => exact HC0_5.out)
                 (case side7 => exact CB_ HR2)
                 (case side8 => exact HC2.out)
                 rintro e w60 ⟨rfl, hb⟩
                 refine ⟨_, rfl, ?_⟩
                 have n0_ := Aside0.mk (blk_below (K_ BK145) hb)
                 have n1_ := Aside0.mk (below_step bl_ hb)
                 clear BK145
                 clear HB
                 have BK145 := n0_
                 have HB := n1_
                 clear n0_ n1_
                 refine hK.out _ _ ⟨(blk_cell BK145.out 0).trans rfl, (blk_cell BK145.out 1).trans rfl, (blk_cell BK145.out 2).trans rfl, (blk_cell BK145.out 3).trans rfl, (blk_cell BK145.out 4).trans rfl, (blk_cell BK145.out 5).trans rfl, (hc_ HB hw160_0), (hc_ HB hw160_1), (hc_ HB hw160_2), (hc_ HB hw160_3)⟩ (fun hHeld => ?_)
                 clear hK K
                 refine no_ 146 ?_
                 refine pu_ 10 136 HT_ ?_
                 refine pu_ 11 147 HT_ ?_
                 refine pu_ 12 148 HT_ ?_
                 refine pu_ 13 20 HT_ ?_
                 refine pu_ 14 21 HT_ ?_
                 refine done_ (done_of HT_.out (by kernel_rfl)) ?_
                 try go_wp2
                 go_roundg k3
                 case measure => have := HK1.out; have := HJ41.out; have := HK3.out; omega
                 case rel => exact ⟨(wrap64 (x8_3 + (wrap64 (((rd_T48 l0_3 (rd l3 x115_3)).f2) - (wrap64 (a1 * ((rd_T48 l0_3 (rd l3 x115_3)).f3))))))), (wrap64 (x115_3 + 1)), (by first | rfl | (simp; done) | (simp [*]; done)), (by first | rfl | (simp; done) | (simp [*]; done)), H', ⟨by have := HK1.out; have := HJ41.out; have := HK3.out; omega⟩, ⟨K_ BK145⟩, ⟨bl_⟩⟩
               rw [if_neg c51] at H
               exact absurd H (by simp)
             rw [if_neg c50] at H
             exact absurd H (by simp)
           rw [if_neg c49] at H
           exact absurd H (by simp)
         rw [if_neg c48] at H
         exact absurd H (by simp)
       rw [if_neg c47] at H
       have c47b0 : decide (x115_3 < (l3.length : Int)) = false := decide_eq_false c47
       clear c47
       simp only [Option.some.injEq, Prod.mk.injEq] at H
       obtain ⟨rfl, rfl⟩ := H
       go_wp2
       go_ret2
       exact ⟨by first | rfl | (simp [errW_none, errW_some] <;> rfl) | (simp [*, errW_none, errW_some] <;> rfl), by repeat (first | (with_reducible first | exact HB.out | apply below_alloc | apply pw_below_drewN | apply below_drew1 | refine below_set ?_ GE145.out) | exact HB.out)⟩
     rw [if_neg c40] at H
     exact absurd H (by simp)
   rw [if_neg c39] at H
   exact absurd H (by simp)
 rw [if_neg c38] at H
 exact absurd H (by simp)
end Go.Proofs.Ytpmlbbglekaidaa.PAll
