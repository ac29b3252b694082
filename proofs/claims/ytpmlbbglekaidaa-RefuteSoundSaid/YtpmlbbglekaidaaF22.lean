-- Written for this claim by programs of this session (wip/print2 in its repo: a changed printer, a shortener, a packer). Lean checks it.
import Derived.Test.YtpmlbbglekaidaaP0
import Derived.Test.YtpmlbbglekaidaaF30
namespace Go.Proofs.Ytpmlbbglekaidaa.PAll
open Go.RowKit Go.Proofs.YtpmlbbglekaidaaW.PrintWords Go.Proofs.YtpmlbbglekaidaaW.PrintLast Go.Proofs.YtpmlbbglekaidaaW.PrintMore
attribute [local go_sem] max2_int min2_int max_two min_two max_three min_three max_four min_four   -- for this text's walks alone
set_option linter.unusedVariables false
set_option linter.unusedSimpArgs false

/-! ### jacquardref33_clash: function 22 -/
def jacquardref33_clash.j0 : Nat → Int → Bool → Int → Int → Int → Int → Int → Int → Int → Int → Int → Int → Option (Bool)
  | 0, _, _, _, _, _, _, _, _, _, _, _, _ => none
  | k + 1, x1, x34, x407000, x407001, x407002, x408000, x408001, x408002, x411000, x411001, x412000, x412001 => if x34 = true then (some false) else ((jacquardref33_mod.f (wrap64 (x408001 - x407001)) x1).bind fun t412 => (if t412 < x411001 then (some true) else ((jacquardref33_mod.f (wrap64 (x407001 - x408001)) x1).bind fun t413 => (some (decide (t413 < x412001))))))
def jacquardref33_clash.f (k : Nat) (a0_0 : Int) (a0_1 : Int) (a0_2 : Bool) (l0_3 : List (S48)) (l0_4 : List (S50)) (l0_5 : List (S52)) (a1 : Int) (a2_0 : Int) (a2_1 : Int) (a2_2 : Int) (a3_0 : Int) (a3_1 : Int) (a3_2 : Int) : Option (Bool) := if 0 ≤ a2_0 then (if a2_0 < (l0_5.length : Int) then (if 0 ≤ a3_0 then (if a3_0 < (l0_5.length : Int) then (if ((rd_T52 l0_5 a2_0).f0) = ((rd_T52 l0_5 a3_0).f0) then (jacquardref33_clash.j0 k a1 (a2_2 != a3_2) a2_0 a2_1 a2_2 a3_0 a3_1 a3_2 ((rd_T52 l0_5 a2_0).f0) ((rd_T52 l0_5 a2_0).f1) ((rd_T52 l0_5 a3_0).f0) ((rd_T52 l0_5 a3_0).f1)) else (jacquardref33_clash.j0 k a1 true a2_0 a2_1 a2_2 a3_0 a3_1 a3_2 ((rd_T52 l0_5 a2_0).f0) ((rd_T52 l0_5 a2_0).f1) ((rd_T52 l0_5 a3_0).f0) ((rd_T52 l0_5 a3_0).f1))) else (none)) else (none)) else (none)) else (none)
theorem jacquardref33_clash.mono_l : ∀ k, (∀ y0 y1 y2 y3 y4 y5 y6 y7 y8 y9 y10 y11, LeO (jacquardref33_clash.j0 k y0 y1 y2 y3 y4 y5 y6 y7 y8 y9 y10 y11) (jacquardref33_clash.j0 (k + 1) y0 y1 y2 y3 y4 y5 y6 y7 y8 y9 y10 y11))
  | 0 => fun _ _ _ _ _ _ _ _ _ _ _ _ r h => by simp [jacquardref33_clash.j0] at h
  | k + 1 => by
    have ih0 := jacquardref33_clash.mono_l k
    intros
    unfold jacquardref33_clash.j0
    repeat' first | (with_reducible first | apply ih0 | exact LeO.refl _ | exact LeO.none _ | refine LeO.ite ?_ ?_ | refine LeO.bind ?_ (fun _ => ?_)) | apply ih0 | exact LeO.none _ | refine LeO.ite ?_ ?_ | refine LeO.bind ?_ (fun _ => ?_)
theorem jacquardref33_clash.mono : ∀ a0 a1 a2 a3 a4 a5 a6 a7 a8 a9 a10 a11 a12 k, LeO (jacquardref33_clash.f k a0 a1 a2 a3 a4 a5 a6 a7 a8 a9 a10 a11 a12) (jacquardref33_clash.f (k + 1) a0 a1 a2 a3 a4 a5 a6 a7 a8 a9 a10 a11 a12) := by
 intro a0 a1 a2 a3 a4 a5 a6 a7 a8 a9 a10 a11 a12 k
 have ih0 := jacquardref33_clash.mono_l k
 unfold jacquardref33_clash.f
 repeat' first | (with_reducible first | apply ih0 | exact LeO.refl _ | exact LeO.none _ | refine LeO.ite ?_ ?_ | refine LeO.bind ?_ (fun _ => ?_)) | apply ih0 | exact LeO.none _ | refine LeO.ite ?_ ?_ | refine LeO.bind ?_ (fun _ => ?_)
def jacquardref33_clash.T1 : Bool × List (List Nat × List Nat) := (true, [([], []), ([0], [0]), ([], []), ([2], [2]), ([1, 3], [1, 3]), ([4], [4]), ([], []), ([6], [6]), ([], []), ([8], [8]), ([7, 9], [7, 9]), ([10], [10]), ([], []), ([], []), ([12, 5, 0, 1, 2, 3, 4, 5, 12, 13], [5, 12]), ([13, 11, 14, 0, 1, 2, 3, 4, 5, 6, 7, 8, 9, 10, 11, 12, 13, 14], [11, 13])])
def jacquardref33_clash.B1 : List Nat := [0, 1, 0, 4, 15, 31, 0, 64, 0, 256, 960, 1984, 0, 0, 12351, 32767]
theorem jacquardref33_clash.tab1 : rtab .any (opsOf Try.f22 1) = jacquardref33_clash.T1 := by kernel_rfl
theorem jacquardref33_clash.bits1 : waitsOk jacquardref33_clash.T1.2 jacquardref33_clash.B1 = true := by kernel_rfl
def jacquardref33_clash.T4 : Bool × List (List Nat × List Nat) := (true, [([], []), ([0], [0]), ([], []), ([2], [2]), ([1, 3], [1, 3]), ([], []), ([4, 5], [4, 5]), ([], []), ([7], [7]), ([6, 8], [6, 8]), ([9, 6], [9]), ([10], [10]), ([11, 10], [10, 11]), ([10], [10]), ([13, 10], [10, 13]), ([12, 14, 10], [10, 12, 14]), ([10], [10]), ([15, 16, 10, 10], [10, 15, 16]), ([10], [10]), ([18, 10], [10, 18]), ([17, 19, 10], [10, 17, 19]), ([10, 20], [10, 20]), ([21, 17, 0, 1, 2, 3, 4, 5, 6, 7, 8, 9, 10, 11, 12, 13, 14, 15, 16, 17, 18, 19, 20, 21], [21])])
def jacquardref33_clash.B4 : List Nat := [0, 1, 0, 4, 15, 0, 63, 0, 128, 511, 1023, 2047, 4095, 2047, 10239, 32767, 2047, 131071, 2047, 264191, 1048575, 2097151, 4194303]
theorem jacquardref33_clash.tab4 : rtab .any (opsOf Try.f22 4) = jacquardref33_clash.T4 := by kernel_rfl
theorem jacquardref33_clash.bits4 : waitsOk jacquardref33_clash.T4.2 jacquardref33_clash.B4 = true := by kernel_rfl
set_option maxHeartbeats 8000000 in
set_option maxRecDepth 100000 in
theorem jacquardref33_clash.calls (k : Nat) (a0_0 : Int) (a0_1 : Int) (a0_2 : Bool) (A0_3 : Option Addr) (c0_3 : Nat) (l0_3 : List (S48)) (A0_4 : Option Addr) (c0_4 : Nat) (l0_4 : List (S50)) (A0_5 : Option Addr) (c0_5 : Nat) (l0_5 : List (S52)) (a1 : Int) (a2_0 : Int) (a2_1 : Int) (a2_2 : Int) (a3_0 : Int) (a3_1 : Int) (a3_2 : Int) (r : Bool) (w : World) (hr0_3 : Kd.C k48 w A0_3 l0_3.length l0_3) (hc0_3 : l0_3.length ≤ c0_3) (hr0_4 : Kd.C k50 w A0_4 l0_4.length l0_4) (hc0_4 : l0_4.length ≤ c0_4) (hr0_5 : Kd.C k52 w A0_5 l0_5.length l0_5) (hc0_5 : l0_5.length ≤ c0_5) (h : jacquardref33_clash.f k a0_0 a0_1 a0_2 l0_3 l0_4 l0_5 a1 a2_0 a2_1 a2_2 a3_0 a3_1 a3_2 = some r) :
    Calls Try.prog 22 #[.agg #[.int .i64 a0_0, .int .i64 a0_1, .bool a0_2, .slice A0_3 l0_3.length c0_3, .slice A0_4 l0_4.length c0_4, .slice A0_5 l0_5.length c0_5], .int .i64 a1, .agg #[.int .i64 a2_0, .int .i64 a2_1, .int .i64 a2_2], .agg #[.int .i64 a3_0, .int .i64 a3_1, .int .i64 a3_2]] w fun e w' => e = .returned (.bool r) ∧ Below w.heap.size w w' := by
 have hu26 := Try.underlying26
 have hu44 := Try.underlying44
 have hu52 := Try.underlying52
 have HR0_3 := Aside0.mk hr0_3
 have HC0_3 := Aside0.mk hc0_3
 clear hr0_3 hc0_3
 have HR0_4 := Aside0.mk hr0_4
 have HC0_4 := Aside0.mk hc0_4
 clear hr0_4 hc0_4
 have HR0_5 := Aside0.mk hr0_5
 have HC0_5 := Aside0.mk hc0_5
 clear hr0_5 hc0_5
 have HB := Aside0.mk (Below.refl w.heap.size w)
 have H : (if 0 ≤ a2_0 then (if a2_0 < (l0_5.length : Int) then (if 0 ≤ a3_0 then (if a3_0 < (l0_5.length : Int) then (if ((rd_T52 l0_5 a2_0).f0) = ((rd_T52 l0_5 a3_0).f0) then (jacquardref33_clash.j0 k a1 (a2_2 != a3_2) a2_0 a2_1 a2_2 a3_0 a3_1 a3_2 ((rd_T52 l0_5 a2_0).f0) ((rd_T52 l0_5 a2_0).f1) ((rd_T52 l0_5 a3_0).f0) ((rd_T52 l0_5 a3_0).f1)) else (jacquardref33_clash.j0 k a1 true a2_0 a2_1 a2_2 a3_0 a3_1 a3_2 ((rd_T52 l0_5 a2_0).f0) ((rd_T52 l0_5 a2_0).f1) ((rd_T52 l0_5 a3_0).f0) ((rd_T52 l0_5 a3_0).f1))) else (none)) else (none)) else (none)) else (none)) = some r := h
 clear h
 by_cases c5 : 0 ≤ a2_0
 · rw [if_pos c5] at H
   have c5b0 : decide (0 ≤ a2_0) = true := decide_eq_true c5
   clear c5
   by_cases c6 : a2_0 < (l0_5.length : Int)
   · rw [if_pos c6] at H
     have c6b0 : decide (a2_0 < (l0_5.length : Int)) = true := decide_eq_true c6
     clear c6
     by_cases c7 : 0 ≤ a3_0
     · rw [if_pos c7] at H
       have c7b0 : decide (0 ≤ a3_0) = true := decide_eq_true c7
       clear c7
       by_cases c8 : a3_0 < (l0_5.length : Int)
       · rw [if_pos c8] at H
         have c8b0 : decide (a3_0 < (l0_5.length : Int)) = true := decide_eq_true c8
         clear c8
         have HC9 := Aside0.mk H
         clear H
         go_enter Try.func22, Try.ntmps22
         try go_wp2_with (first | ((with_reducible refine gate_dst (N := 4) rfl ?_); refine box_event ?hg (N := 4) ?hd (cs := #[.int .i64 a0_0, .int .i64 a0_1, .bool a0_2, .slice A0_3 l0_3.length c0_3, .slice A0_4 l0_4.length c0_4, .slice A0_5 l0_5.length c0_5]) (t := 26) ?hr ?_; (case hd => rfl); (case hg => rfl); (case hr => first | (go_simp; done) | (go_simp; rfl)); intro gb405 hg w10 hbox hb; have n0_ := Aside0.mk (below_step bl_ hb); have n1_ := Aside0.mk (hbox); have n2_ := Aside0.mk (gl_ (w := w) hg); have n3_ := Aside0.mk (gl_ (w := w) hg); clear HB; have HB := n0_; have BK405 := n1_; have GW405 := n2_; have GE405 := n3_; clear n0_ n1_ n2_ n3_; clear hb hbox hg) | ((with_reducible refine gate_dst (N := 6) rfl ?_); refine box_event ?hg (N := 6) ?hd (cs := #[.int .i64 a2_0, .int .i64 a2_1, .int .i64 a2_2]) (t := 44) ?hr ?_; (case hd => rfl); (case hg => rfl); (case hr => first | (go_simp; done) | (go_simp; rfl)); intro gb406 hg w11 hbox hb; have n0_ := Aside0.mk (blk_below (K_ BK405) hb); have n1_ := Aside0.mk (below_step bl_ hb); have n2_ := Aside0.mk (hbox); have n3_ := Aside0.mk (gl_ (w := w) hg); have n4_ := Aside0.mk (gl_ (w := w) hg); have n5_ := Aside0.mk (nl_ hg (K_ BK405)); have n6_ := Aside0.mk (ng_ hg (K_ BK405)); clear BK405; clear HB; have BK405 := n0_; have HB := n1_; have BK406 := n2_; have GW406 := n3_; have GE406 := n4_; have NB405_406 := n5_; have NB406_405 := n6_; clear n0_ n1_ n2_ n3_ n4_ n5_ n6_; clear hb hbox hg) | ((with_reducible refine gate_dst (N := 7) rfl ?_); refine box_event ?hg (N := 7) ?hd (cs := #[.int .i64 a3_0, .int .i64 a3_1, .int .i64 a3_2]) (t := 44) ?hr ?_; (case hd => rfl); (case hg => rfl); (case hr => first | (go_simp; done) | (go_simp; rfl)); intro gb407 hg w12 hbox hb; have n0_ := Aside0.mk (blk_below (K_ BK405) hb); have n1_ := Aside0.mk (blk_below (K_ BK406) hb); have n2_ := Aside0.mk (below_step bl_ hb); have n3_ := Aside0.mk (hbox); have n4_ := Aside0.mk (gl_ (w := w) hg); have n5_ := Aside0.mk (gl_ (w := w) hg); have n6_ := Aside0.mk (nl_ hg (K_ BK405)); have n7_ := Aside0.mk (ng_ hg (K_ BK405)); have n8_ := Aside0.mk (nl_ hg (K_ BK406)); have n9_ := Aside0.mk (ng_ hg (K_ BK406)); clear BK405; clear BK406; clear HB; have BK405 := n0_; have BK406 := n1_; have HB := n2_; have BK407 := n3_; have GW407 := n4_; have GE407 := n5_; have NB405_407 := n6_; have NB407_405 := n7_; have NB406_407 := n8_; have NB407_406 := n9_; clear n0_ n1_ n2_ n3_ n4_ n5_ n6_ n7_ n8_ n9_; clear hb hbox hg))
         have n0_ := Aside0.mk (blk_drew BK405.out)
         have n1_ := Aside0.mk (blk_drew BK406.out)
         have n2_ := Aside0.mk (blk_drew BK407.out)
         have n3_ := Aside0.mk (below_drew1 HB.out)
         clear BK405
         clear BK406
         clear BK407
         clear HB
         have BK405 := n0_
         have BK406 := n1_
         have BK407 := n2_
         have HB := n3_
         clear n0_ n1_ n2_ n3_
         have p408 : 0 ≤ (a2_0 : Int) := of_decide_eq_true (by first | (with_reducible assumption) | assumption)
         have q408 : a2_0 < (l0_5.length : Int) := of_decide_eq_true (by first | (with_reducible assumption) | assumption)
         obtain ⟨ad408, e408, hx408_0, hx408_1⟩ := at_T52 HR0_5.out a2_0 p408 q408
         have hw408_1 := hx408_1
         have hw408_0 := hx408_0
         cases e408
         replace hx408_0 := hc_ HB hx408_0
         replace hx408_1 := hc_ HB hx408_1
         replace p408 := eq_true p408
         replace q408 := eq_true q408
         have p409 : 0 ≤ (a3_0 : Int) := of_decide_eq_true (by first | (with_reducible assumption) | assumption)
         have q409 : a3_0 < (l0_5.length : Int) := of_decide_eq_true (by first | (with_reducible assumption) | assumption)
         obtain ⟨ad409, e409, hx409_0, hx409_1⟩ := at_T52 HR0_5.out a3_0 p409 q409
         have hw409_1 := hx409_1
         have hw409_0 := hx409_0
         obtain rfl : ad408 = ad409 := (by injection e409)
         replace hx409_0 := hc_ HB hx409_0
         replace hx409_1 := hc_ HB hx409_1
         replace p409 := eq_true p409
         replace q409 := eq_true q409
         refine start_ (n := 16) (S := fun w' => w'.cell? ⟨gb405, 0, none⟩ = some (.int .i64 a0_0) ∧ w'.cell? ⟨gb405, 1, none⟩ = some (.int .i64 a0_1) ∧ w'.cell? ⟨gb405, 2, none⟩ = some (.bool a0_2) ∧ w'.cell? ⟨gb405, 3, none⟩ = some (.slice A0_3 l0_3.length c0_3) ∧ w'.cell? ⟨gb405, 4, none⟩ = some (.slice A0_4 l0_4.length c0_4) ∧ w'.cell? ⟨gb405, 5, none⟩ = some (.slice (some ad408) l0_5.length c0_5) ∧ w'.cell? ⟨gb406, 0, none⟩ = some (.int .i64 a2_0) ∧ w'.cell? ⟨gb406, 1, none⟩ = some (.int .i64 a2_1) ∧ w'.cell? ⟨gb406, 2, none⟩ = some (.int .i64 a2_2) ∧ w'.cell? ⟨gb407, 0, none⟩ = some (.int .i64 a3_0) ∧ w'.cell? ⟨gb407, 1, none⟩ = some (.int .i64 a3_1) ∧ w'.cell? ⟨gb407, 2, none⟩ = some (.int .i64 a3_2) ∧ w'.cell? (ad408.add ((a2_0).toNat * 2)) = some (.int .i64 ((rd_T52 l0_5 a2_0).f0)) ∧ w'.cell? ⟨(ad408.add ((a2_0).toNat * 2)).block, (ad408.add ((a2_0).toNat * 2)).off + 1, none⟩ = some (.int .i64 ((rd_T52 l0_5 a2_0).f1)) ∧ w'.cell? (ad408.add ((a3_0).toNat * 2)) = some (.int .i64 ((rd_T52 l0_5 a3_0).f0)) ∧ w'.cell? ⟨(ad408.add ((a3_0).toNat * 2)).block, (ad408.add ((a3_0).toNat * 2)).off + 1, none⟩ = some (.int .i64 ((rd_T52 l0_5 a3_0).f1))) (ds := []) (bz 16 0) (by kernel_rfl) rfl rfl ⟨(blk_cell BK405.out 0).trans rfl, (blk_cell BK405.out 1).trans rfl, (blk_cell BK405.out 2).trans rfl, (blk_cell BK405.out 3).trans rfl, (blk_cell BK405.out 4).trans rfl, (blk_cell BK405.out 5).trans rfl, (blk_cell BK406.out 0).trans rfl, (blk_cell BK406.out 1).trans rfl, (blk_cell BK406.out 2).trans rfl, (blk_cell BK407.out 0).trans rfl, (blk_cell BK407.out 1).trans rfl, (blk_cell BK407.out 2).trans rfl, (hc_ HB hw408_0), (hc_ HB hw408_1), (hc_ HB hw409_0), (hc_ HB hw409_1)⟩ (fun hHeld => ?_); refine with_tabW jacquardref33_clash.tab1 jacquardref33_clash.bits1 (fun HT_ HW_ => ?_)
         generalize w12.drew = w13 at BK405 BK406 BK407 HB hx408_0 hx408_1 hx409_0 hx409_1 hHeld ⊢
         refine pu_ 0 11 HT_ ?_
         refine pu_ 2 13 HT_ ?_
         refine pu_ 6 17 HT_ ?_
         refine pu_ 8 19 HT_ ?_
         refine tk_ 1 12 HT_ HW_ hHeld ?_ (hy := by rintro w' ⟨s0, s1, s2, s3, s4, s5, s6, s7, s8, s9, s10, s11, s12, s13, s14, s15⟩; go_simp; with_reducible rfl)
         refine tk_ 3 14 HT_ HW_ hHeld ?_ (hy := by rintro w' ⟨s0, s1, s2, s3, s4, s5, s6, s7, s8, s9, s10, s11, s12, s13, s14, s15⟩; go_simp; with_reducible rfl)
         refine pu_ 4 15 HT_ ?_
         refine tk_ 5 16 HT_ HW_ hHeld ?_ (hy := by rintro w' ⟨s0, s1, s2, s3, s4, s5, s6, s7, s8, s9, s10, s11, s12, s13, s14, s15⟩; go_simp; with_reducible rfl)
         refine tk_ 7 18 HT_ HW_ hHeld ?_ (hy := by rintro w' ⟨s0, s1, s2, s3, s4, s5, s6, s7, s8, s9, s10, s11, s12, s13, s14, s15⟩; go_simp; with_reducible rfl)
         refine tk_ 9 20 HT_ HW_ hHeld ?_ (hy := by rintro w' ⟨s0, s1, s2, s3, s4, s5, s6, s7, s8, s9, s10, s11, s12, s13, s14, s15⟩; go_simp; with_reducible rfl)
         refine pu_ 10 21 HT_ ?_
         refine tk_ 11 22 HT_ HW_ hHeld ?_ (hy := by rintro w' ⟨s0, s1, s2, s3, s4, s5, s6, s7, s8, s9, s10, s11, s12, s13, s14, s15⟩; go_simp; with_reducible rfl)
         refine join_ (σ := Nat × Nat) 2 (bz 16 16383) (fun s_ => [(9, .pointer (some ⟨s_.1, 0, none⟩)), (10, .pointer (some ⟨s_.2, 0, none⟩))]) (fun s_ w' => (w'.cell? ⟨gb405, 0, none⟩ = some (.int .i64 a0_0) ∧ w'.cell? ⟨gb405, 1, none⟩ = some (.int .i64 a0_1) ∧ w'.cell? ⟨gb405, 2, none⟩ = some (.bool a0_2) ∧ w'.cell? ⟨gb405, 3, none⟩ = some (.slice A0_3 l0_3.length c0_3) ∧ w'.cell? ⟨gb405, 4, none⟩ = some (.slice A0_4 l0_4.length c0_4) ∧ w'.cell? ⟨gb405, 5, none⟩ = some (.slice (some ad408) l0_5.length c0_5) ∧ w'.cell? ⟨gb406, 0, none⟩ = some (.int .i64 a2_0) ∧ w'.cell? ⟨gb406, 1, none⟩ = some (.int .i64 a2_1) ∧ w'.cell? ⟨gb406, 2, none⟩ = some (.int .i64 a2_2) ∧ w'.cell? ⟨gb407, 0, none⟩ = some (.int .i64 a3_0) ∧ w'.cell? ⟨gb407, 1, none⟩ = some (.int .i64 a3_1) ∧ w'.cell? ⟨gb407, 2, none⟩ = some (.int .i64 a3_2) ∧ w'.cell? (ad408.add ((a2_0).toNat * 2)) = some (.int .i64 ((rd_T52 l0_5 a2_0).f0)) ∧ w'.cell? ⟨(ad408.add ((a2_0).toNat * 2)).block, (ad408.add ((a2_0).toNat * 2)).off + 1, none⟩ = some (.int .i64 ((rd_T52 l0_5 a2_0).f1)) ∧ w'.cell? (ad408.add ((a3_0).toNat * 2)) = some (.int .i64 ((rd_T52 l0_5 a3_0).f0)) ∧ w'.cell? ⟨(ad408.add ((a3_0).toNat * 2)).block, (ad408.add ((a3_0).toNat * 2)).off + 1, none⟩ = some (.int .i64 ((rd_T52 l0_5 a3_0).f1))) ∧ (w'.heap[gb405]? = some (.cells #[.int .i64 a0_0, .int .i64 a0_1, .bool a0_2, .slice A0_3 l0_3.length c0_3, .slice A0_4 l0_4.length c0_4, .slice (some ad408) l0_5.length c0_5] 26 (0, 0))) ∧ (w'.heap[gb406]? = some (.cells #[.int .i64 a2_0, .int .i64 a2_1, .int .i64 a2_2] 44 (0, 0))) ∧ (w'.heap[gb407]? = some (.cells #[.int .i64 a3_0, .int .i64 a3_1, .int .i64 a3_2] 44 (0, 0))) ∧ (w'.heap[s_.1]? = some (.cells #[.int .i64 0, .int .i64 0] 52 (0, 0))) ∧ (w'.heap[s_.2]? = some (.cells #[.int .i64 0, .int .i64 0] 52 (0, 0))) ∧ (w.heap.size ≤ s_.1) ∧ (w.heap.size ≤ s_.1) ∧ (gb405 ≠ s_.1) ∧ (s_.1 ≠ gb405) ∧ (gb406 ≠ s_.1) ∧ (s_.1 ≠ gb406) ∧ (gb407 ≠ s_.1) ∧ (s_.1 ≠ gb407) ∧ (s_.2 ≠ s_.1) ∧ (s_.1 ≠ s_.2) ∧ (w.heap.size ≤ s_.2) ∧ (w.heap.size ≤ s_.2) ∧ (gb405 ≠ s_.2) ∧ (s_.2 ≠ gb405) ∧ (gb406 ≠ s_.2) ∧ (s_.2 ≠ gb406) ∧ (gb407 ≠ s_.2) ∧ (s_.2 ≠ gb407) ∧ (Below w.heap.size w w')) ?_ ?_
         rotate_left
         · intro hCont
           refine two_ (i := 12) (j := 13) (Ni := some 9) (Nj := some 10) (bz 16 8191) (bz 16 12287) rfl rfl rfl rfl (two_of HT_.out (by kernel_rfl)) (by decide) (by decide) (fun K hK => ?_) (fun K hK => ?_)
           · skip
             refine box_step ?hg (N := 9) ?hd (cs := #[.int .i64 0, .int .i64 0]) (t := 52) ?hr ?_; (case hd => rfl); (case hg => rfl); (case hr => first | (go_simp; done) | (go_simp; rfl))
             intro gb410 hg w14 hbox hb
             have n0_ := Aside0.mk (blk_below (K_ BK405) hb)
             have n1_ := Aside0.mk (blk_below (K_ BK406) hb)
             have n2_ := Aside0.mk (blk_below (K_ BK407) hb)
             have n3_ := Aside0.mk (below_step bl_ hb)
             have n4_ := Aside0.mk (hbox)
             have n5_ := Aside0.mk (gl_ (w := w) hg)
             have n6_ := Aside0.mk (gl_ (w := w) hg)
             have n7_ := Aside0.mk (nl_ hg (K_ BK405))
             have n8_ := Aside0.mk (ng_ hg (K_ BK405))
             have n9_ := Aside0.mk (nl_ hg (K_ BK406))
             have n10_ := Aside0.mk (ng_ hg (K_ BK406))
             have n11_ := Aside0.mk (nl_ hg (K_ BK407))
             have n12_ := Aside0.mk (ng_ hg (K_ BK407))
             clear BK405
             clear BK406
             clear BK407
             clear HB
             have BK405 := n0_
             have BK406 := n1_
             have BK407 := n2_
             have HB := n3_
             have BK410 := n4_
             have GW410 := n5_
             have GE410 := n6_
             have NB405_410 := n7_
             have NB410_405 := n8_
             have NB406_410 := n9_
             have NB410_406 := n10_
             have NB407_410 := n11_
             have NB410_407 := n12_
             clear n0_ n1_ n2_ n3_ n4_ n5_ n6_ n7_ n8_ n9_ n10_ n11_ n12_
             clear hb hbox hg
             refine hK.out _ _ ⟨(blk_cell BK405.out 0).trans rfl, (blk_cell BK405.out 1).trans rfl, (blk_cell BK405.out 2).trans rfl, (blk_cell BK405.out 3).trans rfl, (blk_cell BK405.out 4).trans rfl, (blk_cell BK405.out 5).trans rfl, (blk_cell BK406.out 0).trans rfl, (blk_cell BK406.out 1).trans rfl, (blk_cell BK406.out 2).trans rfl, (blk_cell BK407.out 0).trans rfl, (blk_cell BK407.out 1).trans rfl, (blk_cell BK407.out 2).trans rfl, (hc_ HB hw408_0), (hc_ HB hw408_1), (hc_ HB hw409_0), (hc_ HB hw409_1)⟩ (fun hHeld => ?_)
             clear hK K
             refine no_ 9 ?_
             refine on_ 13 (some 10) HT_ (fun K hK => ?_)
             refine box_step ?hg (N := 10) ?hd (cs := #[.int .i64 0, .int .i64 0]) (t := 52) ?hr ?_; (case hd => rfl); (case hg => rfl); (case hr => first | (go_simp; done) | (go_simp; rfl))
             intro gb411 hg w15 hbox hb
             have n0_ := Aside0.mk (blk_below (K_ BK405) hb)
             have n1_ := Aside0.mk (blk_below (K_ BK406) hb)
             have n2_ := Aside0.mk (blk_below (K_ BK407) hb)
             have n3_ := Aside0.mk (blk_below (K_ BK410) hb)
             have n4_ := Aside0.mk (below_step bl_ hb)
             have n5_ := Aside0.mk (hbox)
             have n6_ := Aside0.mk (gl_ (w := w) hg)
             have n7_ := Aside0.mk (gl_ (w := w) hg)
             have n8_ := Aside0.mk (nl_ hg (K_ BK405))
             have n9_ := Aside0.mk (ng_ hg (K_ BK405))
             have n10_ := Aside0.mk (nl_ hg (K_ BK406))
             have n11_ := Aside0.mk (ng_ hg (K_ BK406))
             have n12_ := Aside0.mk (nl_ hg (K_ BK407))
             have n13_ := Aside0.mk (ng_ hg (K_ BK407))
             have n14_ := Aside0.mk (nl_ hg (K_ BK410))
             have n15_ := Aside0.mk (ng_ hg (K_ BK410))
             clear BK405
             clear BK406
             clear BK407
             clear BK410
             clear HB
             have BK405 := n0_
             have BK406 := n1_
             have BK407 := n2_
             have BK410 := n3_
             have HB := n4_
             have BK411 := n5_
             have GW411 := n6_
             have GE411 := n7_
             have NB405_411 := n8_
             have NB411_405 := n9_
             have NB406_411 := n10_
             have NB411_406 := n11_
             have NB407_411 := n12_
             have NB411_407 := n13_
             have NB410_411 := n14_
             have NB411_410 := n15_
             clear n0_ n1_ n2_ n3_ n4_ n5_ n6_ n7_ n8_ n9_ n10_ n11_ n12_ n13_ n14_ n15_
             clear hb hbox hg
             refine hK.out _ _ ⟨(blk_cell BK405.out 0).trans rfl, (blk_cell BK405.out 1).trans rfl, (blk_cell BK405.out 2).trans rfl, (blk_cell BK405.out 3).trans rfl, (blk_cell BK405.out 4).trans rfl, (blk_cell BK405.out 5).trans rfl, (blk_cell BK406.out 0).trans rfl, (blk_cell BK406.out 1).trans rfl, (blk_cell BK406.out 2).trans rfl, (blk_cell BK407.out 0).trans rfl, (blk_cell BK407.out 1).trans rfl, (blk_cell BK407.out 2).trans rfl, (hc_ HB hw408_0), (hc_ HB hw408_1), (hc_ HB hw409_0), (hc_ HB hw409_1)⟩ (fun hHeld => ?_)
             clear hK K
             refine no_ 10 ?_
             exact norm_ (by simp only [putAll, Act.put, List.setIfInBounds_toArray, List.set_cons_zero, List.set_cons_succ]) (hCont (gb410, gb411) _ ⟨hHeld, (K_ BK405), (K_ BK406), (K_ BK407), (K_ BK410), (K_ BK411), GW410.out, GE410.out, NB405_410.out, NB410_405.out, NB406_410.out, NB410_406.out, NB407_410.out, NB410_407.out, NB411_410.out, NB410_411.out, GW411.out, GE411.out, NB405_411.out, NB411_405.out, NB406_411.out, NB411_406.out, NB407_411.out, NB411_407.out, bl_⟩)
           skip
           refine box_step ?hg (N := 10) ?hd (cs := #[.int .i64 0, .int .i64 0]) (t := 52) ?hr ?_; (case hd => rfl); (case hg => rfl); (case hr => first | (go_simp; done) | (go_simp; rfl))
           intro gb411 hg w14 hbox hb
           have n0_ := Aside0.mk (blk_below (K_ BK405) hb)
           have n1_ := Aside0.mk (blk_below (K_ BK406) hb)
           have n2_ := Aside0.mk (blk_below (K_ BK407) hb)
           have n3_ := Aside0.mk (below_step bl_ hb)
           have n4_ := Aside0.mk (hbox)
           have n5_ := Aside0.mk (gl_ (w := w) hg)
           have n6_ := Aside0.mk (gl_ (w := w) hg)
           have n7_ := Aside0.mk (nl_ hg (K_ BK405))
           have n8_ := Aside0.mk (ng_ hg (K_ BK405))
           have n9_ := Aside0.mk (nl_ hg (K_ BK406))
           have n10_ := Aside0.mk (ng_ hg (K_ BK406))
           have n11_ := Aside0.mk (nl_ hg (K_ BK407))
           have n12_ := Aside0.mk (ng_ hg (K_ BK407))
           clear BK405
           clear BK406
           clear BK407
           clear HB
           have BK405 := n0_
           have BK406 := n1_
           have BK407 := n2_
           have HB := n3_
           have BK411 := n4_
           have GW411 := n5_
           have GE411 := n6_
           have NB405_411 := n7_
           have NB411_405 := n8_
           have NB406_411 := n9_
           have NB411_406 := n10_
           have NB407_411 := n11_
           have NB411_407 := n12_
           clear n0_ n1_ n2_ n3_ n4_ n5_ n6_ n7_ n8_ n9_ n10_ n11_ n12_
           clear hb hbox hg
           refine hK.out _ _ ⟨(blk_cell BK405.out 0).trans rfl, (blk_cell BK405.out 1).trans rfl, (blk_cell BK405.out 2).trans rfl, (blk_cell BK405.out 3).trans rfl, (blk_cell BK405.out 4).trans rfl, (blk_cell BK405.out 5).trans rfl, (blk_cell BK406.out 0).trans rfl, (blk_cell BK406.out 1).trans rfl, (blk_cell BK406.out 2).trans rfl, (blk_cell BK407.out 0).trans rfl, (blk_cell BK407.out 1).trans rfl, (blk_cell BK407.out 2).trans rfl, (hc_ HB hw408_0), (hc_ HB hw408_1), (hc_ HB hw409_0), (hc_ HB hw409_1)⟩ (fun hHeld => ?_)
           clear hK K
           refine no_ 10 ?_
           refine on_ 12 (some 9) HT_ (fun K hK => ?_)
           refine box_step ?hg (N := 9) ?hd (cs := #[.int .i64 0, .int .i64 0]) (t := 52) ?hr ?_; (case hd => rfl); (case hg => rfl); (case hr => first | (go_simp; done) | (go_simp; rfl))
           intro gb410 hg w15 hbox hb
           have n0_ := Aside0.mk (blk_below (K_ BK405) hb)
           have n1_ := Aside0.mk (blk_below (K_ BK406) hb)
           have n2_ := Aside0.mk (blk_below (K_ BK407) hb)
           have n3_ := Aside0.mk (blk_below (K_ BK411) hb)
           have n4_ := Aside0.mk (below_step bl_ hb)
           have n5_ := Aside0.mk (hbox)
           have n6_ := Aside0.mk (gl_ (w := w) hg)
           have n7_ := Aside0.mk (gl_ (w := w) hg)
           have n8_ := Aside0.mk (nl_ hg (K_ BK405))
           have n9_ := Aside0.mk (ng_ hg (K_ BK405))
           have n10_ := Aside0.mk (nl_ hg (K_ BK406))
           have n11_ := Aside0.mk (ng_ hg (K_ BK406))
           have n12_ := Aside0.mk (nl_ hg (K_ BK407))
           have n13_ := Aside0.mk (ng_ hg (K_ BK407))
           have n14_ := Aside0.mk (nl_ hg (K_ BK411))
           have n15_ := Aside0.mk (ng_ hg (K_ BK411))
           clear BK405
           clear BK406
           clear BK407
           clear BK411
           clear HB
           have BK405 := n0_
           have BK406 := n1_
           have BK407 := n2_
           have BK411 := n3_
           have HB := n4_
           have BK410 := n5_
           have GW410 := n6_
           have GE410 := n7_
           have NB405_410 := n8_
           have NB410_405 := n9_
           have NB406_410 := n10_
           have NB410_406 := n11_
           have NB407_410 := n12_
           have NB410_407 := n13_
           have NB411_410 := n14_
           have NB410_411 := n15_
           clear n0_ n1_ n2_ n3_ n4_ n5_ n6_ n7_ n8_ n9_ n10_ n11_ n12_ n13_ n14_ n15_
           clear hb hbox hg
           refine hK.out _ _ ⟨(blk_cell BK405.out 0).trans rfl, (blk_cell BK405.out 1).trans rfl, (blk_cell BK405.out 2).trans rfl, (blk_cell BK405.out 3).trans rfl, (blk_cell BK405.out 4).trans rfl, (blk_cell BK405.out 5).trans rfl, (blk_cell BK406.out 0).trans rfl, (blk_cell BK406.out 1).trans rfl, (blk_cell BK406.out 2).trans rfl, (blk_cell BK407.out 0).trans rfl, (blk_cell BK407.out 1).trans rfl, (blk_cell BK407.out 2).trans rfl, (hc_ HB hw408_0), (hc_ HB hw408_1), (hc_ HB hw409_0), (hc_ HB hw409_1)⟩ (fun hHeld => ?_)
           clear hK K
           refine no_ 9 ?_
           exact norm_ (by simp only [putAll, Act.put, List.setIfInBounds_toArray, List.set_cons_zero, List.set_cons_succ]) (hCont (gb410, gb411) _ ⟨hHeld, (K_ BK405), (K_ BK406), (K_ BK407), (K_ BK410), (K_ BK411), GW410.out, GE410.out, NB405_410.out, NB410_405.out, NB406_410.out, NB410_406.out, NB407_410.out, NB410_407.out, NB411_410.out, NB410_411.out, GW411.out, GE411.out, NB405_411.out, NB411_405.out, NB406_411.out, NB411_406.out, NB407_411.out, NB411_407.out, bl_⟩)
         rintro ⟨gb410, gb411⟩ w16 ⟨hS_, h0_, h1_, h2_, h3_, h4_, h5_, h6_, h7_, h8_, h9_, h10_, h11_, h12_, h13_, h14_, h15_, h16_, h17_, h18_, h19_, h20_, h21_, h22_, h23_⟩
         have n0_ : Aside0 (w16.heap[gb405]? = some (.cells #[.int .i64 a0_0, .int .i64 a0_1, .bool a0_2, .slice A0_3 l0_3.length c0_3, .slice A0_4 l0_4.length c0_4, .slice (some ad408) l0_5.length c0_5] 26 (0, 0))) := ⟨h0_⟩
         have n1_ : Aside0 (w16.heap[gb406]? = some (.cells #[.int .i64 a2_0, .int .i64 a2_1, .int .i64 a2_2] 44 (0, 0))) := ⟨h1_⟩
         have n2_ : Aside0 (w16.heap[gb407]? = some (.cells #[.int .i64 a3_0, .int .i64 a3_1, .int .i64 a3_2] 44 (0, 0))) := ⟨h2_⟩
         have n3_ : Aside0 (w16.heap[gb410]? = some (.cells #[.int .i64 0, .int .i64 0] 52 (0, 0))) := ⟨h3_⟩
         have n4_ : Aside0 (w16.heap[gb411]? = some (.cells #[.int .i64 0, .int .i64 0] 52 (0, 0))) := ⟨h4_⟩
         have n5_ : Aside0 (w.heap.size ≤ gb410) := ⟨h5_⟩
         have n6_ : Aside0 (w.heap.size ≤ gb410) := ⟨h6_⟩
         have n7_ : Aside0 (gb405 ≠ gb410) := ⟨h7_⟩
         have n8_ : Aside0 (gb410 ≠ gb405) := ⟨h8_⟩
         have n9_ : Aside0 (gb406 ≠ gb410) := ⟨h9_⟩
         have n10_ : Aside0 (gb410 ≠ gb406) := ⟨h10_⟩
         have n11_ : Aside0 (gb407 ≠ gb410) := ⟨h11_⟩
         have n12_ : Aside0 (gb410 ≠ gb407) := ⟨h12_⟩
         have n13_ : Aside0 (gb411 ≠ gb410) := ⟨h13_⟩
         have n14_ : Aside0 (gb410 ≠ gb411) := ⟨h14_⟩
         have n15_ : Aside0 (w.heap.size ≤ gb411) := ⟨h15_⟩
         have n16_ : Aside0 (w.heap.size ≤ gb411) := ⟨h16_⟩
         have n17_ : Aside0 (gb405 ≠ gb411) := ⟨h17_⟩
         have n18_ : Aside0 (gb411 ≠ gb405) := ⟨h18_⟩
         have n19_ : Aside0 (gb406 ≠ gb411) := ⟨h19_⟩
         have n20_ : Aside0 (gb411 ≠ gb406) := ⟨h20_⟩
         have n21_ : Aside0 (gb407 ≠ gb411) := ⟨h21_⟩
         have n22_ : Aside0 (gb411 ≠ gb407) := ⟨h22_⟩
         have n23_ : Aside0 (Below w.heap.size w w16) := ⟨h23_⟩
         clear BK405
         clear BK406
         clear BK407
         clear HB
         clear h0_ h1_ h2_ h3_ h4_ h5_ h6_ h7_ h8_ h9_ h10_ h11_ h12_ h13_ h14_ h15_ h16_ h17_ h18_ h19_ h20_ h21_ h22_ h23_
         have BK405 := n0_
         have BK406 := n1_
         have BK407 := n2_
         have BK410 := n3_
         have BK411 := n4_
         have GW410 := n5_
         have GE410 := n6_
         have NB405_410 := n7_
         have NB410_405 := n8_
         have NB406_410 := n9_
         have NB410_406 := n10_
         have NB407_410 := n11_
         have NB410_407 := n12_
         have NB411_410 := n13_
         have NB410_411 := n14_
         have GW411 := n15_
         have GE411 := n16_
         have NB405_411 := n17_
         have NB411_405 := n18_
         have NB406_411 := n19_
         have NB411_406 := n20_
         have NB407_411 := n21_
         have NB411_407 := n22_
         have HB := n23_
         clear n0_ n1_ n2_ n3_ n4_ n5_ n6_ n7_ n8_ n9_ n10_ n11_ n12_ n13_ n14_ n15_ n16_ n17_ n18_ n19_ n20_ n21_ n22_ n23_
         have hHeld : w16.cell? ⟨gb405, 0, none⟩ = some (.int .i64 a0_0) ∧ w16.cell? ⟨gb405, 1, none⟩ = some (.int .i64 a0_1) ∧ w16.cell? ⟨gb405, 2, none⟩ = some (.bool a0_2) ∧ w16.cell? ⟨gb405, 3, none⟩ = some (.slice A0_3 l0_3.length c0_3) ∧ w16.cell? ⟨gb405, 4, none⟩ = some (.slice A0_4 l0_4.length c0_4) ∧ w16.cell? ⟨gb405, 5, none⟩ = some (.slice (some ad408) l0_5.length c0_5) ∧ w16.cell? ⟨gb406, 0, none⟩ = some (.int .i64 a2_0) ∧ w16.cell? ⟨gb406, 1, none⟩ = some (.int .i64 a2_1) ∧ w16.cell? ⟨gb406, 2, none⟩ = some (.int .i64 a2_2) ∧ w16.cell? ⟨gb407, 0, none⟩ = some (.int .i64 a3_0) ∧ w16.cell? ⟨gb407, 1, none⟩ = some (.int .i64 a3_1) ∧ w16.cell? ⟨gb407, 2, none⟩ = some (.int .i64 a3_2) ∧ w16.cell? (ad408.add ((a2_0).toNat * 2)) = some (.int .i64 ((rd_T52 l0_5 a2_0).f0)) ∧ w16.cell? ⟨(ad408.add ((a2_0).toNat * 2)).block, (ad408.add ((a2_0).toNat * 2)).off + 1, none⟩ = some (.int .i64 ((rd_T52 l0_5 a2_0).f1)) ∧ w16.cell? (ad408.add ((a3_0).toNat * 2)) = some (.int .i64 ((rd_T52 l0_5 a3_0).f0)) ∧ w16.cell? ⟨(ad408.add ((a3_0).toNat * 2)).block, (ad408.add ((a3_0).toNat * 2)).off + 1, none⟩ = some (.int .i64 ((rd_T52 l0_5 a3_0).f1)) := hS_
         refine norm_ (a' := ?_) ?_ ?_
         rotate_left
         · simp only [putAll, Act.put, List.setIfInBounds_toArray, List.set_cons_zero, List.set_cons_succ]
           rfl
         refine on_ 14 none HT_ (fun K hK => ?_)
         have hs17 : w16.cell? ⟨gb410, 0, none⟩ = some (.int .i64 0) := (blk_cell BK410.out 0).trans rfl
         have hfs17 := blk_frozen BK410.out 0
         have hns17_0 := NB405_410.out
         have hns17_1 := NB406_410.out
         have hns17_2 := NB407_410.out
         have hns17_4 := NB411_410.out
         have hms17_0 := NB410_405.out
         have hms17_1 := NB410_406.out
         have hms17_2 := NB410_407.out
         have hms17_4 := NB410_411.out
         have hs18 : w16.cell? ⟨gb410, 1, none⟩ = some (.int .i64 0) := (blk_cell BK410.out 1).trans rfl
         have hfs18 := blk_frozen BK410.out 1
         have hns18_0 := NB405_410.out
         have hns18_1 := NB406_410.out
         have hns18_2 := NB407_410.out
         have hns18_4 := NB411_410.out
         have hms18_0 := NB410_405.out
         have hms18_1 := NB410_406.out
         have hms18_2 := NB410_407.out
         have hms18_4 := NB410_411.out
         refine skip_ (w1 := ?_) (by rfl) rfl ?_ ?_
         rotate_left
         · go_simp
           rfl
         refine hK.out _ _ ⟨((cell_far (p := ⟨gb410, _, none⟩) NB405_410.out _).trans (((cell_far (p := ⟨gb410, _, none⟩) NB405_410.out _).trans (hHeld.1)))), ((cell_far (p := ⟨gb410, _, none⟩) NB405_410.out _).trans (((cell_far (p := ⟨gb410, _, none⟩) NB405_410.out _).trans (hHeld.2.1)))), ((cell_far (p := ⟨gb410, _, none⟩) NB405_410.out _).trans (((cell_far (p := ⟨gb410, _, none⟩) NB405_410.out _).trans (hHeld.2.2.1)))), ((cell_far (p := ⟨gb410, _, none⟩) NB405_410.out _).trans (((cell_far (p := ⟨gb410, _, none⟩) NB405_410.out _).trans (hHeld.2.2.2.1)))), ((cell_far (p := ⟨gb410, _, none⟩) NB405_410.out _).trans (((cell_far (p := ⟨gb410, _, none⟩) NB405_410.out _).trans (hHeld.2.2.2.2.1)))), ((cell_far (p := ⟨gb410, _, none⟩) NB405_410.out _).trans (((cell_far (p := ⟨gb410, _, none⟩) NB405_410.out _).trans (hHeld.2.2.2.2.2.1)))), ((cell_far (p := ⟨gb410, _, none⟩) NB406_410.out _).trans (((cell_far (p := ⟨gb410, _, none⟩) NB406_410.out _).trans (hHeld.2.2.2.2.2.2.1)))), ((cell_far (p := ⟨gb410, _, none⟩) NB406_410.out _).trans (((cell_far (p := ⟨gb410, _, none⟩) NB406_410.out _).trans (hHeld.2.2.2.2.2.2.2.1)))), ((cell_far (p := ⟨gb410, _, none⟩) NB406_410.out _).trans (((cell_far (p := ⟨gb410, _, none⟩) NB406_410.out _).trans (hHeld.2.2.2.2.2.2.2.2.1)))), ((cell_far (p := ⟨gb410, _, none⟩) NB407_410.out _).trans (((cell_far (p := ⟨gb410, _, none⟩) NB407_410.out _).trans (hHeld.2.2.2.2.2.2.2.2.2.1)))), ((cell_far (p := ⟨gb410, _, none⟩) NB407_410.out _).trans (((cell_far (p := ⟨gb410, _, none⟩) NB407_410.out _).trans (hHeld.2.2.2.2.2.2.2.2.2.2.1)))), ((cell_far (p := ⟨gb410, _, none⟩) NB407_410.out _).trans (((cell_far (p := ⟨gb410, _, none⟩) NB407_410.out _).trans (hHeld.2.2.2.2.2.2.2.2.2.2.2.1)))), ((cell_far (p := ⟨gb410, _, none⟩) (by first | exact Nat.ne_of_lt (Nat.lt_of_lt_of_le (by have := World.block_lt_of_cell? _ _ hw408_0; first | rwa [add_block] at this | exact this) GW410.out) | (rw [add_block]; exact Nat.ne_of_lt (Nat.lt_of_lt_of_le (by have := World.block_lt_of_cell? _ _ hw408_0; first | rwa [add_block] at this | exact this) GW410.out)) | (show (Addr.add _ _).block ≠ _; rw [add_block]; exact Nat.ne_of_lt (Nat.lt_of_lt_of_le (by have := World.block_lt_of_cell? _ _ hw408_0; first | rwa [add_block] at this | exact this) GW410.out)) | (dsimp only; exact Nat.ne_of_lt (Nat.lt_of_lt_of_le (by have := World.block_lt_of_cell? _ _ hw408_0; first | rwa [add_block] at this | exact this) GW410.out))) _).trans (((cell_far (p := ⟨gb410, _, none⟩) (by first | exact Nat.ne_of_lt (Nat.lt_of_lt_of_le (by have := World.block_lt_of_cell? _ _ hw408_0; first | rwa [add_block] at this | exact this) GW410.out) | (rw [add_block]; exact Nat.ne_of_lt (Nat.lt_of_lt_of_le (by have := World.block_lt_of_cell? _ _ hw408_0; first | rwa [add_block] at this | exact this) GW410.out)) | (show (Addr.add _ _).block ≠ _; rw [add_block]; exact Nat.ne_of_lt (Nat.lt_of_lt_of_le (by have := World.block_lt_of_cell? _ _ hw408_0; first | rwa [add_block] at this | exact this) GW410.out)) | (dsimp only; exact Nat.ne_of_lt (Nat.lt_of_lt_of_le (by have := World.block_lt_of_cell? _ _ hw408_0; first | rwa [add_block] at this | exact this) GW410.out))) _).trans (hHeld.2.2.2.2.2.2.2.2.2.2.2.2.1)))), ((cell_far (p := ⟨gb410, _, none⟩) (by first | exact Nat.ne_of_lt (Nat.lt_of_lt_of_le (by have := World.block_lt_of_cell? _ _ hw408_1; first | rwa [add_block] at this | exact this) GW410.out) | (rw [add_block]; exact Nat.ne_of_lt (Nat.lt_of_lt_of_le (by have := World.block_lt_of_cell? _ _ hw408_1; first | rwa [add_block] at this | exact this) GW410.out)) | (show (Addr.add _ _).block ≠ _; rw [add_block]; exact Nat.ne_of_lt (Nat.lt_of_lt_of_le (by have := World.block_lt_of_cell? _ _ hw408_1; first | rwa [add_block] at this | exact this) GW410.out)) | (dsimp only; exact Nat.ne_of_lt (Nat.lt_of_lt_of_le (by have := World.block_lt_of_cell? _ _ hw408_1; first | rwa [add_block] at this | exact this) GW410.out))) _).trans (((cell_far (p := ⟨gb410, _, none⟩) (by first | exact Nat.ne_of_lt (Nat.lt_of_lt_of_le (by have := World.block_lt_of_cell? _ _ hw408_1; first | rwa [add_block] at this | exact this) GW410.out) | (rw [add_block]; exact Nat.ne_of_lt (Nat.lt_of_lt_of_le (by have := World.block_lt_of_cell? _ _ hw408_1; first | rwa [add_block] at this | exact this) GW410.out)) | (show (Addr.add _ _).block ≠ _; rw [add_block]; exact Nat.ne_of_lt (Nat.lt_of_lt_of_le (by have := World.block_lt_of_cell? _ _ hw408_1; first | rwa [add_block] at this | exact this) GW410.out)) | (dsimp only; exact Nat.ne_of_lt (Nat.lt_of_lt_of_le (by have := World.block_lt_of_cell? _ _ hw408_1; first | rwa [add_block] at this | exact this) GW410.out))) _).trans (hHeld.2.2.2.2.2.2.2.2.2.2.2.2.2.1)))), ((cell_far (p := ⟨gb410, _, none⟩) (by first | exact Nat.ne_of_lt (Nat.lt_of_lt_of_le (by have := World.block_lt_of_cell? _ _ hw409_0; first | rwa [add_block] at this | exact this) GW410.out) | (rw [add_block]; exact Nat.ne_of_lt (Nat.lt_of_lt_of_le (by have := World.block_lt_of_cell? _ _ hw409_0; first | rwa [add_block] at this | exact this) GW410.out)) | (show (Addr.add _ _).block ≠ _; rw [add_block]; exact Nat.ne_of_lt (Nat.lt_of_lt_of_le (by have := World.block_lt_of_cell? _ _ hw409_0; first | rwa [add_block] at this | exact this) GW410.out)) | (dsimp only; exact Nat.ne_of_lt (Nat.lt_of_lt_of_le (by have := World.block_lt_of_cell? _ _ hw409_0; first | rwa [add_block] at this | exact this) GW410.out))) _).trans (((cell_far (p := ⟨gb410, _, none⟩) (by first | exact Nat.ne_of_lt (Nat.lt_of_lt_of_le (by have := World.block_lt_of_cell? _ _ hw409_0; first | rwa [add_block] at this | exact this) GW410.out) | (rw [add_block]; exact Nat.ne_of_lt (Nat.lt_of_lt_of_le (by have := World.block_lt_of_cell? _ _ hw409_0; first | rwa [add_block] at this | exact this) GW410.out)) | (show (Addr.add _ _).block ≠ _; rw [add_block]; exact Nat.ne_of_lt (Nat.lt_of_lt_of_le (by have := World.block_lt_of_cell? _ _ hw409_0; first | rwa [add_block] at this | exact this) GW410.out)) | (dsimp only; exact Nat.ne_of_lt (Nat.lt_of_lt_of_le (by have := World.block_lt_of_cell? _ _ hw409_0; first | rwa [add_block] at this | exact this) GW410.out))) _).trans (hHeld.2.2.2.2.2.2.2.2.2.2.2.2.2.2.1)))), ((cell_far (p := ⟨gb410, _, none⟩) (by first | exact Nat.ne_of_lt (Nat.lt_of_lt_of_le (by have := World.block_lt_of_cell? _ _ hw409_1; first | rwa [add_block] at this | exact this) GW410.out) | (rw [add_block]; exact Nat.ne_of_lt (Nat.lt_of_lt_of_le (by have := World.block_lt_of_cell? _ _ hw409_1; first | rwa [add_block] at this | exact this) GW410.out)) | (show (Addr.add _ _).block ≠ _; rw [add_block]; exact Nat.ne_of_lt (Nat.lt_of_lt_of_le (by have := World.block_lt_of_cell? _ _ hw409_1; first | rwa [add_block] at this | exact this) GW410.out)) | (dsimp only; exact Nat.ne_of_lt (Nat.lt_of_lt_of_le (by have := World.block_lt_of_cell? _ _ hw409_1; first | rwa [add_block] at this | exact this) GW410.out))) _).trans (((cell_far (p := ⟨gb410, _, none⟩) (by first | exact Nat.ne_of_lt (Nat.lt_of_lt_of_le (by have := World.block_lt_of_cell? _ _ hw409_1; first | rwa [add_block] at this | exact this) GW410.out) | (rw [add_block]; exact Nat.ne_of_lt (Nat.lt_of_lt_of_le (by have := World.block_lt_of_cell? _ _ hw409_1; first | rwa [add_block] at this | exact this) GW410.out)) | (show (Addr.add _ _).block ≠ _; rw [add_block]; exact Nat.ne_of_lt (Nat.lt_of_lt_of_le (by have := World.block_lt_of_cell? _ _ hw409_1; first | rwa [add_block] at this | exact this) GW410.out)) | (dsimp only; exact Nat.ne_of_lt (Nat.lt_of_lt_of_le (by have := World.block_lt_of_cell? _ _ hw409_1; first | rwa [add_block] at this | exact this) GW410.out))) _).trans (hHeld.2.2.2.2.2.2.2.2.2.2.2.2.2.2.2))))⟩ (fun hHeld => ?_)
         clear hK K
         refine on_ 15 none HT_ (fun K hK => ?_)
         have hs19 : w16.cell? ⟨gb411, 0, none⟩ = some (.int .i64 0) := (blk_cell BK411.out 0).trans rfl
         have hfs19 := blk_frozen BK411.out 0
         have hns19_0 := NB405_411.out
         have hns19_1 := NB406_411.out
         have hns19_2 := NB407_411.out
         have hns19_3 := NB410_411.out
         have hms19_0 := NB411_405.out
         have hms19_1 := NB411_406.out
         have hms19_2 := NB411_407.out
         have hms19_3 := NB411_410.out
         have hs20 : w16.cell? ⟨gb411, 1, none⟩ = some (.int .i64 0) := (blk_cell BK411.out 1).trans rfl
         have hfs20 := blk_frozen BK411.out 1
         have hns20_0 := NB405_411.out
         have hns20_1 := NB406_411.out
         have hns20_2 := NB407_411.out
         have hns20_3 := NB410_411.out
         have hms20_0 := NB411_405.out
         have hms20_1 := NB411_406.out
         have hms20_2 := NB411_407.out
         have hms20_3 := NB411_410.out
         refine skip_ (w1 := ?_) (by rfl) rfl ?_ ?_
         rotate_left
         · go_simp
           rfl
         refine hK.out _ _ ⟨((cell_far (p := ⟨gb411, _, none⟩) NB405_411.out _).trans (((cell_far (p := ⟨gb411, _, none⟩) NB405_411.out _).trans (hHeld.1)))), ((cell_far (p := ⟨gb411, _, none⟩) NB405_411.out _).trans (((cell_far (p := ⟨gb411, _, none⟩) NB405_411.out _).trans (hHeld.2.1)))), ((cell_far (p := ⟨gb411, _, none⟩) NB405_411.out _).trans (((cell_far (p := ⟨gb411, _, none⟩) NB405_411.out _).trans (hHeld.2.2.1)))), ((cell_far (p := ⟨gb411, _, none⟩) NB405_411.out _).trans (((cell_far (p := ⟨gb411, _, none⟩) NB405_411.out _).trans (hHeld.2.2.2.1)))), ((cell_far (p := ⟨gb411, _, none⟩) NB405_411.out _).trans (((cell_far (p := ⟨gb411, _, none⟩) NB405_411.out _).trans (hHeld.2.2.2.2.1)))), ((cell_far (p := ⟨gb411, _, none⟩) NB405_411.out _).trans (((cell_far (p := ⟨gb411, _, none⟩) NB405_411.out _).trans (hHeld.2.2.2.2.2.1)))), ((cell_far (p := ⟨gb411, _, none⟩) NB406_411.out _).trans (((cell_far (p := ⟨gb411, _, none⟩) NB406_411.out _).trans (hHeld.2.2.2.2.2.2.1)))), ((cell_far (p := ⟨gb411, _, none⟩) NB406_411.out _).trans (((cell_far (p := ⟨gb411, _, none⟩) NB406_411.out _).trans (hHeld.2.2.2.2.2.2.2.1)))), ((cell_far (p := ⟨gb411, _, none⟩) NB406_411.out _).trans (((cell_far (p := ⟨gb411, _, none⟩) NB406_411.out _).trans (hHeld.2.2.2.2.2.2.2.2.1)))), ((cell_far (p := ⟨gb411, _, none⟩) NB407_411.out _).trans (((cell_far (p := ⟨gb411, _, none⟩) NB407_411.out _).trans (hHeld.2.2.2.2.2.2.2.2.2.1)))), ((cell_far (p := ⟨gb411, _, none⟩) NB407_411.out _).trans (((cell_far (p := ⟨gb411, _, none⟩) NB407_411.out _).trans (hHeld.2.2.2.2.2.2.2.2.2.2.1)))), ((cell_far (p := ⟨gb411, _, none⟩) NB407_411.out _).trans (((cell_far (p := ⟨gb411, _, none⟩) NB407_411.out _).trans (hHeld.2.2.2.2.2.2.2.2.2.2.2.1)))), ((cell_far (p := ⟨gb411, _, none⟩) (by first | exact Nat.ne_of_lt (Nat.lt_of_lt_of_le (by have := World.block_lt_of_cell? _ _ hw408_0; first | rwa [add_block] at this | exact this) GW411.out) | (rw [add_block]; exact Nat.ne_of_lt (Nat.lt_of_lt_of_le (by have := World.block_lt_of_cell? _ _ hw408_0; first | rwa [add_block] at this | exact this) GW411.out)) | (show (Addr.add _ _).block ≠ _; rw [add_block]; exact Nat.ne_of_lt (Nat.lt_of_lt_of_le (by have := World.block_lt_of_cell? _ _ hw408_0; first | rwa [add_block] at this | exact this) GW411.out)) | (dsimp only; exact Nat.ne_of_lt (Nat.lt_of_lt_of_le (by have := World.block_lt_of_cell? _ _ hw408_0; first | rwa [add_block] at this | exact this) GW411.out))) _).trans (((cell_far (p := ⟨gb411, _, none⟩) (by first | exact Nat.ne_of_lt (Nat.lt_of_lt_of_le (by have := World.block_lt_of_cell? _ _ hw408_0; first | rwa [add_block] at this | exact this) GW411.out) | (rw [add_block]; exact Nat.ne_of_lt (Nat.lt_of_lt_of_le (by have := World.block_lt_of_cell? _ _ hw408_0; first | rwa [add_block] at this | exact this) GW411.out)) | (show (Addr.add _ _).block ≠ _; rw [add_block]; exact Nat.ne_of_lt (Nat.lt_of_lt_of_le (by have := World.block_lt_of_cell? _ _ hw408_0; first | rwa [add_block] at this | exact this) GW411.out)) | (dsimp only; exact Nat.ne_of_lt (Nat.lt_of_lt_of_le (by have := World.block_lt_of_cell? _ _ hw408_0; first | rwa [add_block] at this | exact this) GW411.out))) _).trans (hHeld.2.2.2.2.2.2.2.2.2.2.2.2.1)))), ((cell_far (p := ⟨gb411, _, none⟩) (by first | exact Nat.ne_of_lt (Nat.lt_of_lt_of_le (by have := World.block_lt_of_cell? _ _ hw408_1; first | rwa [add_block] at this | exact this) GW411.out) | (rw [add_block]; exact Nat.ne_of_lt (Nat.lt_of_lt_of_le (by have := World.block_lt_of_cell? _ _ hw408_1; first | rwa [add_block] at this | exact this) GW411.out)) | (show (Addr.add _ _).block ≠ _; rw [add_block]; exact Nat.ne_of_lt (Nat.lt_of_lt_of_le (by have := World.block_lt_of_cell? _ _ hw408_1; first | rwa [add_block] at this | exact this) GW411.out)) | (dsimp only; exact Nat.ne_of_lt (Nat.lt_of_lt_of_le (by have := World.block_lt_of_cell? _ _ hw408_1; first | rwa [add_block] at this | exact this) GW411.out))) _).trans (((cell_far (p := ⟨gb411, _, none⟩) (by first | exact Nat.ne_of_lt (Nat.lt_of_lt_of_le (by have := World.block_lt_of_cell? _ _ hw408_1; first | rwa [add_block] at this | exact this) GW411.out) | (rw [add_block]; exact Nat.ne_of_lt (Nat.lt_of_lt_of_le (by have := World.block_lt_of_cell? _ _ hw408_1; first | rwa [add_block] at this | exact this) GW411.out)) | (show (Addr.add _ _).block ≠ _; rw [add_block]; exact Nat.ne_of_lt (Nat.lt_of_lt_of_le (by have := World.block_lt_of_cell? _ _ hw408_1; first | rwa [add_block] at this | exact this) GW411.out)) | (dsimp only; exact Nat.ne_of_lt (Nat.lt_of_lt_of_le (by have := World.block_lt_of_cell? _ _ hw408_1; first | rwa [add_block] at this | exact this) GW411.out))) _).trans (hHeld.2.2.2.2.2.2.2.2.2.2.2.2.2.1)))), ((cell_far (p := ⟨gb411, _, none⟩) (by first | exact Nat.ne_of_lt (Nat.lt_of_lt_of_le (by have := World.block_lt_of_cell? _ _ hw409_0; first | rwa [add_block] at this | exact this) GW411.out) | (rw [add_block]; exact Nat.ne_of_lt (Nat.lt_of_lt_of_le (by have := World.block_lt_of_cell? _ _ hw409_0; first | rwa [add_block] at this | exact this) GW411.out)) | (show (Addr.add _ _).block ≠ _; rw [add_block]; exact Nat.ne_of_lt (Nat.lt_of_lt_of_le (by have := World.block_lt_of_cell? _ _ hw409_0; first | rwa [add_block] at this | exact this) GW411.out)) | (dsimp only; exact Nat.ne_of_lt (Nat.lt_of_lt_of_le (by have := World.block_lt_of_cell? _ _ hw409_0; first | rwa [add_block] at this | exact this) GW411.out))) _).trans (((cell_far (p := ⟨gb411, _, none⟩) (by first | exact Nat.ne_of_lt (Nat.lt_of_lt_of_le (by have := World.block_lt_of_cell? _ _ hw409_0; first | rwa [add_block] at this | exact this) GW411.out) | (rw [add_block]; exact Nat.ne_of_lt (Nat.lt_of_lt_of_le (by have := World.block_lt_of_cell? _ _ hw409_0; first | rwa [add_block] at this | exact this) GW411.out)) | (show (Addr.add _ _).block ≠ _; rw [add_block]; exact Nat.ne_of_lt (Nat.lt_of_lt_of_le (by have := World.block_lt_of_cell? _ _ hw409_0; first | rwa [add_block] at this | exact this) GW411.out)) | (dsimp only; exact Nat.ne_of_lt (Nat.lt_of_lt_of_le (by have := World.block_lt_of_cell? _ _ hw409_0; first | rwa [add_block] at this | exact this) GW411.out))) _).trans (hHeld.2.2.2.2.2.2.2.2.2.2.2.2.2.2.1)))), ((cell_far (p := ⟨gb411, _, none⟩) (by first | exact Nat.ne_of_lt (Nat.lt_of_lt_of_le (by have := World.block_lt_of_cell? _ _ hw409_1; first | rwa [add_block] at this | exact this) GW411.out) | (rw [add_block]; exact Nat.ne_of_lt (Nat.lt_of_lt_of_le (by have := World.block_lt_of_cell? _ _ hw409_1; first | rwa [add_block] at this | exact this) GW411.out)) | (show (Addr.add _ _).block ≠ _; rw [add_block]; exact Nat.ne_of_lt (Nat.lt_of_lt_of_le (by have := World.block_lt_of_cell? _ _ hw409_1; first | rwa [add_block] at this | exact this) GW411.out)) | (dsimp only; exact Nat.ne_of_lt (Nat.lt_of_lt_of_le (by have := World.block_lt_of_cell? _ _ hw409_1; first | rwa [add_block] at this | exact this) GW411.out))) _).trans (((cell_far (p := ⟨gb411, _, none⟩) (by first | exact Nat.ne_of_lt (Nat.lt_of_lt_of_le (by have := World.block_lt_of_cell? _ _ hw409_1; first | rwa [add_block] at this | exact this) GW411.out) | (rw [add_block]; exact Nat.ne_of_lt (Nat.lt_of_lt_of_le (by have := World.block_lt_of_cell? _ _ hw409_1; first | rwa [add_block] at this | exact this) GW411.out)) | (show (Addr.add _ _).block ≠ _; rw [add_block]; exact Nat.ne_of_lt (Nat.lt_of_lt_of_le (by have := World.block_lt_of_cell? _ _ hw409_1; first | rwa [add_block] at this | exact this) GW411.out)) | (dsimp only; exact Nat.ne_of_lt (Nat.lt_of_lt_of_le (by have := World.block_lt_of_cell? _ _ hw409_1; first | rwa [add_block] at this | exact this) GW411.out))) _).trans (hHeld.2.2.2.2.2.2.2.2.2.2.2.2.2.2.2))))⟩ (fun hHeld => ?_)
         clear hK K
         refine done_ (done_of HT_.out (by kernel_rfl)) ?_
         go_upto_region 2 with (fail)
         go_cut [34] (fun v34 wc => ∃ (kq : Nat) (x34_8 : Bool), v34 = .bool x34_8 ∧ Aside0 (jacquardref33_clash.j0 kq a1 x34_8 a2_0 a2_1 a2_2 a3_0 a3_1 a3_2 ((rd_T52 l0_5 a2_0).f0) ((rd_T52 l0_5 a2_0).f1) ((rd_T52 l0_5 a3_0).f0) ((rd_T52 l0_5 a3_0).f1) = some r) ∧ Aside0 (kq ≤ k) ∧ Aside0 (wc.heap[gb405]? = some (.cells #[.int .i64 a0_0, .int .i64 a0_1, .bool a0_2, (.slice A0_3 l0_3.length c0_3), (.slice A0_4 l0_4.length c0_4), (.slice (some ad408) l0_5.length c0_5)] 26 (0, 0))) ∧ Aside0 (wc.heap[gb406]? = some (.cells #[.int .i64 a2_0, .int .i64 a2_1, .int .i64 a2_2] 44 (0, 0))) ∧ Aside0 (wc.heap[gb407]? = some (.cells #[.int .i64 a3_0, .int .i64 a3_1, .int .i64 a3_2] 44 (0, 0))) ∧ Aside0 (wc.heap[gb410]? = some (.cells #[.int .i64 ((rd_T52 l0_5 a2_0).f0), .int .i64 ((rd_T52 l0_5 a2_0).f1)] 52 (0, 0))) ∧ Aside0 (wc.heap[gb411]? = some (.cells #[.int .i64 ((rd_T52 l0_5 a3_0).f0), .int .i64 ((rd_T52 l0_5 a3_0).f1)] 52 (0, 0))) ∧ Aside0 (Below w.heap.size w wc))
         case first =>
          have H := HC9.out
          clear HC9
          by_cases c21 : ((rd_T52 l0_5 a2_0).f0) = ((rd_T52 l0_5 a3_0).f0)
          · rw [if_pos c21] at H
            have c21b0 : (((rd_T52 l0_5 a2_0).f0) == ((rd_T52 l0_5 a3_0).f0)) = true := beq_iff_eq.mpr c21
            have c21b1 : (((rd_T52 l0_5 a2_0).f0) != ((rd_T52 l0_5 a3_0).f0)) = false := bne_eq_false_iff_eq.mpr c21
            clear c21
            (first | rw [c21b0] | (simp only [i64_w, i32_w]; rw [c21b0]) | skip)
            have H' := Aside0.mk H
            clear H
            obtain ⟨hcz26_0, hcz26_1⟩ := cells2 BK410
            obtain ⟨hcz30_0, hcz30_1⟩ := cells2 BK411
            obtain ⟨hcz33_0, hcz33_1, hcz33_2⟩ := cells3 BK406
            obtain ⟨hcz35_0, hcz35_1, hcz35_2⟩ := cells3 BK407
            go_wp2
            go_meet
            case rel => exact ⟨_, ((a2_2 != a3_2)), (by first | rfl | (simp; done) | (simp [*]; done)), H', ⟨by first | omega | exact Nat.le_refl _⟩, ⟨by (with_reducible repeat (first | refine blk_drewN ?_ _ | refine blk_drew ?_ | refine blk_alloc ?_ _)); refine blk_far ?_ NB405_411.out _; (with_reducible repeat (first | refine blk_drewN ?_ _ | refine blk_drew ?_ | refine blk_alloc ?_ _)); refine blk_far ?_ NB405_411.out _; (with_reducible repeat (first | refine blk_drewN ?_ _ | refine blk_drew ?_ | refine blk_alloc ?_ _)); refine blk_far ?_ NB405_410.out _; (with_reducible repeat (first | refine blk_drewN ?_ _ | refine blk_drew ?_ | refine blk_alloc ?_ _)); refine blk_far ?_ NB405_410.out _; (with_reducible repeat (first | refine blk_drewN ?_ _ | refine blk_drew ?_ | refine blk_alloc ?_ _)); exact BK405.out⟩, ⟨by (with_reducible repeat (first | refine blk_drewN ?_ _ | refine blk_drew ?_ | refine blk_alloc ?_ _)); refine blk_far ?_ NB406_411.out _; (with_reducible repeat (first | refine blk_drewN ?_ _ | refine blk_drew ?_ | refine blk_alloc ?_ _)); refine blk_far ?_ NB406_411.out _; (with_reducible repeat (first | refine blk_drewN ?_ _ | refine blk_drew ?_ | refine blk_alloc ?_ _)); refine blk_far ?_ NB406_410.out _; (with_reducible repeat (first | refine blk_drewN ?_ _ | refine blk_drew ?_ | refine blk_alloc ?_ _)); refine blk_far ?_ NB406_410.out _; (with_reducible repeat (first | refine blk_drewN ?_ _ | refine blk_drew ?_ | refine blk_alloc ?_ _)); exact BK406.out⟩, ⟨by (with_reducible repeat (first | refine blk_drewN ?_ _ | refine blk_drew ?_ | refine blk_alloc ?_ _)); refine blk_far ?_ NB407_411.out _; (with_reducible repeat (first | refine blk_drewN ?_ _ | refine blk_drew ?_ | refine blk_alloc ?_ _)); refine blk_far ?_ NB407_411.out _; (with_reducible repeat (first | refine blk_drewN ?_ _ | refine blk_drew ?_ | refine blk_alloc ?_ _)); refine blk_far ?_ NB407_410.out _; (with_reducible repeat (first | refine blk_drewN ?_ _ | refine blk_drew ?_ | refine blk_alloc ?_ _)); refine blk_far ?_ NB407_410.out _; (with_reducible repeat (first | refine blk_drewN ?_ _ | refine blk_drew ?_ | refine blk_alloc ?_ _)); exact BK407.out⟩, ⟨by (with_reducible repeat (first | refine blk_drewN ?_ _ | refine blk_drew ?_ | refine blk_alloc ?_ _)); refine blk_far ?_ NB410_411.out _; (with_reducible repeat (first | refine blk_drewN ?_ _ | refine blk_drew ?_ | refine blk_alloc ?_ _)); refine blk_far ?_ NB410_411.out _; (with_reducible repeat (first | refine blk_drewN ?_ _ | refine blk_drew ?_ | refine blk_alloc ?_ _)); refine blk_put (cs := #[.int .i64 ((rd_T52 l0_5 a2_0).f0), .int .i64 0]) ?_ 1 _ rfl; (with_reducible repeat (first | refine blk_drewN ?_ _ | refine blk_drew ?_ | refine blk_alloc ?_ _)); refine blk_put (cs := #[.int .i64 0, .int .i64 0]) ?_ 0 _ rfl; (with_reducible repeat (first | refine blk_drewN ?_ _ | refine blk_drew ?_ | refine blk_alloc ?_ _)); exact BK410.out⟩, ⟨by (with_reducible repeat (first | refine blk_drewN ?_ _ | refine blk_drew ?_ | refine blk_alloc ?_ _)); refine blk_put (cs := #[.int .i64 ((rd_T52 l0_5 a3_0).f0), .int .i64 0]) ?_ 1 _ rfl; (with_reducible repeat (first | refine blk_drewN ?_ _ | refine blk_drew ?_ | refine blk_alloc ?_ _)); refine blk_put (cs := #[.int .i64 0, .int .i64 0]) ?_ 0 _ rfl; (with_reducible repeat (first | refine blk_drewN ?_ _ | refine blk_drew ?_ | refine blk_alloc ?_ _)); refine blk_far ?_ NB411_410.out _; (with_reducible repeat (first | refine blk_drewN ?_ _ | refine blk_drew ?_ | refine blk_alloc ?_ _)); refine blk_far ?_ NB411_410.out _; (with_reducible repeat (first | refine blk_drewN ?_ _ | refine blk_drew ?_ | refine blk_alloc ?_ _)); exact BK411.out⟩, ⟨bl_⟩⟩
          rw [if_neg c21] at H
          have c21b0 : (((rd_T52 l0_5 a2_0).f0) == ((rd_T52 l0_5 a3_0).f0)) = false := beq_eq_false_iff_ne.mpr c21
          have c21b1 : (((rd_T52 l0_5 a2_0).f0) != ((rd_T52 l0_5 a3_0).f0)) = true := bne_iff_ne.mpr c21
          (first | rw [c21b0] | (simp only [i64_w, i32_w]; rw [c21b0]) | skip)
          have H' := Aside0.mk H
          clear H
          obtain ⟨hcz40_0, hcz40_1⟩ := cells2 BK410
          obtain ⟨hcz44_0, hcz44_1⟩ := cells2 BK411
          go_wp2
          go_meet
          case rel => exact ⟨_, (true), (by first | rfl | (simp; done) | (simp [*]; done)), H', ⟨by first | omega | exact Nat.le_refl _⟩, ⟨by (with_reducible repeat (first | refine blk_drewN ?_ _ | refine blk_drew ?_ | refine blk_alloc ?_ _)); refine blk_far ?_ NB405_411.out _; (with_reducible repeat (first | refine blk_drewN ?_ _ | refine blk_drew ?_ | refine blk_alloc ?_ _)); refine blk_far ?_ NB405_411.out _; (with_reducible repeat (first | refine blk_drewN ?_ _ | refine blk_drew ?_ | refine blk_alloc ?_ _)); refine blk_far ?_ NB405_410.out _; (with_reducible repeat (first | refine blk_drewN ?_ _ | refine blk_drew ?_ | refine blk_alloc ?_ _)); refine blk_far ?_ NB405_410.out _; (with_reducible repeat (first | refine blk_drewN ?_ _ | refine blk_drew ?_ | refine blk_alloc ?_ _)); exact BK405.out⟩, ⟨by (with_reducible repeat (first | refine blk_drewN ?_ _ | refine blk_drew ?_ | refine blk_alloc ?_ _)); refine blk_far ?_ NB406_411.out _; (with_reducible repeat (first | refine blk_drewN ?_ _ | refine blk_drew ?_ | refine blk_alloc ?_ _)); refine blk_far ?_ NB406_411.out _; (with_reducible repeat (first | refine blk_drewN ?_ _ | refine blk_drew ?_ | refine blk_alloc ?_ _)); refine blk_far ?_ NB406_410.out _; (with_reducible repeat (first | refine blk_drewN ?_ _ | refine blk_drew ?_ | refine blk_alloc ?_ _)); refine blk_far ?_ NB406_410.out _; (with_reducible repeat (first | refine blk_drewN ?_ _ | refine blk_drew ?_ | refine blk_alloc ?_ _)); exact BK406.out⟩, ⟨by (with_reducible repeat (first | refine blk_drewN ?_ _ | refine blk_drew ?_ | refine blk_alloc ?_ _)); refine blk_far ?_ NB407_411.out _; (with_reducible repeat (first | refine blk_drewN ?_ _ | refine blk_drew ?_ | refine blk_alloc ?_ _)); refine blk_far ?_ NB407_411.out _; (with_reducible repeat (first | refine blk_drewN ?_ _ | refine blk_drew ?_ | refine blk_alloc ?_ _)); refine blk_far ?_ NB407_410.out _; (with_reducible repeat (first | refine blk_drewN ?_ _ | refine blk_drew ?_ | refine blk_alloc ?_ _)); refine blk_far ?_ NB407_410.out _; (with_reducible repeat (first | refine blk_drewN ?_ _ | refine blk_drew ?_ | refine blk_alloc ?_ _)); exact BK407.out⟩, ⟨by (with_reducible repeat (first | refine blk_drewN ?_ _ | refine blk_drew ?_ | refine blk_alloc ?_ _)); refine blk_far ?_ NB410_411.out _; (with_reducible repeat (first | refine blk_drewN ?_ _ | refine blk_drew ?_ | refine blk_alloc ?_ _)); refine blk_far ?_ NB410_411.out _; (with_reducible repeat (first | refine blk_drewN ?_ _ | refine blk_drew ?_ | refine blk_alloc ?_ _)); refine blk_put (cs := #[.int .i64 ((rd_T52 l0_5 a2_0).f0), .int .i64 0]) ?_ 1 _ rfl; (with_reducible repeat (first | refine blk_drewN ?_ _ | refine blk_drew ?_ | refine blk_alloc ?_ _)); refine blk_put (cs := #[.int .i64 0, .int .i64 0]) ?_ 0 _ rfl; (with_reducible repeat (first | refine blk_drewN ?_ _ | refine blk_drew ?_ | refine blk_alloc ?_ _)); exact BK410.out⟩, ⟨by (with_reducible repeat (first | refine blk_drewN ?_ _ | refine blk_drew ?_ | refine blk_alloc ?_ _)); refine blk_put (cs := #[.int .i64 ((rd_T52 l0_5 a3_0).f0), .int .i64 0]) ?_ 1 _ rfl; (with_reducible repeat (first | refine blk_drewN ?_ _ | refine blk_drew ?_ | refine blk_alloc ?_ _)); refine blk_put (cs := #[.int .i64 0, .int .i64 0]) ?_ 0 _ rfl; (with_reducible repeat (first | refine blk_drewN ?_ _ | refine blk_drew ?_ | refine blk_alloc ?_ _)); refine blk_far ?_ NB411_410.out _; (with_reducible repeat (first | refine blk_drewN ?_ _ | refine blk_drew ?_ | refine blk_alloc ?_ _)); refine blk_far ?_ NB411_410.out _; (with_reducible repeat (first | refine blk_drewN ?_ _ | refine blk_drew ?_ | refine blk_alloc ?_ _)); exact BK411.out⟩, ⟨bl_⟩⟩
         clear HC9
         obtain ⟨kq, x34_8, rfl, HA, HJ8, BK405, BK406, BK407, BK410, BK411, HB⟩ := hcut
         cases kq with
         | zero => exact absurd HA.out (by simp [jacquardref33_clash.j0])
         | succ kj8 => ?_
         have H := HA.out
         clear HA
         simp only [jacquardref33_clash.j0] at H
         by_cases c45 : x34_8 = true
         · subst c45
           have H1 : (some false) = some r := by rw [if_pos rfl] at H; exact H
           clear H
           have H := H1
           clear H1
           obtain rfl := Option.some.inj H
           go_wp2
           go_ret
           exact ⟨by first | rfl | (simp [errW_none, errW_some] <;> rfl) | (simp [*, errW_none, errW_some] <;> rfl), by repeat (first | (with_reducible first | exact HB.out | apply below_alloc | apply pw_below_drewN | apply below_drew1 | refine below_set ?_ GE405.out | refine below_set ?_ GE406.out | refine below_set ?_ GE407.out | refine below_set ?_ GE410.out | refine below_set ?_ GE411.out) | exact HB.out)⟩
         replace c45 := Bool.eq_false_iff.mpr c45
         subst c45
         have H1 : ((jacquardref33_mod.f (wrap64 (a3_1 - a2_1)) a1).bind fun t412 => (if t412 < ((rd_T52 l0_5 a2_0).f1) then (some true) else ((jacquardref33_mod.f (wrap64 (a2_1 - a3_1)) a1).bind fun t413 => (some (decide (t413 < ((rd_T52 l0_5 a3_0).f1))))))) = some r := by rw [if_neg (show ¬ (false = true) by decide)] at H; exact H
         clear H
         have H := H1
         clear H1
         replace H := Option.bind_eq_some_iff.mp H
         obtain ⟨t412, A460, H⟩ := H
         replace H : (if t412 < ((rd_T52 l0_5 a2_0).f1) then (some true) else ((jacquardref33_mod.f (wrap64 (a2_1 - a3_1)) a1).bind fun t413 => (some (decide (t413 < ((rd_T52 l0_5 a3_0).f1)))))) = some r := H
         have A46 := Aside0.mk A460
         clear A460
         by_cases c47 : t412 < ((rd_T52 l0_5 a2_0).f1)
         · rw [if_pos c47] at H
           have c47b0 : decide (t412 < ((rd_T52 l0_5 a2_0).f1)) = true := decide_eq_true c47
           clear c47
           obtain rfl := Option.some.inj H
           try go_wp2
           have n0_ := Aside0.mk (blk_drew BK405.out)
           have n1_ := Aside0.mk (blk_drew BK406.out)
           have n2_ := Aside0.mk (blk_drew BK407.out)
           have n3_ := Aside0.mk (blk_drew BK410.out)
           have n4_ := Aside0.mk (blk_drew BK411.out)
           have n5_ := Aside0.mk (below_drew1 HB.out)
           clear BK405
           clear BK406
           clear BK407
           clear BK410
           clear BK411
           clear HB
           have BK405 := n0_
           have BK406 := n1_
           have BK407 := n2_
           have BK410 := n3_
           have BK411 := n4_
           have HB := n5_
           clear n0_ n1_ n2_ n3_ n4_ n5_
           refine start_ (n := 23) (S := fun w' => w'.cell? ⟨gb407, 0, none⟩ = some (.int .i64 a3_0) ∧ w'.cell? ⟨gb407, 1, none⟩ = some (.int .i64 a3_1) ∧ w'.cell? ⟨gb407, 2, none⟩ = some (.int .i64 a3_2) ∧ w'.cell? ⟨gb406, 0, none⟩ = some (.int .i64 a2_0) ∧ w'.cell? ⟨gb406, 1, none⟩ = some (.int .i64 a2_1) ∧ w'.cell? ⟨gb406, 2, none⟩ = some (.int .i64 a2_2) ∧ w'.cell? ⟨gb410, 0, none⟩ = some (.int .i64 ((rd_T52 l0_5 a2_0).f0)) ∧ w'.cell? ⟨gb410, 1, none⟩ = some (.int .i64 ((rd_T52 l0_5 a2_0).f1))) (ds := []) (bz 23 0) (by kernel_rfl) rfl rfl ⟨(blk_cell BK407.out 0).trans rfl, (blk_cell BK407.out 1).trans rfl, (blk_cell BK407.out 2).trans rfl, (blk_cell BK406.out 0).trans rfl, (blk_cell BK406.out 1).trans rfl, (blk_cell BK406.out 2).trans rfl, (blk_cell BK410.out 0).trans rfl, (blk_cell BK410.out 1).trans rfl⟩ (fun hHeld => ?_); refine with_tabW jacquardref33_clash.tab4 jacquardref33_clash.bits4 (fun HT_ HW_ => ?_)
           generalize wc.drew = w48 at BK405 BK406 BK407 BK410 BK411 HB hHeld ⊢
           refine pu_ 0 35 HT_ ?_
           refine pu_ 2 37 HT_ ?_
           refine pu_ 5 40 HT_ ?_
           refine pu_ 7 42 HT_ ?_
           refine tk_ 1 36 HT_ HW_ hHeld ?_ (hy := by rintro w' ⟨s0, s1, s2, s3, s4, s5, s6, s7⟩; go_simp; with_reducible rfl)
           refine tk_ 3 38 HT_ HW_ hHeld ?_ (hy := by rintro w' ⟨s0, s1, s2, s3, s4, s5, s6, s7⟩; go_simp; with_reducible rfl)
           refine pu_ 4 39 HT_ ?_
           refine tk_ 8 43 HT_ HW_ hHeld ?_ (hy := by rintro w' ⟨s0, s1, s2, s3, s4, s5, s6, s7⟩; go_simp; with_reducible rfl)
           refine on_ 6 (some 41) HT_ (fun K hK => ?_)
           refine gs_ Try.func32 #[.int .i64 (wrap64 (a3_1 - a2_1)), .int .i64 a1] ?_
           with_reducible refine (jacquardref33_mod.calls (wrap64 (a3_1 - a2_1)) a1 t412 _ A46.out).mono ?_
           rintro e w' ⟨rfl, ⟨nd, rfl⟩⟩
           refine ⟨_, rfl, ?_⟩
           refine hK.out _ _ ⟨(blk_cell BK407.out 0).trans rfl, (blk_cell BK407.out 1).trans rfl, (blk_cell BK407.out 2).trans rfl, (blk_cell BK406.out 0).trans rfl, (blk_cell BK406.out 1).trans rfl, (blk_cell BK406.out 2).trans rfl, (blk_cell BK410.out 0).trans rfl, (blk_cell BK410.out 1).trans rfl⟩ (fun hHeld => ?_)
           clear hK K
           refine no_ 41 ?_
           refine pu_ 9 44 HT_ ?_
           refine pu_ 10 45 HT_ ?_
           refine pn_ 11 46 HT_ ?_
           refine pn_ 12 47 HT_ ?_
           refine pn_ 13 48 HT_ ?_
           refine pn_ 14 49 HT_ ?_
           refine pn_ 15 50 HT_ ?_
           refine pn_ 16 51 HT_ ?_
           refine pn_ 17 52 HT_ ?_
           refine pn_ 18 53 HT_ ?_
           refine pn_ 19 54 HT_ ?_
           refine pn_ 20 55 HT_ ?_
           refine pu_ 21 56 HT_ ?_
           refine pu_ 22 8 HT_ ?_
           refine done_ (done_of HT_.out (by kernel_rfl)) ?_
           try go_wp2
           go_ret
           exact ⟨by first | rfl | (simp [errW_none, errW_some] <;> rfl) | (simp [*, errW_none, errW_some] <;> rfl), by repeat (first | (with_reducible first | exact HB.out | apply below_alloc | apply pw_below_drewN | apply below_drew1 | refine below_set ?_ GE405.out | refine below_set ?_ GE406.out | refine below_set ?_ GE407.out | refine below_set ?_ GE410.out | refine below_set ?_ GE411.out) | exact HB.out)⟩
         rw [if_neg c47] at H
         have c47b0 : decide (t412 < ((rd_T52 l0_5 a2_0).f1)) = false := decide_eq_false c47
         clear c47
         replace H := Option.bind_eq_some_iff.mp H
         obtain ⟨t413, A490, H⟩ := H
         replace H : (some (decide (t413 < ((rd_T52 l0_5 a3_0).f1)))) = some r := H
         have A49 := Aside0.mk A490
         clear A490
         obtain rfl := Option.some.inj H
         try go_wp2
         have n0_ := Aside0.mk (blk_drew BK405.out)
         have n1_ := Aside0.mk (blk_drew BK406.out)
         have n2_ := Aside0.mk (blk_drew BK407.out)
         have n3_ := Aside0.mk (blk_drew BK410.out)
         have n4_ := Aside0.mk (blk_drew BK411.out)
         have n5_ := Aside0.mk (below_drew1 HB.out)
         clear BK405
         clear BK406
         clear BK407
         clear BK410
         clear BK411
         clear HB
         have BK405 := n0_
         have BK406 := n1_
         have BK407 := n2_
         have BK410 := n3_
         have BK411 := n4_
         have HB := n5_
         clear n0_ n1_ n2_ n3_ n4_ n5_
         refine start_ (n := 23) (S := fun w' => w'.cell? ⟨gb407, 0, none⟩ = some (.int .i64 a3_0) ∧ w'.cell? ⟨gb407, 1, none⟩ = some (.int .i64 a3_1) ∧ w'.cell? ⟨gb407, 2, none⟩ = some (.int .i64 a3_2) ∧ w'.cell? ⟨gb406, 0, none⟩ = some (.int .i64 a2_0) ∧ w'.cell? ⟨gb406, 1, none⟩ = some (.int .i64 a2_1) ∧ w'.cell? ⟨gb406, 2, none⟩ = some (.int .i64 a2_2) ∧ w'.cell? ⟨gb410, 0, none⟩ = some (.int .i64 ((rd_T52 l0_5 a2_0).f0)) ∧ w'.cell? ⟨gb410, 1, none⟩ = some (.int .i64 ((rd_T52 l0_5 a2_0).f1)) ∧ w'.cell? ⟨gb411, 0, none⟩ = some (.int .i64 ((rd_T52 l0_5 a3_0).f0)) ∧ w'.cell? ⟨gb411, 1, none⟩ = some (.int .i64 ((rd_T52 l0_5 a3_0).f1))) (ds := []) (bz 23 0) (by kernel_rfl) rfl rfl ⟨(blk_cell BK407.out 0).trans rfl, (blk_cell BK407.out 1).trans rfl, (blk_cell BK407.out 2).trans rfl, (blk_cell BK406.out 0).trans rfl, (blk_cell BK406.out 1).trans rfl, (blk_cell BK406.out 2).trans rfl, (blk_cell BK410.out 0).trans rfl, (blk_cell BK410.out 1).trans rfl, (blk_cell BK411.out 0).trans rfl, (blk_cell BK411.out 1).trans rfl⟩ (fun hHeld => ?_); refine with_tabW jacquardref33_clash.tab4 jacquardref33_clash.bits4 (fun HT_ HW_ => ?_)
         generalize wc.drew = w50 at BK405 BK406 BK407 BK410 BK411 HB hHeld ⊢
         refine pu_ 0 35 HT_ ?_
         refine pu_ 2 37 HT_ ?_
         refine pu_ 5 40 HT_ ?_
         refine pu_ 7 42 HT_ ?_
         refine tk_ 1 36 HT_ HW_ hHeld ?_ (hy := by rintro w' ⟨s0, s1, s2, s3, s4, s5, s6, s7, s8, s9⟩; go_simp; with_reducible rfl)
         refine tk_ 3 38 HT_ HW_ hHeld ?_ (hy := by rintro w' ⟨s0, s1, s2, s3, s4, s5, s6, s7, s8, s9⟩; go_simp; with_reducible rfl)
         refine pu_ 4 39 HT_ ?_
         refine tk_ 8 43 HT_ HW_ hHeld ?_ (hy := by rintro w' ⟨s0, s1, s2, s3, s4, s5, s6, s7, s8, s9⟩; go_simp; with_reducible rfl)
         refine on_ 6 (some 41) HT_ (fun K hK => ?_)
         refine gs_ Try.func32 #[.int .i64 (wrap64 (a3_1 - a2_1)), .int .i64 a1] ?_
         with_reducible refine (jacquardref33_mod.calls (wrap64 (a3_1 - a2_1)) a1 t412 _ A46.out).mono ?_
         rintro e w' ⟨rfl, ⟨nd, rfl⟩⟩
         refine ⟨_, rfl, ?_⟩
         refine hK.out _ _ ⟨(blk_cell BK407.out 0).trans rfl, (blk_cell BK407.out 1).trans rfl, (blk_cell BK407.out 2).trans rfl, (blk_cell BK406.out 0).trans rfl, (blk_cell BK406.out 1).trans rfl, (blk_cell BK406.out 2).trans rfl, (blk_cell BK410.out 0).trans rfl, (blk_cell BK410.out 1).trans rfl, (blk_cell BK411.out 0).trans rfl, (blk_cell BK411.out 1).trans rfl⟩ (fun hHeld => ?_)
         clear hK K
         refine no_ 41 ?_
         refine pu_ 9 44 HT_ ?_
         refine pu_ 10 45 HT_ ?_
         refine pu_ 11 46 HT_ ?_
         refine pu_ 13 48 HT_ ?_
         refine pu_ 16 51 HT_ ?_
         refine pu_ 18 53 HT_ ?_
         refine tk_ 12 47 HT_ HW_ hHeld ?_ (hy := by rintro w' ⟨s0, s1, s2, s3, s4, s5, s6, s7, s8, s9⟩; go_simp; with_reducible rfl)
         refine tk_ 14 49 HT_ HW_ hHeld ?_ (hy := by rintro w' ⟨s0, s1, s2, s3, s4, s5, s6, s7, s8, s9⟩; go_simp; with_reducible rfl)
         refine pu_ 15 50 HT_ ?_
         refine tk_ 19 54 HT_ HW_ hHeld ?_ (hy := by rintro w' ⟨s0, s1, s2, s3, s4, s5, s6, s7, s8, s9⟩; go_simp; with_reducible rfl)
         refine on_ 17 (some 52) HT_ (fun K hK => ?_)
         refine gs_ Try.func32 #[.int .i64 (wrap64 (a2_1 - a3_1)), .int .i64 a1] ?_
         with_reducible refine (jacquardref33_mod.calls (wrap64 (a2_1 - a3_1)) a1 t413 _ A49.out).mono ?_
         rintro e w' ⟨rfl, ⟨nd, rfl⟩⟩
         refine ⟨_, rfl, ?_⟩
         refine hK.out _ _ ⟨(blk_cell BK407.out 0).trans rfl, (blk_cell BK407.out 1).trans rfl, (blk_cell BK407.out 2).trans rfl, (blk_cell BK406.out 0).trans rfl, (blk_cell BK406.out 1).trans rfl, (blk_cell BK406.out 2).trans rfl, (blk_cell BK410.out 0).trans rfl, (blk_cell BK410.out 1).trans rfl, (blk_cell BK411.out 0).trans rfl, (blk_cell BK411.out 1).trans rfl⟩ (fun hHeld => ?_)
         clear hK K
         refine no_ 52 ?_
         refine pu_ 20 55 HT_ ?_
         refine pu_ 21 56 HT_ ?_
         refine pu_ 22 8 HT_ ?_
         refine done_ (done_of HT_.out (by kernel_rfl)) ?_
         try go_wp2
         go_ret
         exact ⟨by first | rfl | (simp [errW_none, errW_some] <;> rfl) | (simp [*, errW_none, errW_some] <;> rfl), by repeat (first | (with_reducible first | exact HB.out | apply below_alloc | apply pw_below_drewN | apply below_drew1 | refine below_set ?_ GE405.out | refine below_set ?_ GE406.out | refine below_set ?_ GE407.out | refine below_set ?_ GE410.out | refine below_set ?_ GE411.out) | exact HB.out)⟩
       rw [if_neg c8] at H
       exact absurd H (by simp)
     rw [if_neg c7] at H
     exact absurd H (by simp)
   rw [if_neg c6] at H
   exact absurd H (by simp)
 rw [if_neg c5] at H
 exact absurd H (by simp)
end Go.Proofs.Ytpmlbbglekaidaa.PAll
