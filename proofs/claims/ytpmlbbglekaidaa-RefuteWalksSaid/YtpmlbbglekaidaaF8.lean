-- Written for this claim by programs of this session (wip/print2 in its repo: a changed printer, a shortener, a packer). Lean checks it.
import Derived.Test.YtpmlbbglekaidaaP0
import Derived.Test.YtpmlbbglekaidaaF17
import Derived.Test.YtpmlbbglekaidaaF18
import Derived.Test.YtpmlbbglekaidaaF19
import Derived.Test.YtpmlbbglekaidaaF20
namespace Go.Proofs.Ytpmlbbglekaidaa.PAll
open Go.RowKit Go.Proofs.YtpmlbbglekaidaaW.PrintWords Go.Proofs.YtpmlbbglekaidaaW.PrintLast Go.Proofs.YtpmlbbglekaidaaW.PrintMore
attribute [local go_sem] max2_int min2_int max_two min_two max_three min_three max_four min_four   -- for this text's walks alone
set_option linter.unusedVariables false
set_option linter.unusedSimpArgs false

/-! ### refute_Check: function 8 -/
def refute_Check.f (k : Nat) (a0_0 : Int) (a0_1 : Int) (a0_2 : Bool) (l0_3 : List (S48)) (l0_4 : List (S50)) (l0_5 : List (S52)) (a1 : Int) (l2 : List (S54)) : Option (Bool) := (refute_loop.f k a0_0 a0_1 a0_2 l0_3 l0_4 l0_5 a1).bind fun t208 => (if t208 = true then (if (l2.length : Int) ≥ 1 then (if (l2.length : Int) ≤ 65536 then ((refute_connected.f k l2).bind fun t209 => (if t209 = true then ((refute_none.f a0_0 a0_1 a0_2 l0_3 l0_4 l0_5).bind fun bt210 => ((refute_accepted.f k a0_0 a0_1 a0_2 l0_3 l0_4 l0_5 a1 l2 0 bt210.1 bt210.2).bind fun t216 => (some t216))) else (some false))) else (some false)) else (some false)) else (some false))
theorem refute_Check.mono : ∀ a0 a1 a2 a3 a4 a5 a6 a7 k, LeO (refute_Check.f k a0 a1 a2 a3 a4 a5 a6 a7) (refute_Check.f (k + 1) a0 a1 a2 a3 a4 a5 a6 a7) := by
 intro a0 a1 a2 a3 a4 a5 a6 a7 k
 unfold refute_Check.f
 repeat' first | (with_reducible first | apply refute_accepted.mono | apply refute_connected.mono | apply refute_loop.mono | exact LeO.refl _ | exact LeO.none _ | refine LeO.ite ?_ ?_ | refine LeO.bind ?_ (fun _ => ?_)) | apply refute_accepted.mono | apply refute_connected.mono | apply refute_loop.mono | exact LeO.none _ | refine LeO.ite ?_ ?_ | refine LeO.bind ?_ (fun _ => ?_)
def refute_Check.T1 : Bool × List (List Nat × List Nat) := (true, [([], []), ([], []), ([0, 1], [0, 1]), ([2, 2], [2]), ([3], [3]), ([4, 3], [3, 4]), ([5, 3], [3, 5]), ([3, 6], [3, 6]), ([7, 3], [7]), ([8], [8]), ([9, 8], [8, 9]), ([10, 8], [8, 10]), ([8, 11], [8, 11]), ([12, 8], [12]), ([13], [13]), ([14, 13, 13], [13, 14]), ([13, 15], [13, 15]), ([16, 15], [16]), ([17], [17]), ([17], [17]), ([17], [17]), ([17], [17]), ([21, 17, 17], [17, 21]), ([18, 19, 20, 22, 22, 17], [17, 18, 19, 20, 22]), ([17, 23], [17, 23]), ([24, 23, 0, 1, 2, 3, 4, 5, 6, 7, 8, 9, 10, 11, 12, 13, 14, 15, 16, 17, 18, 19, 20, 21, 22, 23, 24], [24])])
def refute_Check.B1 : List Nat := [0, 0, 3, 7, 15, 31, 63, 127, 255, 511, 1023, 2047, 4095, 8191, 16383, 32767, 65535, 131071, 262143, 262143, 262143, 262143, 2359295, 8388607, 16777215, 33554431]
theorem refute_Check.tab1 : rtab .any (opsOf Try.f8 1) = refute_Check.T1 := by kernel_rfl
theorem refute_Check.bits1 : waitsOk refute_Check.T1.2 refute_Check.B1 = true := by kernel_rfl
set_option maxHeartbeats 8000000 in
set_option maxRecDepth 100000 in
theorem refute_Check.calls (k : Nat) (a0_0 : Int) (a0_1 : Int) (a0_2 : Bool) (A0_3 : Option Addr) (c0_3 : Nat) (l0_3 : List (S48)) (A0_4 : Option Addr) (c0_4 : Nat) (l0_4 : List (S50)) (A0_5 : Option Addr) (c0_5 : Nat) (l0_5 : List (S52)) (a1 : Int) (A2 : Option Addr) (c2 : Nat) (l2 : List (S54)) (r : Bool) (w : World) (hr0_3 : Kd.C k48 w A0_3 l0_3.length l0_3) (hc0_3 : l0_3.length ≤ c0_3) (hr0_4 : Kd.C k50 w A0_4 l0_4.length l0_4) (hc0_4 : l0_4.length ≤ c0_4) (hr0_5 : Kd.C k52 w A0_5 l0_5.length l0_5) (hc0_5 : l0_5.length ≤ c0_5) (hr2 : Kd.C k54 w A2 l2.length l2) (hc2 : l2.length ≤ c2) (h : refute_Check.f k a0_0 a0_1 a0_2 l0_3 l0_4 l0_5 a1 l2 = some r) :
    Calls Try.prog 8 #[.agg #[.int .i64 a0_0, .int .i64 a0_1, .bool a0_2, .slice A0_3 l0_3.length c0_3, .slice A0_4 l0_4.length c0_4, .slice A0_5 l0_5.length c0_5], .int .i64 a1, .slice A2 l2.length c2] w fun e w' => e = .returned (.bool r) ∧ Below w.heap.size w w' := by
 have hu26 := Try.underlying26
 have HR0_3 := Aside0.mk hr0_3
 have HC0_3 := Aside0.mk hc0_3
 clear hr0_3 hc0_3
 have HR0_4 := Aside0.mk hr0_4
 have HC0_4 := Aside0.mk hc0_4
 clear hr0_4 hc0_4
 have HR0_5 := Aside0.mk hr0_5
 have HC0_5 := Aside0.mk hc0_5
 clear hr0_5 hc0_5
 have HR2 := Aside0.mk hr2
 have HC2 := Aside0.mk hc2
 clear hr2 hc2
 have HB := Aside0.mk (Below.refl w.heap.size w)
 have H : ((refute_loop.f k a0_0 a0_1 a0_2 l0_3 l0_4 l0_5 a1).bind fun t208 => (if t208 = true then (if (l2.length : Int) ≥ 1 then (if (l2.length : Int) ≤ 65536 then ((refute_connected.f k l2).bind fun t209 => (if t209 = true then ((refute_none.f a0_0 a0_1 a0_2 l0_3 l0_4 l0_5).bind fun bt210 => ((refute_accepted.f k a0_0 a0_1 a0_2 l0_3 l0_4 l0_5 a1 l2 0 bt210.1 bt210.2).bind fun t216 => (some t216))) else (some false))) else (some false)) else (some false)) else (some false))) = some r := h
 clear h
 replace H := Option.bind_eq_some_iff.mp H
 obtain ⟨t208, A40, H⟩ := H
 replace H : (if t208 = true then (if (l2.length : Int) ≥ 1 then (if (l2.length : Int) ≤ 65536 then ((refute_connected.f k l2).bind fun t209 => (if t209 = true then ((refute_none.f a0_0 a0_1 a0_2 l0_3 l0_4 l0_5).bind fun bt210 => ((refute_accepted.f k a0_0 a0_1 a0_2 l0_3 l0_4 l0_5 a1 l2 0 bt210.1 bt210.2).bind fun t216 => (some t216))) else (some false))) else (some false)) else (some false)) else (some false)) = some r := H
 have A4 := Aside0.mk A40
 clear A40
 by_cases c5 : t208 = true
 · subst c5
   have H1 : (if (l2.length : Int) ≥ 1 then (if (l2.length : Int) ≤ 65536 then ((refute_connected.f k l2).bind fun t209 => (if t209 = true then ((refute_none.f a0_0 a0_1 a0_2 l0_3 l0_4 l0_5).bind fun bt210 => ((refute_accepted.f k a0_0 a0_1 a0_2 l0_3 l0_4 l0_5 a1 l2 0 bt210.1 bt210.2).bind fun t216 => (some t216))) else (some false))) else (some false)) else (some false)) = some r := by rw [if_pos rfl] at H; exact H
   clear H
   have H := H1
   clear H1
   by_cases c6 : (l2.length : Int) ≥ 1
   · rw [if_pos c6] at H
     have c6b0 : decide (1 ≤ (l2.length : Int)) = true := decide_eq_true c6
     have c6b1 : decide (1 ≤ l2.length) = true := decide_eq_true (by omega)
     clear c6
     by_cases c7 : (l2.length : Int) ≤ 65536
     · rw [if_pos c7] at H
       have c7b0 : decide ((l2.length : Int) ≤ 65536) = true := decide_eq_true c7
       have c7b1 : decide (l2.length ≤ 65536) = true := decide_eq_true (by omega)
       clear c7
       replace H := Option.bind_eq_some_iff.mp H
       obtain ⟨t209, A80, H⟩ := H
       replace H : (if t209 = true then ((refute_none.f a0_0 a0_1 a0_2 l0_3 l0_4 l0_5).bind fun bt210 => ((refute_accepted.f k a0_0 a0_1 a0_2 l0_3 l0_4 l0_5 a1 l2 0 bt210.1 bt210.2).bind fun t216 => (some t216))) else (some false)) = some r := H
       have A8 := Aside0.mk A80
       clear A80
       by_cases c9 : t209 = true
       · subst c9
         have H1 : ((refute_none.f a0_0 a0_1 a0_2 l0_3 l0_4 l0_5).bind fun bt210 => ((refute_accepted.f k a0_0 a0_1 a0_2 l0_3 l0_4 l0_5 a1 l2 0 bt210.1 bt210.2).bind fun t216 => (some t216))) = some r := by rw [if_pos rfl] at H; exact H
         clear H
         have H := H1
         clear H1
         replace H := Option.bind_eq_some_iff.mp H
         obtain ⟨⟨t210, t213⟩, A100, H⟩ := H
         replace H : ((refute_accepted.f k a0_0 a0_1 a0_2 l0_3 l0_4 l0_5 a1 l2 0 t210 t213).bind fun t216 => (some t216)) = some r := H
         have A10 := Aside0.mk A100
         clear A100
         replace H := Option.bind_eq_some_iff.mp H
         obtain ⟨t216, A110, H⟩ := H
         replace H : (some t216) = some r := H
         have A11 := Aside0.mk A110
         clear A110
         obtain rfl := Option.some.inj H
         go_enter Try.func8, Try.ntmps8
         try go_wp2_with (first | ((with_reducible refine gate_dst (N := 3) rfl ?_); (try (refine gate_guard (by rfl) ?_; dsimp only)); refine box_event ?hg (N := 3) ?hd (cs := #[.int .i64 a0_0, .int .i64 a0_1, .bool a0_2, .slice A0_3 l0_3.length c0_3, .slice A0_4 l0_4.length c0_4, .slice A0_5 l0_5.length c0_5]) (t := 26) ?hr ?_; (case hd => rfl); (case hg => rfl); (case hr => first | (go_simp; done) | (go_simp; rfl)); intro gb207 hg w12 hbox hb; have n0_ := Aside0.mk (below_step bl_ hb); have n1_ := Aside0.mk (hbox); have n2_ := Aside0.mk (gl_ (w := w) hg); have n3_ := Aside0.mk (gl_ (w := w) hg); clear HB; have HB := n0_; have BK207 := n1_; have GW207 := n2_; have GE207 := n3_; clear n0_ n1_ n2_ n3_; clear hb hbox hg))
         have n0_ := Aside0.mk (blk_drew BK207.out)
         have n1_ := Aside0.mk (below_drew1 HB.out)
         clear BK207
         clear HB
         have BK207 := n0_
         have HB := n1_
         clear n0_ n1_
         refine start_ (n := 26) (S := fun w' => w'.cell? ⟨gb207, 0, none⟩ = some (.int .i64 a0_0) ∧ w'.cell? ⟨gb207, 1, none⟩ = some (.int .i64 a0_1) ∧ w'.cell? ⟨gb207, 2, none⟩ = some (.bool a0_2) ∧ w'.cell? ⟨gb207, 3, none⟩ = some (.slice A0_3 l0_3.length c0_3) ∧ w'.cell? ⟨gb207, 4, none⟩ = some (.slice A0_4 l0_4.length c0_4) ∧ w'.cell? ⟨gb207, 5, none⟩ = some (.slice A0_5 l0_5.length c0_5)) (ds := []) (bz 26 0) (by kernel_rfl) rfl rfl ⟨(blk_cell BK207.out 0).trans rfl, (blk_cell BK207.out 1).trans rfl, (blk_cell BK207.out 2).trans rfl, (blk_cell BK207.out 3).trans rfl, (blk_cell BK207.out 4).trans rfl, (blk_cell BK207.out 5).trans rfl⟩ (fun hHeld => ?_); refine with_tabW refute_Check.tab1 refute_Check.bits1 (fun HT_ HW_ => ?_)
         generalize w12.drew = w13 at BK207 HB hHeld ⊢
         refine pu_ 1 8 HT_ ?_
         refine tk_ 0 7 HT_ HW_ hHeld ?_ (hy := by rintro w' ⟨s0, s1, s2, s3, s4, s5⟩; go_simp; with_reducible rfl)
         refine on_ 2 (some 9) HT_ (fun K hK => ?_)
         refine gs_ Try.func17 #[.agg #[.int .i64 a0_0, .int .i64 a0_1, .bool a0_2, .slice A0_3 l0_3.length c0_3, .slice A0_4 l0_4.length c0_4, .slice A0_5 l0_5.length c0_5], .int .i64 a1] ?_
         with_reducible refine (refute_loop.calls k a0_0 a0_1 a0_2 _ _ l0_3 _ _ l0_4 _ _ l0_5 a1 true _ ?side1 ?side2 ?side3 ?side4 ?side5 ?side6 A4.out).mono ?_
         (case side1 => exact CB_ HR0_3)
         (case side2 => exact HC0_3.out)
         (case side3 => exact CB_ HR0_4)
         (case side4 => exact HC0_4.out)
         (case side5 => exact CB_ HR0_5)
         (case side6 => exact HC0_5.out)
         rintro e w14 ⟨rfl, hb⟩
         refine ⟨_, rfl, ?_⟩
         have n0_ := Aside0.mk (blk_below (K_ BK207) hb)
         have n1_ := Aside0.mk (below_step bl_ hb)
         clear BK207
         clear HB
         have BK207 := n0_
         have HB := n1_
         clear n0_ n1_
         refine hK.out _ _ ⟨(blk_cell BK207.out 0).trans rfl, (blk_cell BK207.out 1).trans rfl, (blk_cell BK207.out 2).trans rfl, (blk_cell BK207.out 3).trans rfl, (blk_cell BK207.out 4).trans rfl, (blk_cell BK207.out 5).trans rfl⟩ (fun hHeld => ?_)
         clear hK K
         refine no_ 9 ?_
         refine pu_ 3 10 HT_ ?_
         refine pu_ 4 11 HT_ ?_
         refine pu_ 5 12 HT_ ?_
         refine pu_ 6 13 HT_ ?_
         refine pu_ 7 14 HT_ ?_
         refine pu_ 8 15 HT_ ?_
         refine pu_ 9 16 HT_ ?_
         refine pu_ 10 17 HT_ ?_
         refine pu_ 11 18 HT_ ?_
         refine pu_ 12 19 HT_ ?_
         refine pu_ 13 20 HT_ ?_
         refine pu_ 14 21 HT_ ?_
         refine on_ 15 (some 22) HT_ (fun K hK => ?_)
         refine gs_ Try.func18 #[.slice A2 l2.length c2] ?_
         with_reducible refine (refute_connected.calls k _ _ l2 true _ ?side1 ?side2 A8.out).mono ?_
         (case side1 => exact CB_ HR2)
         (case side2 => exact HC2.out)
         rintro e w15 ⟨rfl, hb⟩
         refine ⟨_, rfl, ?_⟩
         have n0_ := Aside0.mk (blk_below (K_ BK207) hb)
         have n1_ := Aside0.mk (below_step bl_ hb)
         clear BK207
         clear HB
         have BK207 := n0_
         have HB := n1_
         clear n0_ n1_
         refine hK.out _ _ ⟨(blk_cell BK207.out 0).trans rfl, (blk_cell BK207.out 1).trans rfl, (blk_cell BK207.out 2).trans rfl, (blk_cell BK207.out 3).trans rfl, (blk_cell BK207.out 4).trans rfl, (blk_cell BK207.out 5).trans rfl⟩ (fun hHeld => ?_)
         clear hK K
         refine no_ 22 ?_
         refine pu_ 16 23 HT_ ?_
         refine pu_ 17 24 HT_ ?_
         refine pu_ 19 26 HT_ ?_
         refine pu_ 20 27 HT_ ?_
         refine tk_ 18 25 HT_ HW_ hHeld ?_ (hy := by rintro w' ⟨s0, s1, s2, s3, s4, s5⟩; go_simp; with_reducible rfl)
         refine tk_ 21 28 HT_ HW_ hHeld ?_ (hy := by rintro w' ⟨s0, s1, s2, s3, s4, s5⟩; go_simp; with_reducible rfl)
         refine on_ 22 (some 29) HT_ (fun K hK => ?_)
         refine gs_ Try.func20 #[.agg #[.int .i64 a0_0, .int .i64 a0_1, .bool a0_2, .slice A0_3 l0_3.length c0_3, .slice A0_4 l0_4.length c0_4, .slice A0_5 l0_5.length c0_5]] ?_
         with_reducible refine (refute_none.calls a0_0 a0_1 a0_2 _ _ l0_3 _ _ l0_4 _ _ l0_5 t210 t213 _ ?side1 ?side2 ?side3 ?side4 ?side5 ?side6 A10.out).mono ?_
         (case side1 => exact CB_ HR0_3)
         (case side2 => exact HC0_3.out)
         (case side3 => exact CB_ HR0_4)
         (case side4 => exact HC0_4.out)
         (case side5 => exact CB_ HR0_5)
         (case side6 => exact HC0_5.out)
         rintro e w16 ⟨v211, v214, rfl, ho0, ho1, hb⟩
         refine ⟨_, rfl, ?_⟩
         have n0_ := Aside0.mk (Kd.R_lower ho0 (below_size bl_))
         have n1_ := Aside0.mk (Kd.R_lower ho1 (below_size bl_))
         have n2_ := Aside0.mk (blk_below (K_ BK207) hb)
         have n3_ := Aside0.mk (below_step bl_ hb)
         clear BK207
         clear HB
         have HO212 := n0_
         have HO215 := n1_
         have BK207 := n2_
         have HB := n3_
         clear n0_ n1_ n2_ n3_
         obtain ⟨Ao17, co17, eo17⟩ := Kd.R_slice HO212.out
         (first | subst eo17 | (injection eo17 with f1_ f2_ f3_; have f4_ := f1_.symm; have f5_ := f3_.symm; clear f1_ f2_ f3_; subst f4_; subst f5_))
         obtain ⟨Ao18, co18, eo18⟩ := Kd.R_slice HO215.out
         (first | subst eo18 | (injection eo18 with f1_ f2_ f3_; have f4_ := f1_.symm; have f5_ := f3_.symm; clear f1_ f2_ f3_; subst f4_; subst f5_))
         refine hK.out _ _ ⟨(blk_cell BK207.out 0).trans rfl, (blk_cell BK207.out 1).trans rfl, (blk_cell BK207.out 2).trans rfl, (blk_cell BK207.out 3).trans rfl, (blk_cell BK207.out 4).trans rfl, (blk_cell BK207.out 5).trans rfl⟩ (fun hHeld => ?_)
         clear hK K
         refine no_ 29 ?_
         refine on_ 23 (some 30) HT_ (fun K hK => ?_)
         refine gs_ Try.func19 #[.agg #[.int .i64 a0_0, .int .i64 a0_1, .bool a0_2, .slice A0_3 l0_3.length c0_3, .slice A0_4 l0_4.length c0_4, .slice A0_5 l0_5.length c0_5], .int .i64 a1, .slice A2 l2.length c2, .int .i64 0, .agg #[.slice Ao17 t210.length co17, .slice Ao18 t213.length co18]] ?_
         with_reducible refine (refute_accepted.calls k a0_0 a0_1 a0_2 _ _ l0_3 _ _ l0_4 _ _ l0_5 a1 _ _ l2 0 _ _ t210 _ _ t213 t216 _ ?side1 ?side2 ?side3 ?side4 ?side5 ?side6 ?side7 ?side8 ?side9 ?side10 ?side11 ?side12 A11.out).mono ?_
         (case side1 => exact CB_ HR0_3)
         (case side2 => exact HC0_3.out)
         (case side3 => exact CB_ HR0_4)
         (case side4 => exact HC0_4.out)
         (case side5 => exact CB_ HR0_5)
         (case side6 => exact HC0_5.out)
         (case side7 => exact CB_ HR2)
         (case side8 => exact HC2.out)
         (case side9 => exact CR_ HO212)
         (case side10 => exact (Kd.R_reads' HO212.out).2.1)
         (case side11 => exact CR_ HO215)
         (case side12 => exact (Kd.R_reads' HO215.out).2.1)
         rintro e w19 ⟨rfl, hb⟩
         refine ⟨_, rfl, ?_⟩
         have n0_ := Aside0.mk (Kd.R_below (R_ HO212) hb)
         have n1_ := Aside0.mk (Kd.R_below (R_ HO215) hb)
         have n2_ := Aside0.mk (blk_below (K_ BK207) hb)
         have n3_ := Aside0.mk (below_step bl_ hb)
         clear HO212
         clear HO215
         clear BK207
         clear HB
         have HO212 := n0_
         have HO215 := n1_
         have BK207 := n2_
         have HB := n3_
         clear n0_ n1_ n2_ n3_
         refine hK.out _ _ ⟨(blk_cell BK207.out 0).trans rfl, (blk_cell BK207.out 1).trans rfl, (blk_cell BK207.out 2).trans rfl, (blk_cell BK207.out 3).trans rfl, (blk_cell BK207.out 4).trans rfl, (blk_cell BK207.out 5).trans rfl⟩ (fun hHeld => ?_)
         clear hK K
         refine no_ 30 ?_
         refine pu_ 24 31 HT_ ?_
         refine pu_ 25 6 HT_ ?_
         refine done_ (done_of HT_.out (by kernel_rfl)) ?_
         try go_wp2
         go_ret
         exact ⟨by first | rfl | (simp [errW_none, errW_some] <;> rfl) | (simp [*, errW_none, errW_some] <;> rfl), by repeat (first | (with_reducible first | exact HB.out | apply below_alloc | apply pw_below_drewN | apply below_drew1 | refine below_set ?_ GE207.out) | exact HB.out)⟩
       replace c9 := Bool.eq_false_iff.mpr c9
       subst c9
       have H1 : (some false) = some r := by rw [if_neg (show ¬ (false = true) by decide)] at H; exact H
       clear H
       have H := H1
       clear H1
       obtain rfl := Option.some.inj H
       go_enter Try.func8, Try.ntmps8
       try go_wp2_with (first | ((with_reducible refine gate_dst (N := 3) rfl ?_); (try (refine gate_guard (by rfl) ?_; dsimp only)); refine box_event ?hg (N := 3) ?hd (cs := #[.int .i64 a0_0, .int .i64 a0_1, .bool a0_2, .slice A0_3 l0_3.length c0_3, .slice A0_4 l0_4.length c0_4, .slice A0_5 l0_5.length c0_5]) (t := 26) ?hr ?_; (case hd => rfl); (case hg => rfl); (case hr => first | (go_simp; done) | (go_simp; rfl)); intro gb207 hg w20 hbox hb; have n0_ := Aside0.mk (below_step bl_ hb); have n1_ := Aside0.mk (hbox); have n2_ := Aside0.mk (gl_ (w := w) hg); have n3_ := Aside0.mk (gl_ (w := w) hg); clear HB; have HB := n0_; have BK207 := n1_; have GW207 := n2_; have GE207 := n3_; clear n0_ n1_ n2_ n3_; clear hb hbox hg))
       have n0_ := Aside0.mk (blk_drew BK207.out)
       have n1_ := Aside0.mk (below_drew1 HB.out)
       clear BK207
       clear HB
       have BK207 := n0_
       have HB := n1_
       clear n0_ n1_
       refine start_ (n := 26) (S := fun w' => w'.cell? ⟨gb207, 0, none⟩ = some (.int .i64 a0_0) ∧ w'.cell? ⟨gb207, 1, none⟩ = some (.int .i64 a0_1) ∧ w'.cell? ⟨gb207, 2, none⟩ = some (.bool a0_2) ∧ w'.cell? ⟨gb207, 3, none⟩ = some (.slice A0_3 l0_3.length c0_3) ∧ w'.cell? ⟨gb207, 4, none⟩ = some (.slice A0_4 l0_4.length c0_4) ∧ w'.cell? ⟨gb207, 5, none⟩ = some (.slice A0_5 l0_5.length c0_5)) (ds := []) (bz 26 0) (by kernel_rfl) rfl rfl ⟨(blk_cell BK207.out 0).trans rfl, (blk_cell BK207.out 1).trans rfl, (blk_cell BK207.out 2).trans rfl, (blk_cell BK207.out 3).trans rfl, (blk_cell BK207.out 4).trans rfl, (blk_cell BK207.out 5).trans rfl⟩ (fun hHeld => ?_); refine with_tabW refute_Check.tab1 refute_Check.bits1 (fun HT_ HW_ => ?_)
       generalize w20.drew = w21 at BK207 HB hHeld ⊢
       refine pu_ 1 8 HT_ ?_
       refine tk_ 0 7 HT_ HW_ hHeld ?_ (hy := by rintro w' ⟨s0, s1, s2, s3, s4, s5⟩; go_simp; with_reducible rfl)
       refine on_ 2 (some 9) HT_ (fun K hK => ?_)
       refine gs_ Try.func17 #[.agg #[.int .i64 a0_0, .int .i64 a0_1, .bool a0_2, .slice A0_3 l0_3.length c0_3, .slice A0_4 l0_4.length c0_4, .slice A0_5 l0_5.length c0_5], .int .i64 a1] ?_
       with_reducible refine (refute_loop.calls k a0_0 a0_1 a0_2 _ _ l0_3 _ _ l0_4 _ _ l0_5 a1 true _ ?side1 ?side2 ?side3 ?side4 ?side5 ?side6 A4.out).mono ?_
       (case side1 => exact CB_ HR0_3)
       (case side2 => exact HC0_3.out)
       (case side3 => exact CB_ HR0_4)
       (case side4 => exact HC0_4.out)
       (case side5 => exact CB_ HR0_5)
       (case side6 => exact HC0_5.out)
       rintro e w22 ⟨rfl, hb⟩
       refine ⟨_, rfl, ?_⟩
       have n0_ := Aside0.mk (blk_below (K_ BK207) hb)
       have n1_ := Aside0.mk (below_step bl_ hb)
       clear BK207
       clear HB
       have BK207 := n0_
       have HB := n1_
       clear n0_ n1_
       refine hK.out _ _ ⟨(blk_cell BK207.out 0).trans rfl, (blk_cell BK207.out 1).trans rfl, (blk_cell BK207.out 2).trans rfl, (blk_cell BK207.out 3).trans rfl, (blk_cell BK207.out 4).trans rfl, (blk_cell BK207.out 5).trans rfl⟩ (fun hHeld => ?_)
       clear hK K
       refine no_ 9 ?_
       refine pu_ 3 10 HT_ ?_
       refine pu_ 4 11 HT_ ?_
       refine pu_ 5 12 HT_ ?_
       refine pu_ 6 13 HT_ ?_
       refine pu_ 7 14 HT_ ?_
       refine pu_ 8 15 HT_ ?_
       refine pu_ 9 16 HT_ ?_
       refine pu_ 10 17 HT_ ?_
       refine pu_ 11 18 HT_ ?_
       refine pu_ 12 19 HT_ ?_
       refine pu_ 13 20 HT_ ?_
       refine pu_ 14 21 HT_ ?_
       refine on_ 15 (some 22) HT_ (fun K hK => ?_)
       refine gs_ Try.func18 #[.slice A2 l2.length c2] ?_
       with_reducible refine (refute_connected.calls k _ _ l2 false _ ?side1 ?side2 A8.out).mono ?_
       (case side1 => exact CB_ HR2)
       (case side2 => exact HC2.out)
       rintro e w23 ⟨rfl, hb⟩
       refine ⟨_, rfl, ?_⟩
       have n0_ := Aside0.mk (blk_below (K_ BK207) hb)
       have n1_ := Aside0.mk (below_step bl_ hb)
       clear BK207
       clear HB
       have BK207 := n0_
       have HB := n1_
       clear n0_ n1_
       refine hK.out _ _ ⟨(blk_cell BK207.out 0).trans rfl, (blk_cell BK207.out 1).trans rfl, (blk_cell BK207.out 2).trans rfl, (blk_cell BK207.out 3).trans rfl, (blk_cell BK207.out 4).trans rfl, (blk_cell BK207.out 5).trans rfl⟩ (fun hHeld => ?_)
       clear hK K
       refine no_ 22 ?_
       refine pu_ 16 23 HT_ ?_
       refine pu_ 17 24 HT_ ?_
       refine pn_ 18 25 HT_ ?_
       refine pn_ 19 26 HT_ ?_
       refine pn_ 20 27 HT_ ?_
       refine pn_ 21 28 HT_ ?_
       refine pn_ 22 29 HT_ ?_
       refine pn_ 23 30 HT_ ?_
       refine pu_ 24 31 HT_ ?_
       refine pu_ 25 6 HT_ ?_
       refine done_ (done_of HT_.out (by kernel_rfl)) ?_
       try go_wp2
       go_ret
       exact ⟨by first | rfl | (simp [errW_none, errW_some] <;> rfl) | (simp [*, errW_none, errW_some] <;> rfl), by repeat (first | (with_reducible first | exact HB.out | apply below_alloc | apply pw_below_drewN | apply below_drew1 | refine below_set ?_ GE207.out) | exact HB.out)⟩
     rw [if_neg c7] at H
     have c7b0 : decide ((l2.length : Int) ≤ 65536) = false := decide_eq_false c7
     have c7b1 : decide (l2.length ≤ 65536) = false := decide_eq_false (by omega)
     clear c7
     obtain rfl := Option.some.inj H
     go_enter Try.func8, Try.ntmps8
     try go_wp2_with (first | ((with_reducible refine gate_dst (N := 3) rfl ?_); (try (refine gate_guard (by rfl) ?_; dsimp only)); refine box_event ?hg (N := 3) ?hd (cs := #[.int .i64 a0_0, .int .i64 a0_1, .bool a0_2, .slice A0_3 l0_3.length c0_3, .slice A0_4 l0_4.length c0_4, .slice A0_5 l0_5.length c0_5]) (t := 26) ?hr ?_; (case hd => rfl); (case hg => rfl); (case hr => first | (go_simp; done) | (go_simp; rfl)); intro gb207 hg w24 hbox hb; have n0_ := Aside0.mk (below_step bl_ hb); have n1_ := Aside0.mk (hbox); have n2_ := Aside0.mk (gl_ (w := w) hg); have n3_ := Aside0.mk (gl_ (w := w) hg); clear HB; have HB := n0_; have BK207 := n1_; have GW207 := n2_; have GE207 := n3_; clear n0_ n1_ n2_ n3_; clear hb hbox hg))
     have n0_ := Aside0.mk (blk_drew BK207.out)
     have n1_ := Aside0.mk (below_drew1 HB.out)
     clear BK207
     clear HB
     have BK207 := n0_
     have HB := n1_
     clear n0_ n1_
     refine start_ (n := 26) (S := fun w' => w'.cell? ⟨gb207, 0, none⟩ = some (.int .i64 a0_0) ∧ w'.cell? ⟨gb207, 1, none⟩ = some (.int .i64 a0_1) ∧ w'.cell? ⟨gb207, 2, none⟩ = some (.bool a0_2) ∧ w'.cell? ⟨gb207, 3, none⟩ = some (.slice A0_3 l0_3.length c0_3) ∧ w'.cell? ⟨gb207, 4, none⟩ = some (.slice A0_4 l0_4.length c0_4) ∧ w'.cell? ⟨gb207, 5, none⟩ = some (.slice A0_5 l0_5.length c0_5)) (ds := []) (bz 26 0) (by kernel_rfl) rfl rfl ⟨(blk_cell BK207.out 0).trans rfl, (blk_cell BK207.out 1).trans rfl, (blk_cell BK207.out 2).trans rfl, (blk_cell BK207.out 3).trans rfl, (blk_cell BK207.out 4).trans rfl, (blk_cell BK207.out 5).trans rfl⟩ (fun hHeld => ?_); refine with_tabW refute_Check.tab1 refute_Check.bits1 (fun HT_ HW_ => ?_)
     generalize w24.drew = w25 at BK207 HB hHeld ⊢
     refine pu_ 1 8 HT_ ?_
     refine tk_ 0 7 HT_ HW_ hHeld ?_ (hy := by rintro w' ⟨s0, s1, s2, s3, s4, s5⟩; go_simp; with_reducible rfl)
     refine on_ 2 (some 9) HT_ (fun K hK => ?_)
     refine gs_ Try.func17 #[.agg #[.int .i64 a0_0, .int .i64 a0_1, .bool a0_2, .slice A0_3 l0_3.length c0_3, .slice A0_4 l0_4.length c0_4, .slice A0_5 l0_5.length c0_5], .int .i64 a1] ?_
     with_reducible refine (refute_loop.calls k a0_0 a0_1 a0_2 _ _ l0_3 _ _ l0_4 _ _ l0_5 a1 true _ ?side1 ?side2 ?side3 ?side4 ?side5 ?side6 A4.out).mono ?_
     (case side1 => exact CB_ HR0_3)
     (case side2 => exact HC0_3.out)
     (case side3 => exact CB_ HR0_4)
     (case side4 => exact HC0_4.out)
     (case side5 => exact CB_ HR0_5)
     (case side6 => exact HC0_5.out)
     rintro e w26 ⟨rfl, hb⟩
     refine ⟨_, rfl, ?_⟩
     have n0_ := Aside0.mk (blk_below (K_ BK207) hb)
     have n1_ := Aside0.mk (below_step bl_ hb)
     clear BK207
     clear HB
     have BK207 := n0_
     have HB := n1_
     clear n0_ n1_
     refine hK.out _ _ ⟨(blk_cell BK207.out 0).trans rfl, (blk_cell BK207.out 1).trans rfl, (blk_cell BK207.out 2).trans rfl, (blk_cell BK207.out 3).trans rfl, (blk_cell BK207.out 4).trans rfl, (blk_cell BK207.out 5).trans rfl⟩ (fun hHeld => ?_)
     clear hK K
     refine no_ 9 ?_
     refine pu_ 3 10 HT_ ?_
     refine pu_ 4 11 HT_ ?_
     refine pu_ 5 12 HT_ ?_
     refine pu_ 6 13 HT_ ?_
     refine pu_ 7 14 HT_ ?_
     refine pu_ 8 15 HT_ ?_
     refine pu_ 9 16 HT_ ?_
     refine pu_ 10 17 HT_ ?_
     refine pu_ 11 18 HT_ ?_
     refine pu_ 12 19 HT_ ?_
     refine pu_ 13 20 HT_ ?_
     refine pn_ 14 21 HT_ ?_
     refine pn_ 15 22 HT_ ?_
     refine pu_ 16 23 HT_ ?_
     refine pu_ 17 24 HT_ ?_
     refine pn_ 18 25 HT_ ?_
     refine pn_ 19 26 HT_ ?_
     refine pn_ 20 27 HT_ ?_
     refine pn_ 21 28 HT_ ?_
     refine pn_ 22 29 HT_ ?_
     refine pn_ 23 30 HT_ ?_
     refine pu_ 24 31 HT_ ?_
     refine pu_ 25 6 HT_ ?_
     refine done_ (done_of HT_.out (by kernel_rfl)) ?_
     try go_wp2
     go_ret
     exact ⟨by first | rfl | (simp [errW_none, errW_some] <;> rfl) | (simp [*, errW_none, errW_some] <;> rfl), by repeat (first | (with_reducible first | exact HB.out | apply below_alloc | apply pw_below_drewN | apply below_drew1 | refine below_set ?_ GE207.out) | exact HB.out)⟩
   rw [if_neg c6] at H
   have c6b0 : decide (1 ≤ (l2.length : Int)) = false := decide_eq_false c6
   have c6b1 : decide (1 ≤ l2.length) = false := decide_eq_false (by omega)
   clear c6
   obtain rfl := Option.some.inj H
   go_enter Try.func8, Try.ntmps8
   try go_wp2_with (first | ((with_reducible refine gate_dst (N := 3) rfl ?_); (try (refine gate_guard (by rfl) ?_; dsimp only)); refine box_event ?hg (N := 3) ?hd (cs := #[.int .i64 a0_0, .int .i64 a0_1, .bool a0_2, .slice A0_3 l0_3.length c0_3, .slice A0_4 l0_4.length c0_4, .slice A0_5 l0_5.length c0_5]) (t := 26) ?hr ?_; (case hd => rfl); (case hg => rfl); (case hr => first | (go_simp; done) | (go_simp; rfl)); intro gb207 hg w27 hbox hb; have n0_ := Aside0.mk (below_step bl_ hb); have n1_ := Aside0.mk (hbox); have n2_ := Aside0.mk (gl_ (w := w) hg); have n3_ := Aside0.mk (gl_ (w := w) hg); clear HB; have HB := n0_; have BK207 := n1_; have GW207 := n2_; have GE207 := n3_; clear n0_ n1_ n2_ n3_; clear hb hbox hg))
   have n0_ := Aside0.mk (blk_drew BK207.out)
   have n1_ := Aside0.mk (below_drew1 HB.out)
   clear BK207
   clear HB
   have BK207 := n0_
   have HB := n1_
   clear n0_ n1_
   refine start_ (n := 26) (S := fun w' => w'.cell? ⟨gb207, 0, none⟩ = some (.int .i64 a0_0) ∧ w'.cell? ⟨gb207, 1, none⟩ = some (.int .i64 a0_1) ∧ w'.cell? ⟨gb207, 2, none⟩ = some (.bool a0_2) ∧ w'.cell? ⟨gb207, 3, none⟩ = some (.slice A0_3 l0_3.length c0_3) ∧ w'.cell? ⟨gb207, 4, none⟩ = some (.slice A0_4 l0_4.length c0_4) ∧ w'.cell? ⟨gb207, 5, none⟩ = some (.slice A0_5 l0_5.length c0_5)) (ds := []) (bz 26 0) (by kernel_rfl) rfl rfl ⟨(blk_cell BK207.out 0).trans rfl, (blk_cell BK207.out 1).trans rfl, (blk_cell BK207.out 2).trans rfl, (blk_cell BK207.out 3).trans rfl, (blk_cell BK207.out 4).trans rfl, (blk_cell BK207.out 5).trans rfl⟩ (fun hHeld => ?_); refine with_tabW refute_Check.tab1 refute_Check.bits1 (fun HT_ HW_ => ?_)
   generalize w27.drew = w28 at BK207 HB hHeld ⊢
   refine pu_ 1 8 HT_ ?_
   refine tk_ 0 7 HT_ HW_ hHeld ?_ (hy := by rintro w' ⟨s0, s1, s2, s3, s4, s5⟩; go_simp; with_reducible rfl)
   refine on_ 2 (some 9) HT_ (fun K hK => ?_)
   refine gs_ Try.func17 #[.agg #[.int .i64 a0_0, .int .i64 a0_1, .bool a0_2, .slice A0_3 l0_3.length c0_3, .slice A0_4 l0_4.length c0_4, .slice A0_5 l0_5.length c0_5], .int .i64 a1] ?_
   with_reducible refine (refute_loop.calls k a0_0 a0_1 a0_2 _ _ l0_3 _ _ l0_4 _ _ l0_5 a1 true _ ?side1 ?side2 ?side3 ?side4 ?side5 ?side6 A4.out).mono ?_
   (case side1 => exact CB_ HR0_3)
   (case side2 => exact HC0_3.out)
   (case side3 => exact CB_ HR0_4)
   (case side4 => exact HC0_4.out)
   (case side5 => exact CB_ HR0_5)
   (case side6 => exact HC0_5.out)
   rintro e w29 ⟨rfl, hb⟩
   refine ⟨_, rfl, ?_⟩
   have n0_ := Aside0.mk (blk_below (K_ BK207) hb)
   have n1_ := Aside0.mk (below_step bl_ hb)
   clear BK207
   clear HB
   have BK207 := n0_
   have HB := n1_
   clear n0_ n1_
   refine hK.out _ _ ⟨(blk_cell BK207.out 0).trans rfl, (blk_cell BK207.out 1).trans rfl, (blk_cell BK207.out 2).trans rfl, (blk_cell BK207.out 3).trans rfl, (blk_cell BK207.out 4).trans rfl, (blk_cell BK207.out 5).trans rfl⟩ (fun hHeld => ?_)
   clear hK K
   refine no_ 9 ?_
   refine pu_ 3 10 HT_ ?_
   refine pu_ 4 11 HT_ ?_
   refine pu_ 5 12 HT_ ?_
   refine pu_ 6 13 HT_ ?_
   refine pu_ 7 14 HT_ ?_
   refine pu_ 8 15 HT_ ?_
   refine pn_ 9 16 HT_ ?_
   refine pn_ 10 17 HT_ ?_
   refine pn_ 11 18 HT_ ?_
   refine pu_ 12 19 HT_ ?_
   refine pu_ 13 20 HT_ ?_
   refine pn_ 14 21 HT_ ?_
   refine pn_ 15 22 HT_ ?_
   refine pu_ 16 23 HT_ ?_
   refine pu_ 17 24 HT_ ?_
   refine pn_ 18 25 HT_ ?_
   refine pn_ 19 26 HT_ ?_
   refine pn_ 20 27 HT_ ?_
   refine pn_ 21 28 HT_ ?_
   refine pn_ 22 29 HT_ ?_
   refine pn_ 23 30 HT_ ?_
   refine pu_ 24 31 HT_ ?_
   refine pu_ 25 6 HT_ ?_
   refine done_ (done_of HT_.out (by kernel_rfl)) ?_
   try go_wp2
   go_ret
   exact ⟨by first | rfl | (simp [errW_none, errW_some] <;> rfl) | (simp [*, errW_none, errW_some] <;> rfl), by repeat (first | (with_reducible first | exact HB.out | apply below_alloc | apply pw_below_drewN | apply below_drew1 | refine below_set ?_ GE207.out) | exact HB.out)⟩
 replace c5 := Bool.eq_false_iff.mpr c5
 subst c5
 have H1 : (some false) = some r := by rw [if_neg (show ¬ (false = true) by decide)] at H; exact H
 clear H
 have H := H1
 clear H1
 obtain rfl := Option.some.inj H
 go_enter Try.func8, Try.ntmps8
 try go_wp2_with (first | ((with_reducible refine gate_dst (N := 3) rfl ?_); (try (refine gate_guard (by rfl) ?_; dsimp only)); refine box_event ?hg (N := 3) ?hd (cs := #[.int .i64 a0_0, .int .i64 a0_1, .bool a0_2, .slice A0_3 l0_3.length c0_3, .slice A0_4 l0_4.length c0_4, .slice A0_5 l0_5.length c0_5]) (t := 26) ?hr ?_; (case hd => rfl); (case hg => rfl); (case hr => first | (go_simp; done) | (go_simp; rfl)); intro gb207 hg w30 hbox hb; have n0_ := Aside0.mk (below_step bl_ hb); have n1_ := Aside0.mk (hbox); have n2_ := Aside0.mk (gl_ (w := w) hg); have n3_ := Aside0.mk (gl_ (w := w) hg); clear HB; have HB := n0_; have BK207 := n1_; have GW207 := n2_; have GE207 := n3_; clear n0_ n1_ n2_ n3_; clear hb hbox hg))
 have n0_ := Aside0.mk (blk_drew BK207.out)
 have n1_ := Aside0.mk (below_drew1 HB.out)
 clear BK207
 clear HB
 have BK207 := n0_
 have HB := n1_
 clear n0_ n1_
 refine start_ (n := 26) (S := fun w' => w'.cell? ⟨gb207, 0, none⟩ = some (.int .i64 a0_0) ∧ w'.cell? ⟨gb207, 1, none⟩ = some (.int .i64 a0_1) ∧ w'.cell? ⟨gb207, 2, none⟩ = some (.bool a0_2) ∧ w'.cell? ⟨gb207, 3, none⟩ = some (.slice A0_3 l0_3.length c0_3) ∧ w'.cell? ⟨gb207, 4, none⟩ = some (.slice A0_4 l0_4.length c0_4) ∧ w'.cell? ⟨gb207, 5, none⟩ = some (.slice A0_5 l0_5.length c0_5)) (ds := []) (bz 26 0) (by kernel_rfl) rfl rfl ⟨(blk_cell BK207.out 0).trans rfl, (blk_cell BK207.out 1).trans rfl, (blk_cell BK207.out 2).trans rfl, (blk_cell BK207.out 3).trans rfl, (blk_cell BK207.out 4).trans rfl, (blk_cell BK207.out 5).trans rfl⟩ (fun hHeld => ?_); refine with_tabW refute_Check.tab1 refute_Check.bits1 (fun HT_ HW_ => ?_)
 generalize w30.drew = w31 at BK207 HB hHeld ⊢
 refine pu_ 1 8 HT_ ?_
 refine tk_ 0 7 HT_ HW_ hHeld ?_ (hy := by rintro w' ⟨s0, s1, s2, s3, s4, s5⟩; go_simp; with_reducible rfl)
 refine on_ 2 (some 9) HT_ (fun K hK => ?_)
 refine gs_ Try.func17 #[.agg #[.int .i64 a0_0, .int .i64 a0_1, .bool a0_2, .slice A0_3 l0_3.length c0_3, .slice A0_4 l0_4.length c0_4, .slice A0_5 l0_5.length c0_5], .int .i64 a1] ?_
 with_reducible refine (refute_loop.calls k a0_0 a0_1 a0_2 _ _ l0_3 _ _ l0_4 _ _ l0_5 a1 false _ ?side1 ?side2 ?side3 ?side4 ?side5 ?side6 A4.out).mono ?_
 (case side1 => exact CB_ HR0_3)
 (case side2 => exact HC0_3.out)
 (case side3 => exact CB_ HR0_4)
 (case side4 => exact HC0_4.out)
 (case side5 => exact CB_ HR0_5)
 (case side6 => exact HC0_5.out)
 rintro e w32 ⟨rfl, hb⟩
 refine ⟨_, rfl, ?_⟩
 have n0_ := Aside0.mk (blk_below (K_ BK207) hb)
 have n1_ := Aside0.mk (below_step bl_ hb)
 clear BK207
 clear HB
 have BK207 := n0_
 have HB := n1_
 clear n0_ n1_
 refine hK.out _ _ ⟨(blk_cell BK207.out 0).trans rfl, (blk_cell BK207.out 1).trans rfl, (blk_cell BK207.out 2).trans rfl, (blk_cell BK207.out 3).trans rfl, (blk_cell BK207.out 4).trans rfl, (blk_cell BK207.out 5).trans rfl⟩ (fun hHeld => ?_)
 clear hK K
 refine no_ 9 ?_
 refine pu_ 3 10 HT_ ?_
 refine pn_ 4 11 HT_ ?_
 refine pn_ 5 12 HT_ ?_
 refine pn_ 6 13 HT_ ?_
 refine pu_ 7 14 HT_ ?_
 refine pu_ 8 15 HT_ ?_
 refine pn_ 9 16 HT_ ?_
 refine pn_ 10 17 HT_ ?_
 refine pn_ 11 18 HT_ ?_
 refine pu_ 12 19 HT_ ?_
 refine pu_ 13 20 HT_ ?_
 refine pn_ 14 21 HT_ ?_
 refine pn_ 15 22 HT_ ?_
 refine pu_ 16 23 HT_ ?_
 refine pu_ 17 24 HT_ ?_
 refine pn_ 18 25 HT_ ?_
 refine pn_ 19 26 HT_ ?_
 refine pn_ 20 27 HT_ ?_
 refine pn_ 21 28 HT_ ?_
 refine pn_ 22 29 HT_ ?_
 refine pn_ 23 30 HT_ ?_
 refine pu_ 24 31 HT_ ?_
 refine pu_ 25 6 HT_ ?_
 refine done_ (done_of HT_.out (by kernel_rfl)) ?_
 try go_wp2
 go_ret
 exact ⟨by first | rfl | (simp [errW_none, errW_some] <;> rfl) | (simp [*, errW_none, errW_some] <;> rfl), by repeat (first | (with_reducible first | exact HB.out | apply below_alloc | apply pw_below_drewN | apply below_drew1 | refine below_set ?_ GE207.out) | exact HB.out)⟩
end Go.Proofs.Ytpmlbbglekaidaa.PAll
