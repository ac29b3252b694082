-- Written for this claim by programs of this session (wip/print2 in its repo: a changed printer, a shortener, a packer). Lean checks it.
import Derived.Test.YtpmlbbglekaidaaP0
import Derived.Test.YtpmlbbglekaidaaF11
import Derived.Test.YtpmlbbglekaidaaF6
import Derived.Test.YtpmlbbglekaidaaF7
import Derived.Test.YtpmlbbglekaidaaF8
namespace Go.Proofs.Ytpmlbbglekaidaa.PAll
open Go.RowKit Go.Proofs.YtpmlbbglekaidaaW.PrintWords Go.Proofs.YtpmlbbglekaidaaW.PrintLast Go.Proofs.YtpmlbbglekaidaaW.PrintMore
attribute [local go_sem] max2_int min2_int max_two min_two max_three min_three max_four min_four   -- for this text's walks alone
set_option linter.unusedVariables false
set_option linter.unusedSimpArgs false

/-! ### jacquardlaw34_RefuteSchedules: function 4 -/
def jacquardlaw34_RefuteSchedules.j0 : Nat → List (S54) → Bool → Int → Int → Bool → List (S48) → List (S50) → List (S52) → Int → Int → List Int → List Int → List Int → Option (Bool)
  | 0, _, _, _, _, _, _, _, _, _, _, _, _, _ => none
  | k + 1, x2, x32, x376000, x376001, x376002, x376003, x376004, x376005, x377000, x377001, x377002, x377003, x377004 => if x32 = true then ((jacquardlaw34_awake.f k).bind fun t379 => (some t379)) else ((refute_Check.f k x376000 x376001 x376002 x376003 x376004 x376005 x377000 x2).bind fun t380 => (if t380 = true then ((jacquardref28_Legal.f k x376000 x376001 x376002 x376003 x376004 x376005 x377000 x377001 x377002 x377003 x377004).bind fun t381 => (some (!t381))) else (some true)))
def jacquardlaw34_RefuteSchedules.f (k : Nat) (a0_0 : Int) (a0_1 : Int) (a0_2 : Bool) (l0_3 : List (S48)) (l0_4 : List (S50)) (l0_5 : List (S52)) (a1_0 : Int) (a1_1 : Int) (l1_2 : List Int) (l1_3 : List Int) (l1_4 : List Int) (l2 : List (S54)) : Option (Bool) := (jacquardlaw34_awake.f k).bind fun t377 => (if t377 = true then ((jacquardlaw34_few.f k a0_0 a0_1 a0_2 l0_3 l0_4 l0_5 l2).bind fun t378 => (if t378 = true then (if (l1_2.length : Int) > 20 then (jacquardlaw34_RefuteSchedules.j0 k l2 true a0_0 a0_1 a0_2 l0_3 l0_4 l0_5 a1_0 a1_1 l1_2 l1_3 l1_4) else (if (l1_4.length : Int) > 20 then (jacquardlaw34_RefuteSchedules.j0 k l2 true a0_0 a0_1 a0_2 l0_3 l0_4 l0_5 a1_0 a1_1 l1_2 l1_3 l1_4) else (jacquardlaw34_RefuteSchedules.j0 k l2 (decide ((l1_3.length : Int) > 20)) a0_0 a0_1 a0_2 l0_3 l0_4 l0_5 a1_0 a1_1 l1_2 l1_3 l1_4))) else (jacquardlaw34_RefuteSchedules.j0 k l2 true a0_0 a0_1 a0_2 l0_3 l0_4 l0_5 a1_0 a1_1 l1_2 l1_3 l1_4))) else (jacquardlaw34_RefuteSchedules.j0 k l2 true a0_0 a0_1 a0_2 l0_3 l0_4 l0_5 a1_0 a1_1 l1_2 l1_3 l1_4))
theorem jacquardlaw34_RefuteSchedules.mono_l : ∀ k, (∀ y0 y1 y2 y3 y4 y5 y6 y7 y8 y9 y10 y11 y12, LeO (jacquardlaw34_RefuteSchedules.j0 k y0 y1 y2 y3 y4 y5 y6 y7 y8 y9 y10 y11 y12) (jacquardlaw34_RefuteSchedules.j0 (k + 1) y0 y1 y2 y3 y4 y5 y6 y7 y8 y9 y10 y11 y12))
  | 0 => fun _ _ _ _ _ _ _ _ _ _ _ _ _ r h => by simp [jacquardlaw34_RefuteSchedules.j0] at h
  | k + 1 => by
    have ih0 := jacquardlaw34_RefuteSchedules.mono_l k
    intros
    unfold jacquardlaw34_RefuteSchedules.j0
    repeat' first | (with_reducible first | apply ih0 | apply jacquardlaw34_awake.mono | apply jacquardlaw34_few.mono | apply jacquardref28_Legal.mono | apply refute_Check.mono | exact LeO.refl _ | exact LeO.none _ | refine LeO.ite ?_ ?_ | refine LeO.bind ?_ (fun _ => ?_)) | apply ih0 | apply jacquardlaw34_awake.mono | apply jacquardlaw34_few.mono | apply jacquardref28_Legal.mono | apply refute_Check.mono | exact LeO.none _ | refine LeO.ite ?_ ?_ | refine LeO.bind ?_ (fun _ => ?_)
theorem jacquardlaw34_RefuteSchedules.mono : ∀ a0 a1 a2 a3 a4 a5 a6 a7 a8 a9 a10 a11 k, LeO (jacquardlaw34_RefuteSchedules.f k a0 a1 a2 a3 a4 a5 a6 a7 a8 a9 a10 a11) (jacquardlaw34_RefuteSchedules.f (k + 1) a0 a1 a2 a3 a4 a5 a6 a7 a8 a9 a10 a11) := by
 intro a0 a1 a2 a3 a4 a5 a6 a7 a8 a9 a10 a11 k
 have ih0 := jacquardlaw34_RefuteSchedules.mono_l k
 unfold jacquardlaw34_RefuteSchedules.f
 repeat' first | (with_reducible first | apply ih0 | apply jacquardlaw34_awake.mono | apply jacquardlaw34_few.mono | apply jacquardref28_Legal.mono | apply refute_Check.mono | exact LeO.refl _ | exact LeO.none _ | refine LeO.ite ?_ ?_ | refine LeO.bind ?_ (fun _ => ?_)) | apply ih0 | apply jacquardlaw34_awake.mono | apply jacquardlaw34_few.mono | apply jacquardref28_Legal.mono | apply refute_Check.mono | exact LeO.none _ | refine LeO.ite ?_ ?_ | refine LeO.bind ?_ (fun _ => ?_)
set_option maxHeartbeats 8000000 in
set_option maxRecDepth 100000 in
theorem jacquardlaw34_RefuteSchedules.calls (k : Nat) (a0_0 : Int) (a0_1 : Int) (a0_2 : Bool) (A0_3 : Option Addr) (c0_3 : Nat) (l0_3 : List (S48)) (A0_4 : Option Addr) (c0_4 : Nat) (l0_4 : List (S50)) (A0_5 : Option Addr) (c0_5 : Nat) (l0_5 : List (S52)) (a1_0 : Int) (a1_1 : Int) (A1_2 : Option Addr) (c1_2 : Nat) (l1_2 : List Int) (A1_3 : Option Addr) (c1_3 : Nat) (l1_3 : List Int) (A1_4 : Option Addr) (c1_4 : Nat) (l1_4 : List Int) (A2 : Option Addr) (c2 : Nat) (l2 : List (S54)) (r : Bool) (w : World) (hr0_3 : Kd.C k48 w A0_3 l0_3.length l0_3) (hc0_3 : l0_3.length ≤ c0_3) (hr0_4 : Kd.C k50 w A0_4 l0_4.length l0_4) (hc0_4 : l0_4.length ≤ c0_4) (hr0_5 : Kd.C k52 w A0_5 l0_5.length l0_5) (hc0_5 : l0_5.length ≤ c0_5) (hr1_2 : Kd.C (Kd.int .i64) w A1_2 l1_2.length l1_2) (hc1_2 : l1_2.length ≤ c1_2) (hr1_3 : Kd.C (Kd.int .i64) w A1_3 l1_3.length l1_3) (hc1_3 : l1_3.length ≤ c1_3) (hr1_4 : Kd.C (Kd.int .i64) w A1_4 l1_4.length l1_4) (hc1_4 : l1_4.length ≤ c1_4) (hr2 : Kd.C k54 w A2 l2.length l2) (hc2 : l2.length ≤ c2) (h : jacquardlaw34_RefuteSchedules.f k a0_0 a0_1 a0_2 l0_3 l0_4 l0_5 a1_0 a1_1 l1_2 l1_3 l1_4 l2 = some r) (hr_ : r = true) :
    Calls Try.prog 4 #[.agg #[.int .i64 a0_0, .int .i64 a0_1, .bool a0_2, .slice A0_3 l0_3.length c0_3, .slice A0_4 l0_4.length c0_4, .slice A0_5 l0_5.length c0_5], .agg #[.int .i64 a1_0, .int .i64 a1_1, .slice A1_2 l1_2.length c1_2, .slice A1_3 l1_3.length c1_3, .slice A1_4 l1_4.length c1_4], .slice A2 l2.length c2] w fun e w' => e = .returned (.bool r) ∧ Below w.heap.size w w' := by
 have hu26 := Try.underlying26
 have hu35 := Try.underlying35
 have HR0_3 := Aside0.mk hr0_3
 have HC0_3 := Aside0.mk hc0_3
 clear hr0_3 hc0_3
 have HR0_4 := Aside0.mk hr0_4
 have HC0_4 := Aside0.mk hc0_4
 clear hr0_4 hc0_4
 have HR0_5 := Aside0.mk hr0_5
 have HC0_5 := Aside0.mk hc0_5
 clear hr0_5 hc0_5
 have HR1_2 := Aside0.mk hr1_2
 have HC1_2 := Aside0.mk hc1_2
 clear hr1_2 hc1_2
 have HR1_3 := Aside0.mk hr1_3
 have HC1_3 := Aside0.mk hc1_3
 clear hr1_3 hc1_3
 have HR1_4 := Aside0.mk hr1_4
 have HC1_4 := Aside0.mk hc1_4
 clear hr1_4 hc1_4
 have HR2 := Aside0.mk hr2
 have HC2 := Aside0.mk hc2
 clear hr2 hc2
 have HB := Aside0.mk (Below.refl w.heap.size w)
 have HRT_ := Aside0.mk hr_
 clear hr_
 have H : ((jacquardlaw34_awake.f k).bind fun t377 => (if t377 = true then ((jacquardlaw34_few.f k a0_0 a0_1 a0_2 l0_3 l0_4 l0_5 l2).bind fun t378 => (if t378 = true then (if (l1_2.length : Int) > 20 then (jacquardlaw34_RefuteSchedules.j0 k l2 true a0_0 a0_1 a0_2 l0_3 l0_4 l0_5 a1_0 a1_1 l1_2 l1_3 l1_4) else (if (l1_4.length : Int) > 20 then (jacquardlaw34_RefuteSchedules.j0 k l2 true a0_0 a0_1 a0_2 l0_3 l0_4 l0_5 a1_0 a1_1 l1_2 l1_3 l1_4) else (jacquardlaw34_RefuteSchedules.j0 k l2 (decide ((l1_3.length : Int) > 20)) a0_0 a0_1 a0_2 l0_3 l0_4 l0_5 a1_0 a1_1 l1_2 l1_3 l1_4))) else (jacquardlaw34_RefuteSchedules.j0 k l2 true a0_0 a0_1 a0_2 l0_3 l0_4 l0_5 a1_0 a1_1 l1_2 l1_3 l1_4))) else (jacquardlaw34_RefuteSchedules.j0 k l2 true a0_0 a0_1 a0_2 l0_3 l0_4 l0_5 a1_0 a1_1 l1_2 l1_3 l1_4))) = some r := h
 clear h
 have HC4 := Aside0.mk H
 clear H
 go_enter Try.func4, Try.ntmps4
 go_upto_region 1 with (first | ((with_reducible refine gate_dst (N := 3) rfl ?_); (try (refine gate_guard (by rfl) ?_; dsimp only)); refine box_event ?hg (N := 3) ?hd (cs := #[.int .i64 a0_0, .int .i64 a0_1, .bool a0_2, .slice A0_3 l0_3.length c0_3, .slice A0_4 l0_4.length c0_4, .slice A0_5 l0_5.length c0_5]) (t := 26) ?hr ?_; (case hd => rfl); (case hg => rfl); (case hr => first | (go_simp; done) | (go_simp; rfl)); intro gb375 hg w5 hbox hb; have n0_ := Aside0.mk (below_step bl_ hb); have n1_ := Aside0.mk (hbox); have n2_ := Aside0.mk (gl_ (w := w) hg); have n3_ := Aside0.mk (gl_ (w := w) hg); clear HB; have HB := n0_; have BK375 := n1_; have GW375 := n2_; have GE375 := n3_; clear n0_ n1_ n2_ n3_; clear hb hbox hg) | ((with_reducible refine gate_dst (N := 4) rfl ?_); (try (refine gate_guard (by rfl) ?_; dsimp only)); refine box_event ?hg (N := 4) ?hd (cs := #[.int .i64 a1_0, .int .i64 a1_1, .slice A1_2 l1_2.length c1_2, .slice A1_3 l1_3.length c1_3, .slice A1_4 l1_4.length c1_4]) (t := 35) ?hr ?_; (case hd => rfl); (case hg => rfl); (case hr => first | (go_simp; done) | (go_simp; rfl)); intro gb376 hg w6 hbox hb; have n0_ := Aside0.mk (blk_below (K_ BK375) hb); have n1_ := Aside0.mk (below_step bl_ hb); have n2_ := Aside0.mk (hbox); have n3_ := Aside0.mk (gl_ (w := w) hg); have n4_ := Aside0.mk (gl_ (w := w) hg); have n5_ := Aside0.mk (nl_ hg (K_ BK375)); have n6_ := Aside0.mk (ng_ hg (K_ BK375)); clear BK375; clear HB; have BK375 := n0_; have HB := n1_; have BK376 := n2_; have GW376 := n3_; have GE376 := n4_; have NB375_376 := n5_; have NB376_375 := n6_; clear n0_ n1_ n2_ n3_ n4_ n5_ n6_; clear hb hbox hg))
 (try simp only [Act.put, List.setIfInBounds_toArray, List.set_cons_zero, List.set_cons_succ])
 go_cut [32] (fun v32 wc => ∃ (kq : Nat) (x32_3 : Bool), v32 = .bool x32_3 ∧ Aside0 (jacquardlaw34_RefuteSchedules.j0 kq l2 x32_3 a0_0 a0_1 a0_2 l0_3 l0_4 l0_5 a1_0 a1_1 l1_2 l1_3 l1_4 = some r) ∧ Aside0 (kq ≤ k) ∧ Aside0 (wc.heap[gb375]? = some (.cells #[.int .i64 a0_0, .int .i64 a0_1, .bool a0_2, (.slice A0_3 l0_3.length c0_3), (.slice A0_4 l0_4.length c0_4), (.slice A0_5 l0_5.length c0_5)] 26 (0, 0))) ∧ Aside0 (wc.heap[gb376]? = some (.cells #[.int .i64 a1_0, .int .i64 a1_1, (.slice A1_2 l1_2.length c1_2), (.slice A1_3 l1_3.length c1_3), (.slice A1_4 l1_4.length c1_4)] 35 (0, 0))) ∧ Aside0 (Below w.heap.size w wc))
 case first =>
  have H := HC4.out
  clear HC4
  replace H := Option.bind_eq_some_iff.mp H
  obtain ⟨t377, A70, H⟩ := H
  replace H : (if t377 = true then ((jacquardlaw34_few.f k a0_0 a0_1 a0_2 l0_3 l0_4 l0_5 l2).bind fun t378 => (if t378 = true then (if (l1_2.length : Int) > 20 then (jacquardlaw34_RefuteSchedules.j0 k l2 true a0_0 a0_1 a0_2 l0_3 l0_4 l0_5 a1_0 a1_1 l1_2 l1_3 l1_4) else (if (l1_4.length : Int) > 20 then (jacquardlaw34_RefuteSchedules.j0 k l2 true a0_0 a0_1 a0_2 l0_3 l0_4 l0_5 a1_0 a1_1 l1_2 l1_3 l1_4) else (jacquardlaw34_RefuteSchedules.j0 k l2 (decide ((l1_3.length : Int) > 20)) a0_0 a0_1 a0_2 l0_3 l0_4 l0_5 a1_0 a1_1 l1_2 l1_3 l1_4))) else (jacquardlaw34_RefuteSchedules.j0 k l2 true a0_0 a0_1 a0_2 l0_3 l0_4 l0_5 a1_0 a1_1 l1_2 l1_3 l1_4))) else (jacquardlaw34_RefuteSchedules.j0 k l2 true a0_0 a0_1 a0_2 l0_3 l0_4 l0_5 a1_0 a1_1 l1_2 l1_3 l1_4)) = some r := H
  have A7 := Aside0.mk A70
  clear A70
  by_cases c8 : t377 = true
  · subst c8
    have H1 : ((jacquardlaw34_few.f k a0_0 a0_1 a0_2 l0_3 l0_4 l0_5 l2).bind fun t378 => (if t378 = true then (if (l1_2.length : Int) > 20 then (jacquardlaw34_RefuteSchedules.j0 k l2 true a0_0 a0_1 a0_2 l0_3 l0_4 l0_5 a1_0 a1_1 l1_2 l1_3 l1_4) else (if (l1_4.length : Int) > 20 then (jacquardlaw34_RefuteSchedules.j0 k l2 true a0_0 a0_1 a0_2 l0_3 l0_4 l0_5 a1_0 a1_1 l1_2 l1_3 l1_4) else (jacquardlaw34_RefuteSchedules.j0 k l2 (decide ((l1_3.length : Int) > 20)) a0_0 a0_1 a0_2 l0_3 l0_4 l0_5 a1_0 a1_1 l1_2 l1_3 l1_4))) else (jacquardlaw34_RefuteSchedules.j0 k l2 true a0_0 a0_1 a0_2 l0_3 l0_4 l0_5 a1_0 a1_1 l1_2 l1_3 l1_4))) = some r := by rw [if_pos rfl] at H; exact H
    clear H
    have H := H1
    clear H1
    replace H := Option.bind_eq_some_iff.mp H
    obtain ⟨t378, A90, H⟩ := H
    replace H : (if t378 = true then (if (l1_2.length : Int) > 20 then (jacquardlaw34_RefuteSchedules.j0 k l2 true a0_0 a0_1 a0_2 l0_3 l0_4 l0_5 a1_0 a1_1 l1_2 l1_3 l1_4) else (if (l1_4.length : Int) > 20 then (jacquardlaw34_RefuteSchedules.j0 k l2 true a0_0 a0_1 a0_2 l0_3 l0_4 l0_5 a1_0 a1_1 l1_2 l1_3 l1_4) else (jacquardlaw34_RefuteSchedules.j0 k l2 (decide ((l1_3.length : Int) > 20)) a0_0 a0_1 a0_2 l0_3 l0_4 l0_5 a1_0 a1_1 l1_2 l1_3 l1_4))) else (jacquardlaw34_RefuteSchedules.j0 k l2 true a0_0 a0_1 a0_2 l0_3 l0_4 l0_5 a1_0 a1_1 l1_2 l1_3 l1_4)) = some r := H
    have A9 := Aside0.mk A90
    clear A90
    by_cases c10 : t378 = true
    · subst c10
      have H1 : (if (l1_2.length : Int) > 20 then (jacquardlaw34_RefuteSchedules.j0 k l2 true a0_0 a0_1 a0_2 l0_3 l0_4 l0_5 a1_0 a1_1 l1_2 l1_3 l1_4) else (if (l1_4.length : Int) > 20 then (jacquardlaw34_RefuteSchedules.j0 k l2 true a0_0 a0_1 a0_2 l0_3 l0_4 l0_5 a1_0 a1_1 l1_2 l1_3 l1_4) else (jacquardlaw34_RefuteSchedules.j0 k l2 (decide ((l1_3.length : Int) > 20)) a0_0 a0_1 a0_2 l0_3 l0_4 l0_5 a1_0 a1_1 l1_2 l1_3 l1_4))) = some r := by rw [if_pos rfl] at H; exact H
      clear H
      have H := H1
      clear H1
      by_cases c11 : (l1_2.length : Int) > 20
      · rw [if_pos c11] at H
        have c11b0 : decide (20 < (l1_2.length : Int)) = true := decide_eq_true c11
        have c11b1 : decide (20 < l1_2.length) = true := decide_eq_true (by omega)
        clear c11
        (first | rw [c11b0] | (simp only [i64_w, i32_w]; rw [c11b0]) | skip)
        have H' := Aside0.mk H
        clear H
        go_wp2_with (first | ((with_reducible refine gate_callee (f := 6) rfl ?_); refine gL_ 7 Try.func6 #[] ?_; (with_reducible refine (jacquardlaw34_awake.calls k  true _ A7.out).mono ?_); rintro e w12 ⟨rfl, hb⟩; refine ⟨_, rfl, ?_⟩; have n0_ := Aside0.mk (blk_below (K_ BK375) hb); have n1_ := Aside0.mk (blk_below (K_ BK376) hb); have n2_ := Aside0.mk (below_step bl_ hb); clear BK375; clear BK376; clear HB; have BK375 := n0_; have BK376 := n1_; have HB := n2_; clear n0_ n1_ n2_; (try clear hb); (try clear hb2); (try clear hk); (try clear hi); obtain ⟨hcz14_0, hcz14_1, hcz14_2, hcz14_3, hcz14_4, hcz14_5⟩ := cells6 BK375) | (go_at_call 7; (with_reducible refine (jacquardlaw34_few.calls k a0_0 a0_1 a0_2 _ _ l0_3 _ _ l0_4 _ _ l0_5 _ _ l2 true _ ?side1 ?side2 ?side3 ?side4 ?side5 ?side6 ?side7 ?side8 A9.out).mono ?_); (case side1 => exact CB_ HR0_3); (case side2 => exact HC0_3.out); (case side3 => exact CB_ HR0_4); (case side4 => exact HC0_4.out); (case side5 => exact CB_ HR0_5); (case side6 => exact HC0_5.out); (case side7 => exact CB_ HR2); (case side8 => exact HC2.out); rintro e w15 ⟨rfl, hb⟩; have n0_ := Aside0.mk (blk_below (K_ BK375) hb); have n1_ := Aside0.mk (blk_below (K_ BK376) hb); have n2_ := Aside0.mk (below_step bl_ hb); clear BK375; clear BK376; clear HB; have BK375 := n0_; have BK376 := n1_; have HB := n2_; clear n0_ n1_ n2_; (try clear hb); (try clear hb2); (try clear hk); (try clear hi); obtain ⟨hcz16_0, hcz16_1, hcz16_2, hcz16_3, hcz16_4⟩ := cells5 BK376))
        go_meet
        case rel => exact ⟨_, (true), (by first | rfl | (simp; done) | (simp [*]; done)), H', ⟨by first | omega | exact Nat.le_refl _⟩, ⟨K_ BK375⟩, ⟨K_ BK376⟩, ⟨bl_⟩⟩
      rw [if_neg c11] at H
      have c11b0 : decide (20 < (l1_2.length : Int)) = false := decide_eq_false c11
      have c11b1 : decide (20 < l1_2.length) = false := decide_eq_false (by omega)
      clear c11
      (first | rw [c11b0] | (simp only [i64_w, i32_w]; rw [c11b0]) | skip)
      by_cases c17 : (l1_4.length : Int) > 20
      · rw [if_pos c17] at H
        have c17b0 : decide (20 < (l1_4.length : Int)) = true := decide_eq_true c17
        have c17b1 : decide (20 < l1_4.length) = true := decide_eq_true (by omega)
        clear c17
        have H' := Aside0.mk H
        clear H
        go_wp2_with (first | ((with_reducible refine gate_callee (f := 6) rfl ?_); refine gL_ 7 Try.func6 #[] ?_; (with_reducible refine (jacquardlaw34_awake.calls k  true _ A7.out).mono ?_); rintro e w18 ⟨rfl, hb⟩; refine ⟨_, rfl, ?_⟩; have n0_ := Aside0.mk (blk_below (K_ BK375) hb); have n1_ := Aside0.mk (blk_below (K_ BK376) hb); have n2_ := Aside0.mk (below_step bl_ hb); clear BK375; clear BK376; clear HB; have BK375 := n0_; have BK376 := n1_; have HB := n2_; clear n0_ n1_ n2_; (try clear hb); (try clear hb2); (try clear hk); (try clear hi); obtain ⟨hcz20_0, hcz20_1, hcz20_2, hcz20_3, hcz20_4, hcz20_5⟩ := cells6 BK375) | (go_at_call 7; (with_reducible refine (jacquardlaw34_few.calls k a0_0 a0_1 a0_2 _ _ l0_3 _ _ l0_4 _ _ l0_5 _ _ l2 true _ ?side1 ?side2 ?side3 ?side4 ?side5 ?side6 ?side7 ?side8 A9.out).mono ?_); (case side1 => exact CB_ HR0_3); (case side2 => exact HC0_3.out); (case side3 => exact CB_ HR0_4); (case side4 => exact HC0_4.out); (case side5 => exact CB_ HR0_5); (case side6 => exact HC0_5.out); (case side7 => exact CB_ HR2); (case side8 => exact HC2.out); rintro e w21 ⟨rfl, hb⟩; have n0_ := Aside0.mk (blk_below (K_ BK375) hb); have n1_ := Aside0.mk (blk_below (K_ BK376) hb); have n2_ := Aside0.mk (below_step bl_ hb); clear BK375; clear BK376; clear HB; have BK375 := n0_; have BK376 := n1_; have HB := n2_; clear n0_ n1_ n2_; (try clear hb); (try clear hb2); (try clear hk); (try clear hi); obtain ⟨hcz22_0, hcz22_1, hcz22_2, hcz22_3, hcz22_4⟩ := cells5 BK376))
        go_meet
        case rel => exact ⟨_, (true), (by first | rfl | (simp; done) | (simp [*]; done)), H', ⟨by first | omega | exact Nat.le_refl _⟩, ⟨K_ BK375⟩, ⟨K_ BK376⟩, ⟨bl_⟩⟩
      rw [if_neg c17] at H
      have c17b0 : decide (20 < (l1_4.length : Int)) = false := decide_eq_false c17
      have c17b1 : decide (20 < l1_4.length) = false := decide_eq_false (by omega)
      clear c17
      have H' := Aside0.mk H
      clear H
      go_wp2_with (first | ((with_reducible refine gate_callee (f := 6) rfl ?_); refine gL_ 7 Try.func6 #[] ?_; (with_reducible refine (jacquardlaw34_awake.calls k  true _ A7.out).mono ?_); rintro e w23 ⟨rfl, hb⟩; refine ⟨_, rfl, ?_⟩; have n0_ := Aside0.mk (blk_below (K_ BK375) hb); have n1_ := Aside0.mk (blk_below (K_ BK376) hb); have n2_ := Aside0.mk (below_step bl_ hb); clear BK375; clear BK376; clear HB; have BK375 := n0_; have BK376 := n1_; have HB := n2_; clear n0_ n1_ n2_; (try clear hb); (try clear hb2); (try clear hk); (try clear hi); obtain ⟨hcz25_0, hcz25_1, hcz25_2, hcz25_3, hcz25_4, hcz25_5⟩ := cells6 BK375) | (go_at_call 7; (with_reducible refine (jacquardlaw34_few.calls k a0_0 a0_1 a0_2 _ _ l0_3 _ _ l0_4 _ _ l0_5 _ _ l2 true _ ?side1 ?side2 ?side3 ?side4 ?side5 ?side6 ?side7 ?side8 A9.out).mono ?_); (case side1 => exact CB_ HR0_3); (case side2 => exact HC0_3.out); (case side3 => exact CB_ HR0_4); (case side4 => exact HC0_4.out); (case side5 => exact CB_ HR0_5); (case side6 => exact HC0_5.out); (case side7 => exact CB_ HR2); (case side8 => exact HC2.out); rintro e w26 ⟨rfl, hb⟩; have n0_ := Aside0.mk (blk_below (K_ BK375) hb); have n1_ := Aside0.mk (blk_below (K_ BK376) hb); have n2_ := Aside0.mk (below_step bl_ hb); clear BK375; clear BK376; clear HB; have BK375 := n0_; have BK376 := n1_; have HB := n2_; clear n0_ n1_ n2_; (try clear hb); (try clear hb2); (try clear hk); (try clear hi); obtain ⟨hcz27_0, hcz27_1, hcz27_2, hcz27_3, hcz27_4⟩ := cells5 BK376))
      go_meet
      case rel => exact ⟨_, (decide ((l1_3.length : Int) > 20)), (by first | rfl | (simp; done) | (simp [*]; done)), H', ⟨by first | omega | exact Nat.le_refl _⟩, ⟨K_ BK375⟩, ⟨K_ BK376⟩, ⟨bl_⟩⟩
    replace c10 := Bool.eq_false_iff.mpr c10
    subst c10
    have H1 : (jacquardlaw34_RefuteSchedules.j0 k l2 true a0_0 a0_1 a0_2 l0_3 l0_4 l0_5 a1_0 a1_1 l1_2 l1_3 l1_4) = some r := by rw [if_neg (show ¬ (false = true) by decide)] at H; exact H
    clear H
    have H := H1
    clear H1
    have H' := Aside0.mk H
    clear H
    go_wp2_with (first | ((with_reducible refine gate_callee (f := 6) rfl ?_); refine gL_ 7 Try.func6 #[] ?_; (with_reducible refine (jacquardlaw34_awake.calls k  true _ A7.out).mono ?_); rintro e w28 ⟨rfl, hb⟩; refine ⟨_, rfl, ?_⟩; have n0_ := Aside0.mk (blk_below (K_ BK375) hb); have n1_ := Aside0.mk (blk_below (K_ BK376) hb); have n2_ := Aside0.mk (below_step bl_ hb); clear BK375; clear BK376; clear HB; have BK375 := n0_; have BK376 := n1_; have HB := n2_; clear n0_ n1_ n2_; (try clear hb); (try clear hb2); (try clear hk); (try clear hi); obtain ⟨hcz30_0, hcz30_1, hcz30_2, hcz30_3, hcz30_4, hcz30_5⟩ := cells6 BK375) | (go_at_call 7; (with_reducible refine (jacquardlaw34_few.calls k a0_0 a0_1 a0_2 _ _ l0_3 _ _ l0_4 _ _ l0_5 _ _ l2 false _ ?side1 ?side2 ?side3 ?side4 ?side5 ?side6 ?side7 ?side8 A9.out).mono ?_); (case side1 => exact CB_ HR0_3); (case side2 => exact HC0_3.out); (case side3 => exact CB_ HR0_4); (case side4 => exact HC0_4.out); (case side5 => exact CB_ HR0_5); (case side6 => exact HC0_5.out); (case side7 => exact CB_ HR2); (case side8 => exact HC2.out); rintro e w31 ⟨rfl, hb⟩; have n0_ := Aside0.mk (blk_below (K_ BK375) hb); have n1_ := Aside0.mk (blk_below (K_ BK376) hb); have n2_ := Aside0.mk (below_step bl_ hb); clear BK375; clear BK376; clear HB; have BK375 := n0_; have BK376 := n1_; have HB := n2_; clear n0_ n1_ n2_; (try clear hb); (try clear hb2); (try clear hk); (try clear hi)))
    go_meet
    case rel => exact ⟨_, (true), (by first | rfl | (simp; done) | (simp [*]; done)), H', ⟨by first | omega | exact Nat.le_refl _⟩, ⟨K_ BK375⟩, ⟨K_ BK376⟩, ⟨bl_⟩⟩
  replace c8 := Bool.eq_false_iff.mpr c8
  subst c8
  have H1 : (jacquardlaw34_RefuteSchedules.j0 k l2 true a0_0 a0_1 a0_2 l0_3 l0_4 l0_5 a1_0 a1_1 l1_2 l1_3 l1_4) = some r := by rw [if_neg (show ¬ (false = true) by decide)] at H; exact H
  clear H
  have H := H1
  clear H1
  have H' := Aside0.mk H
  clear H
  go_wp2_with (first | ((with_reducible refine gate_callee (f := 6) rfl ?_); refine gL_ 7 Try.func6 #[] ?_; (with_reducible refine (jacquardlaw34_awake.calls k  false _ A7.out).mono ?_); rintro e w32 ⟨rfl, hb⟩; refine ⟨_, rfl, ?_⟩; have n0_ := Aside0.mk (blk_below (K_ BK375) hb); have n1_ := Aside0.mk (blk_below (K_ BK376) hb); have n2_ := Aside0.mk (below_step bl_ hb); clear BK375; clear BK376; clear HB; have BK375 := n0_; have BK376 := n1_; have HB := n2_; clear n0_ n1_ n2_; (try clear hb); (try clear hb2); (try clear hk); (try clear hi)))
  go_meet
  case rel => exact ⟨_, (true), (by first | rfl | (simp; done) | (simp [*]; done)), H', ⟨by first | omega | exact Nat.le_refl _⟩, ⟨K_ BK375⟩, ⟨K_ BK376⟩, ⟨bl_⟩⟩
 clear HC4
 obtain ⟨kq, x32_3, rfl, HA, HJ3, BK375, BK376, HB⟩ := hcut
 cases kq with
 | zero => exact absurd HA.out (by simp [jacquardlaw34_RefuteSchedules.j0])
 | succ kj3 => ?_
 have H := HA.out
 clear HA
 simp only [jacquardlaw34_RefuteSchedules.j0] at H
 by_cases c33 : x32_3 = true
 · subst c33
   have H1 : ((jacquardlaw34_awake.f kj3).bind fun t379 => (some t379)) = some r := by rw [if_pos rfl] at H; exact H
   clear H
   have H := H1
   clear H1
   replace H := Option.bind_eq_some_iff.mp H
   obtain ⟨t379, A340, H⟩ := H
   replace H : (some t379) = some r := H
   have A34 := Aside0.mk A340
   clear A340
   obtain rfl := Option.some.inj H
   go_wp2_with (first | ((with_reducible refine gate_callee (f := 6) rfl ?_); refine gL_ 33 Try.func6 #[] ?_; (with_reducible refine (jacquardlaw34_awake.calls kj3  t379 _ A34.out).mono ?_); rintro e w35 ⟨rfl, hb⟩; refine ⟨_, rfl, ?_⟩; have n0_ := Aside0.mk (blk_below (K_ BK375) hb); have n1_ := Aside0.mk (blk_below (K_ BK376) hb); have n2_ := Aside0.mk (below_step bl_ hb); clear BK375; clear BK376; clear HB; have BK375 := n0_; have BK376 := n1_; have HB := n2_; clear n0_ n1_ n2_; (try clear hb); (try clear hb2); (try clear hk); (try clear hi)))
   go_ret
   exact ⟨by first | rfl | (simp [errW_none, errW_some] <;> rfl) | (simp [*, errW_none, errW_some] <;> rfl), by repeat (first | (with_reducible first | exact HB.out | apply below_alloc | apply pw_below_drewN | apply below_drew1 | refine below_set ?_ GE375.out | refine below_set ?_ GE376.out) | exact HB.out)⟩
 replace c33 := Bool.eq_false_iff.mpr c33
 subst c33
 have H1 : ((refute_Check.f kj3 a0_0 a0_1 a0_2 l0_3 l0_4 l0_5 a1_0 l2).bind fun t380 => (if t380 = true then ((jacquardref28_Legal.f kj3 a0_0 a0_1 a0_2 l0_3 l0_4 l0_5 a1_0 a1_1 l1_2 l1_3 l1_4).bind fun t381 => (some (!t381))) else (some true))) = some r := by rw [if_neg (show ¬ (false = true) by decide)] at H; exact H
 clear H
 have H := H1
 clear H1
 replace H := Option.bind_eq_some_iff.mp H
 obtain ⟨t380, A360, H⟩ := H
 replace H : (if t380 = true then ((jacquardref28_Legal.f kj3 a0_0 a0_1 a0_2 l0_3 l0_4 l0_5 a1_0 a1_1 l1_2 l1_3 l1_4).bind fun t381 => (some (!t381))) else (some true)) = some r := H
 have A36 := Aside0.mk A360
 clear A360
 by_cases c37 : t380 = true
 · subst c37
   have H1 : ((jacquardref28_Legal.f kj3 a0_0 a0_1 a0_2 l0_3 l0_4 l0_5 a1_0 a1_1 l1_2 l1_3 l1_4).bind fun t381 => (some (!t381))) = some r := by rw [if_pos rfl] at H; exact H
   clear H
   have H := H1
   clear H1
   replace H := Option.bind_eq_some_iff.mp H
   obtain ⟨t381, A380, H⟩ := H
   replace H : (some (!t381)) = some r := H
   have A38 := Aside0.mk A380
   clear A380
   obtain rfl := Option.some.inj H
   obtain ⟨hcz40_0, hcz40_1, hcz40_2, hcz40_3, hcz40_4, hcz40_5⟩ := cells6 BK375
   obtain ⟨hcz41_0, hcz41_1, hcz41_2, hcz41_3, hcz41_4⟩ := cells5 BK376
   go_wp2_with (first | ((with_reducible refine gate_callee (f := 8) rfl ?_); refine gL_ 38 Try.func8 #[.agg #[.int .i64 a0_0, .int .i64 a0_1, .bool a0_2, .slice A0_3 l0_3.length c0_3, .slice A0_4 l0_4.length c0_4, .slice A0_5 l0_5.length c0_5], .int .i64 a1_0, .slice A2 l2.length c2] ?_; (with_reducible refine (refute_Check.calls kj3 a0_0 a0_1 a0_2 _ _ l0_3 _ _ l0_4 _ _ l0_5 a1_0 _ _ l2 true _ ?side1 ?side2 ?side3 ?side4 ?side5 ?side6 ?side7 ?side8 A36.out).mono ?_); (case side1 => exact CB_ HR0_3); (case side2 => exact HC0_3.out); (case side3 => exact CB_ HR0_4); (case side4 => exact HC0_4.out); (case side5 => exact CB_ HR0_5); (case side6 => exact HC0_5.out); (case side7 => exact CB_ HR2); (case side8 => exact HC2.out); rintro e w42 ⟨rfl, hb⟩; refine ⟨_, rfl, ?_⟩; have n0_ := Aside0.mk (blk_below (K_ BK375) hb); have n1_ := Aside0.mk (blk_below (K_ BK376) hb); have n2_ := Aside0.mk (below_step bl_ hb); clear BK375; clear BK376; clear HB; have BK375 := n0_; have BK376 := n1_; have HB := n2_; clear n0_ n1_ n2_; (try clear hb); (try clear hb2); (try clear hk); (try clear hi); obtain ⟨hcz43_0, hcz43_1, hcz43_2, hcz43_3, hcz43_4, hcz43_5⟩ := cells6 BK375; obtain ⟨hcz44_0, hcz44_1, hcz44_2, hcz44_3, hcz44_4⟩ := cells5 BK376) | (go_at_call 11; (with_reducible refine (jacquardref28_Legal.calls kj3 a0_0 a0_1 a0_2 _ _ l0_3 _ _ l0_4 _ _ l0_5 a1_0 a1_1 _ _ l1_2 _ _ l1_3 _ _ l1_4 t381 _ ?side1 ?side2 ?side3 ?side4 ?side5 ?side6 ?side7 ?side8 ?side9 ?side10 ?side11 ?side12 A38.out).mono ?_); (case side1 => exact CB_ HR0_3); (case side2 => exact HC0_3.out); (case side3 => exact CB_ HR0_4); (case side4 => exact HC0_4.out); (case side5 => exact CB_ HR0_5); (case side6 => exact HC0_5.out); (case side7 => exact CB_ HR1_2); (case side8 => exact HC1_2.out); (case side9 => exact CB_ HR1_3); (case side10 => exact HC1_3.out); (case side11 => exact CB_ HR1_4); (case side12 => exact HC1_4.out); rintro e w45 ⟨rfl, hb⟩; have n0_ := Aside0.mk (blk_below (K_ BK375) hb); have n1_ := Aside0.mk (blk_below (K_ BK376) hb); have n2_ := Aside0.mk (below_step bl_ hb); clear BK375; clear BK376; clear HB; have BK375 := n0_; have BK376 := n1_; have HB := n2_; clear n0_ n1_ n2_; (try clear hb); (try clear hb2); (try clear hk); (try clear hi)))
   go_ret
   exact ⟨by first | rfl | (simp [errW_none, errW_some] <;> rfl) | (simp [*, errW_none, errW_some] <;> rfl), by repeat (first | (with_reducible first | exact HB.out | apply below_alloc | apply pw_below_drewN | apply below_drew1 | refine below_set ?_ GE375.out | refine below_set ?_ GE376.out) | exact HB.out)⟩
 replace c37 := Bool.eq_false_iff.mpr c37
 subst c37
 have H1 : (some true) = some r := by rw [if_neg (show ¬ (false = true) by decide)] at H; exact H
 clear H
 have H := H1
 clear H1
 obtain rfl := Option.some.inj H
 obtain ⟨hcz47_0, hcz47_1, hcz47_2, hcz47_3, hcz47_4, hcz47_5⟩ := cells6 BK375
 obtain ⟨hcz48_0, hcz48_1, hcz48_2, hcz48_3, hcz48_4⟩ := cells5 BK376
 go_wp2_with (first | ((with_reducible refine gate_callee (f := 8) rfl ?_); refine gL_ 38 Try.func8 #[.agg #[.int .i64 a0_0, .int .i64 a0_1, .bool a0_2, .slice A0_3 l0_3.length c0_3, .slice A0_4 l0_4.length c0_4, .slice A0_5 l0_5.length c0_5], .int .i64 a1_0, .slice A2 l2.length c2] ?_; (with_reducible refine (refute_Check.calls kj3 a0_0 a0_1 a0_2 _ _ l0_3 _ _ l0_4 _ _ l0_5 a1_0 _ _ l2 false _ ?side1 ?side2 ?side3 ?side4 ?side5 ?side6 ?side7 ?side8 A36.out).mono ?_); (case side1 => exact CB_ HR0_3); (case side2 => exact HC0_3.out); (case side3 => exact CB_ HR0_4); (case side4 => exact HC0_4.out); (case side5 => exact CB_ HR0_5); (case side6 => exact HC0_5.out); (case side7 => exact CB_ HR2); (case side8 => exact HC2.out); rintro e w49 ⟨rfl, hb⟩; refine ⟨_, rfl, ?_⟩; have n0_ := Aside0.mk (blk_below (K_ BK375) hb); have n1_ := Aside0.mk (blk_below (K_ BK376) hb); have n2_ := Aside0.mk (below_step bl_ hb); clear BK375; clear BK376; clear HB; have BK375 := n0_; have BK376 := n1_; have HB := n2_; clear n0_ n1_ n2_; (try clear hb); (try clear hb2); (try clear hk); (try clear hi)))
 go_ret
 exact ⟨by first | rfl | (simp [errW_none, errW_some] <;> rfl) | (simp [*, errW_none, errW_some] <;> rfl), by repeat (first | (with_reducible first | exact HB.out | apply below_alloc | apply pw_below_drewN | apply below_drew1 | refine below_set ?_ GE375.out | refine below_set ?_ GE376.out) | exact HB.out)⟩
end Go.Proofs.Ytpmlbbglekaidaa.PAll
