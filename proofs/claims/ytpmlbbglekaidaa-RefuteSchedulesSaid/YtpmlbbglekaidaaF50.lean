-- Written for this claim by programs of this session (wip/print2 in its repo: a changed printer, a shortener, a packer). Lean checks it.
import Derived.Test.YtpmlbbglekaidaaP0
namespace Go.Proofs.Ytpmlbbglekaidaa.PAll
open Go.RowKit Go.Proofs.YtpmlbbglekaidaaW.PrintWords Go.Proofs.YtpmlbbglekaidaaW.PrintLast Go.Proofs.YtpmlbbglekaidaaW.PrintMore
attribute [local go_sem] max2_int min2_int max_two min_two max_three min_three max_four min_four   -- for this text's walks alone
set_option linter.unusedVariables false
set_option linter.unusedSimpArgs false

/-! ### jacquardref28_Occupies: function 50 -/
def jacquardref28_Occupies.f (a0_0 : Int) (a0_1 : Int) (a0_2 : Bool) (l0_3 : List (S48)) (l0_4 : List (S50)) (l0_5 : List (S52)) (a1_0 : Int) (a1_1 : Int) (l1_2 : List Int) (l1_3 : List Int) (l1_4 : List Int) (a2 : Int) (a3 : Int) : Option (Bool) := if 0 ≤ a2 then (if a2 < (l1_2.length : Int) then (if a1_0 > 0 then (if a1_0 = 0 then (none) else (if (Int.tmod (wrap64 (a3 - (rd l1_2 a2))) a1_0) < 0 then (if (wrap64 ((Int.tmod (wrap64 (a3 - (rd l1_2 a2))) a1_0) + a1_0)) ≥ 0 then (if a2 < (l0_5.length : Int) then (some (decide ((wrap64 ((Int.tmod (wrap64 (a3 - (rd l1_2 a2))) a1_0) + a1_0)) < ((rd_T52 l0_5 a2).f1)))) else (none)) else (some false)) else (if (Int.tmod (wrap64 (a3 - (rd l1_2 a2))) a1_0) ≥ 0 then (if a2 < (l0_5.length : Int) then (some (decide ((Int.tmod (wrap64 (a3 - (rd l1_2 a2))) a1_0) < ((rd_T52 l0_5 a2).f1)))) else (none)) else (some false)))) else (if (wrap64 (a3 - (rd l1_2 a2))) ≥ 0 then (if a2 < (l0_5.length : Int) then (some (decide ((wrap64 (a3 - (rd l1_2 a2))) < ((rd_T52 l0_5 a2).f1)))) else (none)) else (some false))) else (none)) else (none)
set_option maxHeartbeats 8000000 in
set_option maxRecDepth 100000 in
theorem jacquardref28_Occupies.calls (a0_0 : Int) (a0_1 : Int) (a0_2 : Bool) (A0_3 : Option Addr) (c0_3 : Nat) (l0_3 : List (S48)) (A0_4 : Option Addr) (c0_4 : Nat) (l0_4 : List (S50)) (A0_5 : Option Addr) (c0_5 : Nat) (l0_5 : List (S52)) (a1_0 : Int) (a1_1 : Int) (A1_2 : Option Addr) (c1_2 : Nat) (l1_2 : List Int) (A1_3 : Option Addr) (c1_3 : Nat) (l1_3 : List Int) (A1_4 : Option Addr) (c1_4 : Nat) (l1_4 : List Int) (a2 : Int) (a3 : Int) (r : Bool) (w : World) (hr0_3 : Kd.C k48 w A0_3 l0_3.length l0_3) (hc0_3 : l0_3.length ≤ c0_3) (hr0_4 : Kd.C k50 w A0_4 l0_4.length l0_4) (hc0_4 : l0_4.length ≤ c0_4) (hr0_5 : Kd.C k52 w A0_5 l0_5.length l0_5) (hc0_5 : l0_5.length ≤ c0_5) (hr1_2 : Kd.C (Kd.int .i64) w A1_2 l1_2.length l1_2) (hc1_2 : l1_2.length ≤ c1_2) (hr1_3 : Kd.C (Kd.int .i64) w A1_3 l1_3.length l1_3) (hc1_3 : l1_3.length ≤ c1_3) (hr1_4 : Kd.C (Kd.int .i64) w A1_4 l1_4.length l1_4) (hc1_4 : l1_4.length ≤ c1_4) (h : jacquardref28_Occupies.f a0_0 a0_1 a0_2 l0_3 l0_4 l0_5 a1_0 a1_1 l1_2 l1_3 l1_4 a2 a3 = some r) :
    Calls Try.prog 50 #[.agg #[.int .i64 a0_0, .int .i64 a0_1, .bool a0_2, .slice A0_3 l0_3.length c0_3, .slice A0_4 l0_4.length c0_4, .slice A0_5 l0_5.length c0_5], .agg #[.int .i64 a1_0, .int .i64 a1_1, .slice A1_2 l1_2.length c1_2, .slice A1_3 l1_3.length c1_3, .slice A1_4 l1_4.length c1_4], .int .i64 a2, .int .i64 a3] w fun e w' => e = .returned (.bool r) ∧ Below w.heap.size w w' := by
 have hu26 := Try.underlying26
 have hu35 := Try.underlying35
 have HR0_3 := Aside0.mk hr0_3
 have HC0_3 := Aside0.mk hc0_3
 clear hr0_3 hc0_3
 have HR0_4 := Aside0.mk hr0_4
 have HC0_4 := Aside0.mk hc0_4
 clear hr0_4 hc0_4
 have HR0_5 := Aside0.mk hr0_5
 have HC0_5 := Aside0.mk hc0_5
 clear hr0_5 hc0_5
 have HR1_2 := Aside0.mk hr1_2
 have HC1_2 := Aside0.mk hc1_2
 clear hr1_2 hc1_2
 have HR1_3 := Aside0.mk hr1_3
 have HC1_3 := Aside0.mk hc1_3
 clear hr1_3 hc1_3
 have HR1_4 := Aside0.mk hr1_4
 have HC1_4 := Aside0.mk hc1_4
 clear hr1_4 hc1_4
 have HB := Aside0.mk (Below.refl w.heap.size w)
 have H : (if 0 ≤ a2 then (if a2 < (l1_2.length : Int) then (if a1_0 > 0 then (if a1_0 = 0 then (none) else (if (Int.tmod (wrap64 (a3 - (rd l1_2 a2))) a1_0) < 0 then (if (wrap64 ((Int.tmod (wrap64 (a3 - (rd l1_2 a2))) a1_0) + a1_0)) ≥ 0 then (if a2 < (l0_5.length : Int) then (some (decide ((wrap64 ((Int.tmod (wrap64 (a3 - (rd l1_2 a2))) a1_0) + a1_0)) < ((rd_T52 l0_5 a2).f1)))) else (none)) else (some false)) else (if (Int.tmod (wrap64 (a3 - (rd l1_2 a2))) a1_0) ≥ 0 then (if a2 < (l0_5.length : Int) then (some (decide ((Int.tmod (wrap64 (a3 - (rd l1_2 a2))) a1_0) < ((rd_T52 l0_5 a2).f1)))) else (none)) else (some false)))) else (if (wrap64 (a3 - (rd l1_2 a2))) ≥ 0 then (if a2 < (l0_5.length : Int) then (some (decide ((wrap64 (a3 - (rd l1_2 a2))) < ((rd_T52 l0_5 a2).f1)))) else (none)) else (some false))) else (none)) else (none)) = some r := h
 clear h
 by_cases c5 : 0 ≤ a2
 · rw [if_pos c5] at H
   have c5b0 : decide (0 ≤ a2) = true := decide_eq_true c5
   clear c5
   by_cases c6 : a2 < (l1_2.length : Int)
   · rw [if_pos c6] at H
     have c6b0 : decide (a2 < (l1_2.length : Int)) = true := decide_eq_true c6
     clear c6
     by_cases c7 : a1_0 > 0
     · rw [if_pos c7] at H
       have c7b0 : decide (0 < a1_0) = true := decide_eq_true c7
       clear c7
       by_cases c8 : a1_0 = 0
       · rw [if_pos c8] at H
         exact absurd H (by simp)
       rw [if_neg c8] at H
       have c8b0 : (a1_0 == 0) = false := beq_eq_false_iff_ne.mpr c8
       have c8b1 : (a1_0 != 0) = true := bne_iff_ne.mpr c8
       by_cases c9 : (Int.tmod (wrap64 (a3 - (rd l1_2 a2))) a1_0) < 0
       · rw [if_pos c9] at H
         have c9b0 : decide ((Int.tmod (wrap64 (a3 - (rd l1_2 a2))) a1_0) < 0) = true := decide_eq_true c9
         clear c9
         by_cases c10 : (wrap64 ((Int.tmod (wrap64 (a3 - (rd l1_2 a2))) a1_0) + a1_0)) ≥ 0
         · rw [if_pos c10] at H
           have c10b0 : decide (0 ≤ (wrap64 ((Int.tmod (wrap64 (a3 - (rd l1_2 a2))) a1_0) + a1_0))) = true := decide_eq_true c10
           clear c10
           by_cases c11 : a2 < (l0_5.length : Int)
           · rw [if_pos c11] at H
             have c11b0 : decide (a2 < (l0_5.length : Int)) = true := decide_eq_true c11
             clear c11
             obtain rfl := Option.some.inj H
             go_enter Try.func50, Try.ntmps50
             go_wp2_with (first | ((with_reducible refine gate_dst (N := 4) rfl ?_); refine box_event ?hg (N := 4) ?hd (cs := #[.int .i64 a0_0, .int .i64 a0_1, .bool a0_2, .slice A0_3 l0_3.length c0_3, .slice A0_4 l0_4.length c0_4, .slice A0_5 l0_5.length c0_5]) (t := 26) ?hr ?_; (case hd => rfl); (case hg => rfl); (case hr => first | (go_simp; done) | (go_simp; rfl)); intro gb339 hg w12 hbox hb; have n0_ := Aside0.mk (below_step bl_ hb); have n1_ := Aside0.mk (hbox); have n2_ := Aside0.mk (gl_ (w := w) hg); have n3_ := Aside0.mk (gl_ (w := w) hg); clear HB; have HB := n0_; have BK339 := n1_; have GW339 := n2_; have GE339 := n3_; clear n0_ n1_ n2_ n3_; clear hb hbox hg) | ((with_reducible refine gate_dst (N := 5) rfl ?_); refine box_event ?hg (N := 5) ?hd (cs := #[.int .i64 a1_0, .int .i64 a1_1, .slice A1_2 l1_2.length c1_2, .slice A1_3 l1_3.length c1_3, .slice A1_4 l1_4.length c1_4]) (t := 35) ?hr ?_; (case hd => rfl); (case hg => rfl); (case hr => first | (go_simp; done) | (go_simp; rfl)); intro gb340 hg w13 hbox hb; have n0_ := Aside0.mk (blk_below (K_ BK339) hb); have n1_ := Aside0.mk (below_step bl_ hb); have n2_ := Aside0.mk (hbox); have n3_ := Aside0.mk (gl_ (w := w) hg); have n4_ := Aside0.mk (gl_ (w := w) hg); have n5_ := Aside0.mk (nl_ hg (K_ BK339)); have n6_ := Aside0.mk (ng_ hg (K_ BK339)); clear BK339; clear HB; have BK339 := n0_; have HB := n1_; have BK340 := n2_; have GW340 := n3_; have GE340 := n4_; have NB339_340 := n5_; have NB340_339 := n6_; clear n0_ n1_ n2_ n3_ n4_ n5_ n6_; clear hb hbox hg; obtain ⟨hcz15_0, hcz15_1, hcz15_2, hcz15_3, hcz15_4⟩ := cells5 BK340; have p341 : 0 ≤ (a2 : Int) := of_decide_eq_true (by first | (with_reducible assumption) | assumption); have q341 : a2 < (l1_2.length : Int) := of_decide_eq_true (by first | (with_reducible assumption) | assumption); obtain ⟨ad341, e341, hx341_0⟩ := Kd.at_int HR1_2.out a2 p341 q341; cases e341; replace hx341_0 := hc_ HB hx341_0; replace p341 := eq_true p341; replace q341 := eq_true q341; obtain ⟨hcz16_0, hcz16_1, hcz16_2, hcz16_3, hcz16_4, hcz16_5⟩ := cells6 BK339; have p342 : 0 ≤ (a2 : Int) := of_decide_eq_true (by first | (with_reducible assumption) | assumption); have q342 : a2 < (l0_5.length : Int) := of_decide_eq_true (by first | (with_reducible assumption) | assumption); obtain ⟨ad342, e342, hx342_0, hx342_1⟩ := at_T52 HR0_5.out a2 p342 q342; cases e342; replace hx342_0 := hc_ HB hx342_0; replace hx342_1 := hc_ HB hx342_1; replace p342 := eq_true p342; replace q342 := eq_true q342))
             go_ret
             exact ⟨by first | rfl | (simp [errW_none, errW_some] <;> rfl) | (simp [*, errW_none, errW_some] <;> rfl), by repeat (first | (with_reducible first | exact HB.out | apply below_alloc | apply pw_below_drewN | apply below_drew1 | refine below_set ?_ GE339.out | refine below_set ?_ GE340.out) | exact HB.out)⟩
           rw [if_neg c11] at H
           exact absurd H (by simp)
         rw [if_neg c10] at H
         have c10b0 : decide (0 ≤ (wrap64 ((Int.tmod (wrap64 (a3 - (rd l1_2 a2))) a1_0) + a1_0))) = false := decide_eq_false c10
         clear c10
         obtain rfl := Option.some.inj H
         go_enter Try.func50, Try.ntmps50
         go_wp2_with (first | ((with_reducible refine gate_dst (N := 4) rfl ?_); refine box_event ?hg (N := 4) ?hd (cs := #[.int .i64 a0_0, .int .i64 a0_1, .bool a0_2, .slice A0_3 l0_3.length c0_3, .slice A0_4 l0_4.length c0_4, .slice A0_5 l0_5.length c0_5]) (t := 26) ?hr ?_; (case hd => rfl); (case hg => rfl); (case hr => first | (go_simp; done) | (go_simp; rfl)); intro gb339 hg w17 hbox hb; have n0_ := Aside0.mk (below_step bl_ hb); have n1_ := Aside0.mk (hbox); have n2_ := Aside0.mk (gl_ (w := w) hg); have n3_ := Aside0.mk (gl_ (w := w) hg); clear HB; have HB := n0_; have BK339 := n1_; have GW339 := n2_; have GE339 := n3_; clear n0_ n1_ n2_ n3_; clear hb hbox hg) | ((with_reducible refine gate_dst (N := 5) rfl ?_); refine box_event ?hg (N := 5) ?hd (cs := #[.int .i64 a1_0, .int .i64 a1_1, .slice A1_2 l1_2.length c1_2, .slice A1_3 l1_3.length c1_3, .slice A1_4 l1_4.length c1_4]) (t := 35) ?hr ?_; (case hd => rfl); (case hg => rfl); (case hr => first | (go_simp; done) | (go_simp; rfl)); intro gb340 hg w18 hbox hb; have n0_ := Aside0.mk (blk_below (K_ BK339) hb); have n1_ := Aside0.mk (below_step bl_ hb); have n2_ := Aside0.mk (hbox); have n3_ := Aside0.mk (gl_ (w := w) hg); have n4_ := Aside0.mk (gl_ (w := w) hg); have n5_ := Aside0.mk (nl_ hg (K_ BK339)); have n6_ := Aside0.mk (ng_ hg (K_ BK339)); clear BK339; clear HB; have BK339 := n0_; have HB := n1_; have BK340 := n2_; have GW340 := n3_; have GE340 := n4_; have NB339_340 := n5_; have NB340_339 := n6_; clear n0_ n1_ n2_ n3_ n4_ n5_ n6_; clear hb hbox hg; obtain ⟨hcz20_0, hcz20_1, hcz20_2, hcz20_3, hcz20_4⟩ := cells5 BK340; have p341 : 0 ≤ (a2 : Int) := of_decide_eq_true (by first | (with_reducible assumption) | assumption); have q341 : a2 < (l1_2.length : Int) := of_decide_eq_true (by first | (with_reducible assumption) | assumption); obtain ⟨ad341, e341, hx341_0⟩ := Kd.at_int HR1_2.out a2 p341 q341; cases e341; replace hx341_0 := hc_ HB hx341_0; replace p341 := eq_true p341; replace q341 := eq_true q341))
         go_ret
         exact ⟨by first | rfl | (simp [errW_none, errW_some] <;> rfl) | (simp [*, errW_none, errW_some] <;> rfl), by repeat (first | (with_reducible first | exact HB.out | apply below_alloc | apply pw_below_drewN | apply below_drew1 | refine below_set ?_ GE339.out | refine below_set ?_ GE340.out) | exact HB.out)⟩
       rw [if_neg c9] at H
       have c9b0 : decide ((Int.tmod (wrap64 (a3 - (rd l1_2 a2))) a1_0) < 0) = false := decide_eq_false c9
       clear c9
       by_cases c21 : (Int.tmod (wrap64 (a3 - (rd l1_2 a2))) a1_0) ≥ 0
       · rw [if_pos c21] at H
         have c21b0 : decide (0 ≤ (Int.tmod (wrap64 (a3 - (rd l1_2 a2))) a1_0)) = true := decide_eq_true c21
         clear c21
         by_cases c22 : a2 < (l0_5.length : Int)
         · rw [if_pos c22] at H
           have c22b0 : decide (a2 < (l0_5.length : Int)) = true := decide_eq_true c22
           clear c22
           obtain rfl := Option.some.inj H
           go_enter Try.func50, Try.ntmps50
           go_wp2_with (first | ((with_reducible refine gate_dst (N := 4) rfl ?_); refine box_event ?hg (N := 4) ?hd (cs := #[.int .i64 a0_0, .int .i64 a0_1, .bool a0_2, .slice A0_3 l0_3.length c0_3, .slice A0_4 l0_4.length c0_4, .slice A0_5 l0_5.length c0_5]) (t := 26) ?hr ?_; (case hd => rfl); (case hg => rfl); (case hr => first | (go_simp; done) | (go_simp; rfl)); intro gb339 hg w23 hbox hb; have n0_ := Aside0.mk (below_step bl_ hb); have n1_ := Aside0.mk (hbox); have n2_ := Aside0.mk (gl_ (w := w) hg); have n3_ := Aside0.mk (gl_ (w := w) hg); clear HB; have HB := n0_; have BK339 := n1_; have GW339 := n2_; have GE339 := n3_; clear n0_ n1_ n2_ n3_; clear hb hbox hg) | ((with_reducible refine gate_dst (N := 5) rfl ?_); refine box_event ?hg (N := 5) ?hd (cs := #[.int .i64 a1_0, .int .i64 a1_1, .slice A1_2 l1_2.length c1_2, .slice A1_3 l1_3.length c1_3, .slice A1_4 l1_4.length c1_4]) (t := 35) ?hr ?_; (case hd => rfl); (case hg => rfl); (case hr => first | (go_simp; done) | (go_simp; rfl)); intro gb340 hg w24 hbox hb; have n0_ := Aside0.mk (blk_below (K_ BK339) hb); have n1_ := Aside0.mk (below_step bl_ hb); have n2_ := Aside0.mk (hbox); have n3_ := Aside0.mk (gl_ (w := w) hg); have n4_ := Aside0.mk (gl_ (w := w) hg); have n5_ := Aside0.mk (nl_ hg (K_ BK339)); have n6_ := Aside0.mk (ng_ hg (K_ BK339)); clear BK339; clear HB; have BK339 := n0_; have HB := n1_; have BK340 := n2_; have GW340 := n3_; have GE340 := n4_; have NB339_340 := n5_; have NB340_339 := n6_; clear n0_ n1_ n2_ n3_ n4_ n5_ n6_; clear hb hbox hg; obtain ⟨hcz26_0, hcz26_1, hcz26_2, hcz26_3, hcz26_4⟩ := cells5 BK340; have p341 : 0 ≤ (a2 : Int) := of_decide_eq_true (by first | (with_reducible assumption) | assumption); have q341 : a2 < (l1_2.length : Int) := of_decide_eq_true (by first | (with_reducible assumption) | assumption); obtain ⟨ad341, e341, hx341_0⟩ := Kd.at_int HR1_2.out a2 p341 q341; cases e341; replace hx341_0 := hc_ HB hx341_0; replace p341 := eq_true p341; replace q341 := eq_true q341; obtain ⟨hcz27_0, hcz27_1, hcz27_2, hcz27_3, hcz27_4, hcz27_5⟩ := cells6 BK339; have p343 : 0 ≤ (a2 : Int) := of_decide_eq_true (by first | (with_reducible assumption) | assumption); have q343 : a2 < (l0_5.length : Int) := of_decide_eq_true (by first | (with_reducible assumption) | assumption); obtain ⟨ad343, e343, hx343_0, hx343_1⟩ := at_T52 HR0_5.out a2 p343 q343; cases e343; replace hx343_0 := hc_ HB hx343_0; replace hx343_1 := hc_ HB hx343_1; replace p343 := eq_true p343; replace q343 := eq_true q343))
           go_ret
           exact ⟨by first | rfl | (simp [errW_none, errW_some] <;> rfl) | (simp [*, errW_none, errW_some] <;> rfl), by repeat (first | (with_reducible first | exact HB.out | apply below_alloc | apply pw_below_drewN | apply below_drew1 | refine below_set ?_ GE339.out | refine below_set ?_ GE340.out) | exact HB.out)⟩
         rw [if_neg c22] at H
         exact absurd H (by simp)
       rw [if_neg c21] at H
       have c21b0 : decide (0 ≤ (Int.tmod (wrap64 (a3 - (rd l1_2 a2))) a1_0)) = false := decide_eq_false c21
       clear c21
       obtain rfl := Option.some.inj H
       go_enter Try.func50, Try.ntmps50
       go_wp2_with (first | ((with_reducible refine gate_dst (N := 4) rfl ?_); refine box_event ?hg (N := 4) ?hd (cs := #[.int .i64 a0_0, .int .i64 a0_1, .bool a0_2, .slice A0_3 l0_3.length c0_3, .slice A0_4 l0_4.length c0_4, .slice A0_5 l0_5.length c0_5]) (t := 26) ?hr ?_; (case hd => rfl); (case hg => rfl); (case hr => first | (go_simp; done) | (go_simp; rfl)); intro gb339 hg w28 hbox hb; have n0_ := Aside0.mk (below_step bl_ hb); have n1_ := Aside0.mk (hbox); have n2_ := Aside0.mk (gl_ (w := w) hg); have n3_ := Aside0.mk (gl_ (w := w) hg); clear HB; have HB := n0_; have BK339 := n1_; have GW339 := n2_; have GE339 := n3_; clear n0_ n1_ n2_ n3_; clear hb hbox hg) | ((with_reducible refine gate_dst (N := 5) rfl ?_); refine box_event ?hg (N := 5) ?hd (cs := #[.int .i64 a1_0, .int .i64 a1_1, .slice A1_2 l1_2.length c1_2, .slice A1_3 l1_3.length c1_3, .slice A1_4 l1_4.length c1_4]) (t := 35) ?hr ?_; (case hd => rfl); (case hg => rfl); (case hr => first | (go_simp; done) | (go_simp; rfl)); intro gb340 hg w29 hbox hb; have n0_ := Aside0.mk (blk_below (K_ BK339) hb); have n1_ := Aside0.mk (below_step bl_ hb); have n2_ := Aside0.mk (hbox); have n3_ := Aside0.mk (gl_ (w := w) hg); have n4_ := Aside0.mk (gl_ (w := w) hg); have n5_ := Aside0.mk (nl_ hg (K_ BK339)); have n6_ := Aside0.mk (ng_ hg (K_ BK339)); clear BK339; clear HB; have BK339 := n0_; have HB := n1_; have BK340 := n2_; have GW340 := n3_; have GE340 := n4_; have NB339_340 := n5_; have NB340_339 := n6_; clear n0_ n1_ n2_ n3_ n4_ n5_ n6_; clear hb hbox hg; obtain ⟨hcz31_0, hcz31_1, hcz31_2, hcz31_3, hcz31_4⟩ := cells5 BK340; have p341 : 0 ≤ (a2 : Int) := of_decide_eq_true (by first | (with_reducible assumption) | assumption); have q341 : a2 < (l1_2.length : Int) := of_decide_eq_true (by first | (with_reducible assumption) | assumption); obtain ⟨ad341, e341, hx341_0⟩ := Kd.at_int HR1_2.out a2 p341 q341; cases e341; replace hx341_0 := hc_ HB hx341_0; replace p341 := eq_true p341; replace q341 := eq_true q341))
       go_ret
       exact ⟨by first | rfl | (simp [errW_none, errW_some] <;> rfl) | (simp [*, errW_none, errW_some] <;> rfl), by repeat (first | (with_reducible first | exact HB.out | apply below_alloc | apply pw_below_drewN | apply below_drew1 | refine below_set ?_ GE339.out | refine below_set ?_ GE340.out) | exact HB.out)⟩
     rw [if_neg c7] at H
     have c7b0 : decide (0 < a1_0) = false := decide_eq_false c7
     clear c7
     by_cases c32 : (wrap64 (a3 - (rd l1_2 a2))) ≥ 0
     · rw [if_pos c32] at H
       have c32b0 : decide (0 ≤ (wrap64 (a3 - (rd l1_2 a2)))) = true := decide_eq_true c32
       clear c32
       by_cases c33 : a2 < (l0_5.length : Int)
       · rw [if_pos c33] at H
         have c33b0 : decide (a2 < (l0_5.length : Int)) = true := decide_eq_true c33
         clear c33
         obtain rfl := Option.some.inj H
         go_enter Try.func50, Try.ntmps50
         go_wp2_with (first | ((with_reducible refine gate_dst (N := 4) rfl ?_); refine box_event ?hg (N := 4) ?hd (cs := #[.int .i64 a0_0, .int .i64 a0_1, .bool a0_2, .slice A0_3 l0_3.length c0_3, .slice A0_4 l0_4.length c0_4, .slice A0_5 l0_5.length c0_5]) (t := 26) ?hr ?_; (case hd => rfl); (case hg => rfl); (case hr => first | (go_simp; done) | (go_simp; rfl)); intro gb339 hg w34 hbox hb; have n0_ := Aside0.mk (below_step bl_ hb); have n1_ := Aside0.mk (hbox); have n2_ := Aside0.mk (gl_ (w := w) hg); have n3_ := Aside0.mk (gl_ (w := w) hg); clear HB; have HB := n0_; have BK339 := n1_; have GW339 := n2_; have GE339 := n3_; clear n0_ n1_ n2_ n3_; clear hb hbox hg) | ((with_reducible refine gate_dst (N := 5) rfl ?_); refine box_event ?hg (N := 5) ?hd (cs := #[.int .i64 a1_0, .int .i64 a1_1, .slice A1_2 l1_2.length c1_2, .slice A1_3 l1_3.length c1_3, .slice A1_4 l1_4.length c1_4]) (t := 35) ?hr ?_; (case hd => rfl); (case hg => rfl); (case hr => first | (go_simp; done) | (go_simp; rfl)); intro gb340 hg w35 hbox hb; have n0_ := Aside0.mk (blk_below (K_ BK339) hb); have n1_ := Aside0.mk (below_step bl_ hb); have n2_ := Aside0.mk (hbox); have n3_ := Aside0.mk (gl_ (w := w) hg); have n4_ := Aside0.mk (gl_ (w := w) hg); have n5_ := Aside0.mk (nl_ hg (K_ BK339)); have n6_ := Aside0.mk (ng_ hg (K_ BK339)); clear BK339; clear HB; have BK339 := n0_; have HB := n1_; have BK340 := n2_; have GW340 := n3_; have GE340 := n4_; have NB339_340 := n5_; have NB340_339 := n6_; clear n0_ n1_ n2_ n3_ n4_ n5_ n6_; clear hb hbox hg; obtain ⟨hcz37_0, hcz37_1, hcz37_2, hcz37_3, hcz37_4⟩ := cells5 BK340; have p341 : 0 ≤ (a2 : Int) := of_decide_eq_true (by first | (with_reducible assumption) | assumption); have q341 : a2 < (l1_2.length : Int) := of_decide_eq_true (by first | (with_reducible assumption) | assumption); obtain ⟨ad341, e341, hx341_0⟩ := Kd.at_int HR1_2.out a2 p341 q341; cases e341; replace hx341_0 := hc_ HB hx341_0; replace p341 := eq_true p341; replace q341 := eq_true q341; obtain ⟨hcz38_0, hcz38_1, hcz38_2, hcz38_3, hcz38_4, hcz38_5⟩ := cells6 BK339; have p344 : 0 ≤ (a2 : Int) := of_decide_eq_true (by first | (with_reducible assumption) | assumption); have q344 : a2 < (l0_5.length : Int) := of_decide_eq_true (by first | (with_reducible assumption) | assumption); obtain ⟨ad344, e344, hx344_0, hx344_1⟩ := at_T52 HR0_5.out a2 p344 q344; cases e344; replace hx344_0 := hc_ HB hx344_0; replace hx344_1 := hc_ HB hx344_1; replace p344 := eq_true p344; replace q344 := eq_true q344))
         go_ret
         exact ⟨by first | rfl | (simp [errW_none, errW_some] <;> rfl) | (simp [*, errW_none, errW_some] <;> rfl), by repeat (first | (with_reducible first | exact HB.out | apply below_alloc | apply pw_below_drewN | apply below_drew1 | refine below_set ?_ GE339.out | refine below_set ?_ GE340.out) | exact HB.out)⟩
       rw [if_neg c33] at H
       exact absurd H (by simp)
     rw [if_neg c32] at H
     have c32b0 : decide (0 ≤ (wrap64 (a3 - (rd l1_2 a2)))) = false := decide_eq_false c32
     clear c32
     obtain rfl := Option.some.inj H
     go_enter Try.func50, Try.ntmps50
     go_wp2_with (first | ((with_reducible refine gate_dst (N := 4) rfl ?_); refine box_event ?hg (N := 4) ?hd (cs := #[.int .i64 a0_0, .int .i64 a0_1, .bool a0_2, .slice A0_3 l0_3.length c0_3, .slice A0_4 l0_4.length c0_4, .slice A0_5 l0_5.length c0_5]) (t := 26) ?hr ?_; (case hd => rfl); (case hg => rfl); (case hr => first | (go_simp; done) | (go_simp; rfl)); intro gb339 hg w39 hbox hb; have n0_ := Aside0.mk (below_step bl_ hb); have n1_ := Aside0.mk (hbox); have n2_ := Aside0.mk (gl_ (w := w) hg); have n3_ := Aside0.mk (gl_ (w := w) hg); clear HB; have HB := n0_; have BK339 := n1_; have GW339 := n2_; have GE339 := n3_; clear n0_ n1_ n2_ n3_; clear hb hbox hg) | ((with_reducible refine gate_dst (N := 5) rfl ?_); refine box_event ?hg (N := 5) ?hd (cs := #[.int .i64 a1_0, .int .i64 a1_1, .slice A1_2 l1_2.length c1_2, .slice A1_3 l1_3.length c1_3, .slice A1_4 l1_4.length c1_4]) (t := 35) ?hr ?_; (case hd => rfl); (case hg => rfl); (case hr => first | (go_simp; done) | (go_simp; rfl)); intro gb340 hg w40 hbox hb; have n0_ := Aside0.mk (blk_below (K_ BK339) hb); have n1_ := Aside0.mk (below_step bl_ hb); have n2_ := Aside0.mk (hbox); have n3_ := Aside0.mk (gl_ (w := w) hg); have n4_ := Aside0.mk (gl_ (w := w) hg); have n5_ := Aside0.mk (nl_ hg (K_ BK339)); have n6_ := Aside0.mk (ng_ hg (K_ BK339)); clear BK339; clear HB; have BK339 := n0_; have HB := n1_; have BK340 := n2_; have GW340 := n3_; have GE340 := n4_; have NB339_340 := n5_; have NB340_339 := n6_; clear n0_ n1_ n2_ n3_ n4_ n5_ n6_; clear hb hbox hg; obtain ⟨hcz42_0, hcz42_1, hcz42_2, hcz42_3, hcz42_4⟩ := cells5 BK340; have p341 : 0 ≤ (a2 : Int) := of_decide_eq_true (by first | (with_reducible assumption) | assumption); have q341 : a2 < (l1_2.length : Int) := of_decide_eq_true (by first | (with_reducible assumption) | assumption); obtain ⟨ad341, e341, hx341_0⟩ := Kd.at_int HR1_2.out a2 p341 q341; cases e341; replace hx341_0 := hc_ HB hx341_0; replace p341 := eq_true p341; replace q341 := eq_true q341))
     go_ret
     exact ⟨by first | rfl | (simp [errW_none, errW_some] <;> rfl) | (simp [*, errW_none, errW_some] <;> rfl), by repeat (first | (with_reducible first | exact HB.out | apply below_alloc | apply pw_below_drewN | apply below_drew1 | refine below_set ?_ GE339.out | refine below_set ?_ GE340.out) | exact HB.out)⟩
   rw [if_neg c6] at H
   exact absurd H (by simp)
 rw [if_neg c5] at H
 exact absurd H (by simp)
end Go.Proofs.Ytpmlbbglekaidaa.PAll
