-- Written for this claim by programs of this session (wip/print2 in its repo: a changed printer, a shortener, a packer). Lean checks it.
import Derived.Test.YtpmlbbglekaidaaP0
namespace Go.Proofs.Ytpmlbbglekaidaa.PAll
open Go.RowKit Go.Proofs.YtpmlbbglekaidaaW.PrintWords Go.Proofs.YtpmlbbglekaidaaW.PrintLast Go.Proofs.YtpmlbbglekaidaaW.PrintMore
attribute [local go_sem] max2_int min2_int max_two min_two max_three min_three max_four min_four   -- for this text's walks alone
set_option linter.unusedVariables false
set_option linter.unusedSimpArgs false

/-! ### jacquardref33_Units: function 23 -/
def jacquardref33_Units.l0 : Nat → List (S44) → Int → Int → Int → Int → Int → Int → Bool → List (S48) → List (S50) → List (S52) → Option (Int)
  | 0, _, _, _, _, _, _, _, _, _, _, _ => none
  | k + 1, x1, x7, x8, x17, x18, x415000, x415001, x415002, x415003, x415004, x415005 => if x18 < x17 then (if 0 ≤ x18 then (if x18 < (x1.length : Int) then (if 0 ≤ ((rd_T44 x1 x18).f0) then (if ((rd_T44 x1 x18).f0) < (x415005.length : Int) then (if ((rd_T52 x415005 ((rd_T44 x1 x18).f0)).f0) = x7 then (jacquardref33_Units.l0 k x1 x7 (mx x8 (wrap64 (((rd_T44 x1 x18).f2) + 1))) x17 (wrap64 (x18 + 1)) x415000 x415001 x415002 x415003 x415004 x415005) else (jacquardref33_Units.l0 k x1 x7 x8 x17 (wrap64 (x18 + 1)) x415000 x415001 x415002 x415003 x415004 x415005)) else (none)) else (none)) else (none)) else (none)) else (if 0 ≤ x7 then (if x7 < (x415004.length : Int) then (some (mn ((rd_T50 x415004 x7).f3) (wrap64 (x8 + 1)))) else (none)) else (none))
def jacquardref33_Units.f (k : Nat) (a0_0 : Int) (a0_1 : Int) (a0_2 : Bool) (l0_3 : List (S48)) (l0_4 : List (S50)) (l0_5 : List (S52)) (l1 : List (S44)) (a2 : Int) : Option (Int) := if 0 ≤ a2 then (if a2 < (l0_5.length : Int) then (jacquardref33_Units.l0 k l1 ((rd_T52 l0_5 a2).f0) 0 (l1.length : Int) 0 a0_0 a0_1 a0_2 l0_3 l0_4 l0_5) else (none)) else (none)
theorem jacquardref33_Units.mono_l : ∀ k, (∀ y0 y1 y2 y3 y4 y5 y6 y7 y8 y9 y10, LeO (jacquardref33_Units.l0 k y0 y1 y2 y3 y4 y5 y6 y7 y8 y9 y10) (jacquardref33_Units.l0 (k + 1) y0 y1 y2 y3 y4 y5 y6 y7 y8 y9 y10))
  | 0 => fun _ _ _ _ _ _ _ _ _ _ _ r h => by simp [jacquardref33_Units.l0] at h
  | k + 1 => by
    have ih0 := jacquardref33_Units.mono_l k
    intros
    unfold jacquardref33_Units.l0
    repeat' first | (with_reducible first | apply ih0 | exact LeO.refl _ | exact LeO.none _ | refine LeO.ite ?_ ?_ | refine LeO.bind ?_ (fun _ => ?_)) | apply ih0 | exact LeO.none _ | refine LeO.ite ?_ ?_ | refine LeO.bind ?_ (fun _ => ?_)
theorem jacquardref33_Units.mono : ∀ a0 a1 a2 a3 a4 a5 a6 a7 k, LeO (jacquardref33_Units.f k a0 a1 a2 a3 a4 a5 a6 a7) (jacquardref33_Units.f (k + 1) a0 a1 a2 a3 a4 a5 a6 a7) := by
 intro a0 a1 a2 a3 a4 a5 a6 a7 k
 have ih0 := jacquardref33_Units.mono_l k
 unfold jacquardref33_Units.f
 repeat' first | (with_reducible first | apply ih0 | exact LeO.refl _ | exact LeO.none _ | refine LeO.ite ?_ ?_ | refine LeO.bind ?_ (fun _ => ?_)) | apply ih0 | exact LeO.none _ | refine LeO.ite ?_ ?_ | refine LeO.bind ?_ (fun _ => ?_)
set_option maxHeartbeats 8000000 in
set_option maxRecDepth 100000 in
theorem jacquardref33_Units.calls (k : Nat) (a0_0 : Int) (a0_1 : Int) (a0_2 : Bool) (A0_3 : Option Addr) (c0_3 : Nat) (l0_3 : List (S48)) (A0_4 : Option Addr) (c0_4 : Nat) (l0_4 : List (S50)) (A0_5 : Option Addr) (c0_5 : Nat) (l0_5 : List (S52)) (A1 : Option Addr) (c1 : Nat) (l1 : List (S44)) (a2 : Int) (r : Int) (w : World) (hr0_3 : Kd.C k48 w A0_3 l0_3.length l0_3) (hc0_3 : l0_3.length ≤ c0_3) (hr0_4 : Kd.C k50 w A0_4 l0_4.length l0_4) (hc0_4 : l0_4.length ≤ c0_4) (hr0_5 : Kd.C k52 w A0_5 l0_5.length l0_5) (hc0_5 : l0_5.length ≤ c0_5) (hr1 : Kd.C k44 w A1 l1.length l1) (hc1 : l1.length ≤ c1) (h : jacquardref33_Units.f k a0_0 a0_1 a0_2 l0_3 l0_4 l0_5 l1 a2 = some r) :
    Calls Try.prog 23 #[.agg #[.int .i64 a0_0, .int .i64 a0_1, .bool a0_2, .slice A0_3 l0_3.length c0_3, .slice A0_4 l0_4.length c0_4, .slice A0_5 l0_5.length c0_5], .slice A1 l1.length c1, .int .i64 a2] w fun e w' => e = .returned (.int .i64 r) ∧ Below w.heap.size w w' := by
 have hu26 := Try.underlying26
 have HR0_3 := Aside0.mk hr0_3
 have HC0_3 := Aside0.mk hc0_3
 clear hr0_3 hc0_3
 have HR0_4 := Aside0.mk hr0_4
 have HC0_4 := Aside0.mk hc0_4
 clear hr0_4 hc0_4
 have HR0_5 := Aside0.mk hr0_5
 have HC0_5 := Aside0.mk hc0_5
 clear hr0_5 hc0_5
 have HR1 := Aside0.mk hr1
 have HC1 := Aside0.mk hc1
 clear hr1 hc1
 have HB := Aside0.mk (Below.refl w.heap.size w)
 have H : (if 0 ≤ a2 then (if a2 < (l0_5.length : Int) then (jacquardref33_Units.l0 k l1 ((rd_T52 l0_5 a2).f0) 0 (l1.length : Int) 0 a0_0 a0_1 a0_2 l0_3 l0_4 l0_5) else (none)) else (none)) = some r := h
 clear h
 by_cases c4 : 0 ≤ a2
 · rw [if_pos c4] at H
   have c4b0 : decide (0 ≤ a2) = true := decide_eq_true c4
   clear c4
   by_cases c5 : a2 < (l0_5.length : Int)
   · rw [if_pos c5] at H
     have c5b0 : decide (a2 < (l0_5.length : Int)) = true := decide_eq_true c5
     clear c5
     have H' := Aside0.mk H
     clear H
     go_enter Try.func23, Try.ntmps23
     go_wp2_with (first | ((with_reducible refine gate_dst (N := 3) rfl ?_); refine box_event ?hg (N := 3) ?hd (cs := #[.int .i64 a0_0, .int .i64 a0_1, .bool a0_2, .slice A0_3 l0_3.length c0_3, .slice A0_4 l0_4.length c0_4, .slice A0_5 l0_5.length c0_5]) (t := 26) ?hr ?_; (case hd => rfl); (case hg => rfl); (case hr => first | (go_simp; done) | (go_simp; rfl)); intro gb414 hg w6 hbox hb; have n0_ := Aside0.mk (below_step bl_ hb); have n1_ := Aside0.mk (hbox); have n2_ := Aside0.mk (gl_ (w := w) hg); have n3_ := Aside0.mk (gl_ (w := w) hg); clear HB; have HB := n0_; have BK414 := n1_; have GW414 := n2_; have GE414 := n3_; clear n0_ n1_ n2_ n3_; clear hb hbox hg; obtain ⟨hcz7_0, hcz7_1, hcz7_2, hcz7_3, hcz7_4, hcz7_5⟩ := cells6 BK414; have p415 : 0 ≤ (a2 : Int) := of_decide_eq_true (by first | (with_reducible assumption) | assumption); have q415 : a2 < (l0_5.length : Int) := of_decide_eq_true (by first | (with_reducible assumption) | assumption); obtain ⟨ad415, e415, hx415_0, hx415_1⟩ := at_T52 HR0_5.out a2 p415 q415; cases e415; replace hx415_0 := hc_ HB hx415_0; replace hx415_1 := hc_ HB hx415_1; replace p415 := eq_true p415; replace q415 := eq_true q415))
     repeat (go_quiet (first | ((with_reducible refine gate_dst (N := 3) rfl ?_); refine box_event ?hg (N := 3) ?hd (cs := #[.int .i64 a0_0, .int .i64 a0_1, .bool a0_2, .slice A0_3 l0_3.length c0_3, .slice A0_4 l0_4.length c0_4, .slice A0_5 l0_5.length c0_5]) (t := 26) ?hr ?_; (case hd => rfl); (case hg => rfl); (case hr => first | (go_simp; done) | (go_simp; rfl)); intro gb414 hg w6 hbox hb; have n0_ := Aside0.mk (below_step bl_ hb); have n1_ := Aside0.mk (hbox); have n2_ := Aside0.mk (gl_ (w := w) hg); have n3_ := Aside0.mk (gl_ (w := w) hg); clear HB; have HB := n0_; have BK414 := n1_; have GW414 := n2_; have GE414 := n3_; clear n0_ n1_ n2_ n3_; clear hb hbox hg; obtain ⟨hcz7_0, hcz7_1, hcz7_2, hcz7_3, hcz7_4, hcz7_5⟩ := cells6 BK414; have p415 : 0 ≤ (a2 : Int) := of_decide_eq_true (by first | (with_reducible assumption) | assumption); have q415 : a2 < (l0_5.length : Int) := of_decide_eq_true (by first | (with_reducible assumption) | assumption); obtain ⟨ad415, e415, hx415_0, hx415_1⟩ := at_T52 HR0_5.out a2 p415 q415; cases e415; replace hx415_0 := hc_ HB hx415_0; replace hx415_1 := hc_ HB hx415_1; replace p415 := eq_true p415; replace q415 := eq_true q415)); try go_wp2_with (first | ((with_reducible refine gate_dst (N := 3) rfl ?_); refine box_event ?hg (N := 3) ?hd (cs := #[.int .i64 a0_0, .int .i64 a0_1, .bool a0_2, .slice A0_3 l0_3.length c0_3, .slice A0_4 l0_4.length c0_4, .slice A0_5 l0_5.length c0_5]) (t := 26) ?hr ?_; (case hd => rfl); (case hg => rfl); (case hr => first | (go_simp; done) | (go_simp; rfl)); intro gb414 hg w6 hbox hb; have n0_ := Aside0.mk (below_step bl_ hb); have n1_ := Aside0.mk (hbox); have n2_ := Aside0.mk (gl_ (w := w) hg); have n3_ := Aside0.mk (gl_ (w := w) hg); clear HB; have HB := n0_; have BK414 := n1_; have GW414 := n2_; have GE414 := n3_; clear n0_ n1_ n2_ n3_; clear hb hbox hg; obtain ⟨hcz7_0, hcz7_1, hcz7_2, hcz7_3, hcz7_4, hcz7_5⟩ := cells6 BK414; have p415 : 0 ≤ (a2 : Int) := of_decide_eq_true (by first | (with_reducible assumption) | assumption); have q415 : a2 < (l0_5.length : Int) := of_decide_eq_true (by first | (with_reducible assumption) | assumption); obtain ⟨ad415, e415, hx415_0, hx415_1⟩ := at_T52 HR0_5.out a2 p415 q415; cases e415; replace hx415_0 := hc_ HB hx415_0; replace hx415_1 := hc_ HB hx415_1; replace p415 := eq_true p415; replace q415 := eq_true q415)))
     go_loopg [8, 18] k (fun kq v8 v18 w' => ∃ (x8_1 : Int) (x18_1 : Int), v8 = .int .i64 x8_1 ∧ v18 = .int .i64 x18_1 ∧ Aside0 (jacquardref33_Units.l0 kq l1 ((rd_T52 l0_5 a2).f0) x8_1 (l1.length : Int) x18_1 a0_0 a0_1 a0_2 l0_3 l0_4 l0_5 = some r) ∧ Aside0 (kq ≤ k) ∧ Aside0 (w'.heap[gb414]? = some (.cells #[.int .i64 a0_0, .int .i64 a0_1, .bool a0_2, (.slice A0_3 l0_3.length c0_3), (.slice A0_4 l0_4.length c0_4), (.slice (some ad415) l0_5.length c0_5)] 26 (0, 0))) ∧ Aside0 (Below w.heap.size w w'))
     case atStart => exact ⟨(0), (0), (by first | rfl | (simp; done) | (simp [*]; done)), (by first | rfl | (simp; done) | (simp [*]; done)), H', ⟨Nat.le_refl _⟩, ⟨K_ BK414⟩, ⟨bl_⟩⟩
     clear H'
     obtain ⟨x8_1, x18_1, rfl, rfl, HA, HK1, BK414, HB⟩ := hrel
     cases gk with
     | zero => exact absurd HA.out (by simp [jacquardref33_Units.l0])
     | succ k1 => ?_
     have H := HA.out
     clear HA
     simp only [jacquardref33_Units.l0] at H
     by_cases c8 : x18_1 < (l1.length : Int)
     · rw [if_pos c8] at H
       have c8b0 : decide (x18_1 < (l1.length : Int)) = true := decide_eq_true c8
       clear c8
       by_cases c9 : 0 ≤ x18_1
       · rw [if_pos c9] at H
         have c9b0 : decide (0 ≤ x18_1) = true := decide_eq_true c9
         clear c9
         by_cases c10 : x18_1 < (l1.length : Int)
         · rw [if_pos c10] at H
           have c10b0 : decide (x18_1 < (l1.length : Int)) = true := decide_eq_true c10
           clear c10
           by_cases c11 : 0 ≤ ((rd_T44 l1 x18_1).f0)
           · rw [if_pos c11] at H
             have c11b0 : decide (0 ≤ ((rd_T44 l1 x18_1).f0)) = true := decide_eq_true c11
             clear c11
             by_cases c12 : ((rd_T44 l1 x18_1).f0) < (l0_5.length : Int)
             · rw [if_pos c12] at H
               have c12b0 : decide (((rd_T44 l1 x18_1).f0) < (l0_5.length : Int)) = true := decide_eq_true c12
               clear c12
               by_cases c13 : ((rd_T52 l0_5 ((rd_T44 l1 x18_1).f0)).f0) = ((rd_T52 l0_5 a2).f0)
               · rw [if_pos c13] at H
                 have c13b0 : (((rd_T52 l0_5 ((rd_T44 l1 x18_1).f0)).f0) == ((rd_T52 l0_5 a2).f0)) = true := beq_iff_eq.mpr c13
                 have c13b1 : (((rd_T52 l0_5 ((rd_T44 l1 x18_1).f0)).f0) != ((rd_T52 l0_5 a2).f0)) = false := bne_eq_false_iff_eq.mpr c13
                 clear c13
                 obtain ⟨ji14, hji14⟩ : ∃ j_ : Int, (mx x8_1 (wrap64 (((rd_T44 l1 x18_1).f2) + 1))) = j_ := ⟨_, rfl⟩
                 replace H : (jacquardref33_Units.l0 k1 l1 ((rd_T52 l0_5 a2).f0) ji14 (l1.length : Int) (wrap64 (x18_1 + 1)) a0_0 a0_1 a0_2 l0_3 l0_4 l0_5) = some r := by first | (rw [hji14] at H; exact H) | (simp only [hji14] at H ⊢; exact H)
                 have hji14_ : (if x8_1 < (wrap64 (((rd_T44 l1 x18_1).f2) + 1)) then (wrap64 (((rd_T44 l1 x18_1).f2) + 1)) else x8_1) = ji14 := hji14
                 have H' := Aside0.mk H
                 clear H
                 obtain ⟨hcz15_0, hcz15_1, hcz15_2, hcz15_3, hcz15_4, hcz15_5⟩ := cells6 BK414
                 have p417 : 0 ≤ (x18_1 : Int) := of_decide_eq_true (by first | (with_reducible assumption) | assumption)
                 have q417 : x18_1 < (l1.length : Int) := of_decide_eq_true (by first | (with_reducible assumption) | assumption)
                 obtain ⟨ad417, e417, hx417_0, hx417_1, hx417_2⟩ := at_T44 HR1.out x18_1 p417 q417
                 cases e417
                 replace hx417_0 := hc_ HB hx417_0
                 replace hx417_1 := hc_ HB hx417_1
                 replace hx417_2 := hc_ HB hx417_2
                 replace p417 := eq_true p417
                 replace q417 := eq_true q417
                 have p418 : 0 ≤ (((rd_T44 l1 x18_1).f0) : Int) := of_decide_eq_true (by first | (with_reducible assumption) | assumption)
                 have q418 : ((rd_T44 l1 x18_1).f0) < (l0_5.length : Int) := of_decide_eq_true (by first | (with_reducible assumption) | assumption)
                 obtain ⟨ad418, e418, hx418_0, hx418_1⟩ := at_T52 HR0_5.out ((rd_T44 l1 x18_1).f0) p418 q418
                 obtain rfl : ad415 = ad418 := (by injection e418)
                 replace hx418_0 := hc_ HB hx418_0
                 replace hx418_1 := hc_ HB hx418_1
                 replace p418 := eq_true p418
                 replace q418 := eq_true q418
                 have p419 : 0 ≤ (x18_1 : Int) := of_decide_eq_true (by first | (with_reducible assumption) | assumption)
                 have q419 : x18_1 < (l1.length : Int) := of_decide_eq_true (by first | (with_reducible assumption) | assumption)
                 obtain ⟨ad419, e419, hx419_0, hx419_1, hx419_2⟩ := at_T44 HR1.out x18_1 p419 q419
                 obtain rfl : ad417 = ad419 := (by injection e419)
                 replace hx419_0 := hc_ HB hx419_0
                 replace hx419_1 := hc_ HB hx419_1
                 replace hx419_2 := hc_ HB hx419_2
                 replace p419 := eq_true p419
                 replace q419 := eq_true q419
                 go_wp2
                 repeat (go_quiet (fail); try go_wp2)
                 go_roundg k1
                 case measure => have := HK1.out; omega
                 case rel => exact ⟨(ji14), (wrap64 (x18_1 + 1)), (by first | rfl | (simp; done) | (simp only [← hji14] <;> (first | rfl | simp)) | (simp [*]; done)), (by first | rfl | (simp; done) | (simp [*]; done)), H', ⟨by have := HK1.out; omega⟩, ⟨K_ BK414⟩, ⟨bl_⟩⟩
               rw [if_neg c13] at H
               have c13b0 : (((rd_T52 l0_5 ((rd_T44 l1 x18_1).f0)).f0) == ((rd_T52 l0_5 a2).f0)) = false := beq_eq_false_iff_ne.mpr c13
               have c13b1 : (((rd_T52 l0_5 ((rd_T44 l1 x18_1).f0)).f0) != ((rd_T52 l0_5 a2).f0)) = true := bne_iff_ne.mpr c13
               have H' := Aside0.mk H
               clear H
               obtain ⟨hcz16_0, hcz16_1, hcz16_2, hcz16_3, hcz16_4, hcz16_5⟩ := cells6 BK414
               have p417 : 0 ≤ (x18_1 : Int) := of_decide_eq_true (by first | (with_reducible assumption) | assumption)
               have q417 : x18_1 < (l1.length : Int) := of_decide_eq_true (by first | (with_reducible assumption) | assumption)
               obtain ⟨ad417, e417, hx417_0, hx417_1, hx417_2⟩ := at_T44 HR1.out x18_1 p417 q417
               cases e417
               replace hx417_0 := hc_ HB hx417_0
               replace hx417_1 := hc_ HB hx417_1
               replace hx417_2 := hc_ HB hx417_2
               replace p417 := eq_true p417
               replace q417 := eq_true q417
               have p418 : 0 ≤ (((rd_T44 l1 x18_1).f0) : Int) := of_decide_eq_true (by first | (with_reducible assumption) | assumption)
               have q418 : ((rd_T44 l1 x18_1).f0) < (l0_5.length : Int) := of_decide_eq_true (by first | (with_reducible assumption) | assumption)
               obtain ⟨ad418, e418, hx418_0, hx418_1⟩ := at_T52 HR0_5.out ((rd_T44 l1 x18_1).f0) p418 q418
               obtain rfl : ad415 = ad418 := (by injection e418)
               replace hx418_0 := hc_ HB hx418_0
               replace hx418_1 := hc_ HB hx418_1
               replace p418 := eq_true p418
               replace q418 := eq_true q418
               go_wp2
               repeat (go_quiet (fail); try go_wp2)
               go_roundg k1
               case measure => have := HK1.out; omega
               case rel => exact ⟨(x8_1), (wrap64 (x18_1 + 1)), (by first | rfl | (simp; done) | (simp [*]; done)), (by first | rfl | (simp; done) | (simp [*]; done)), H', ⟨by have := HK1.out; omega⟩, ⟨K_ BK414⟩, ⟨bl_⟩⟩
             rw [if_neg c12] at H
             exact absurd H (by simp)
           rw [if_neg c11] at H
           exact absurd H (by simp)
         rw [if_neg c10] at H
         exact absurd H (by simp)
       rw [if_neg c9] at H
       exact absurd H (by simp)
     rw [if_neg c8] at H
     have c8b0 : decide (x18_1 < (l1.length : Int)) = false := decide_eq_false c8
     clear c8
     by_cases c17 : 0 ≤ ((rd_T52 l0_5 a2).f0)
     · rw [if_pos c17] at H
       have c17b0 : decide (0 ≤ ((rd_T52 l0_5 a2).f0)) = true := decide_eq_true c17
       clear c17
       by_cases c18 : ((rd_T52 l0_5 a2).f0) < (l0_4.length : Int)
       · rw [if_pos c18] at H
         have c18b0 : decide (((rd_T52 l0_5 a2).f0) < (l0_4.length : Int)) = true := decide_eq_true c18
         clear c18
         obtain ⟨ji19, hji19⟩ : ∃ j_ : Int, (mn ((rd_T50 l0_4 ((rd_T52 l0_5 a2).f0)).f3) (wrap64 (x8_1 + 1))) = j_ := ⟨_, rfl⟩
         replace H : (some ji19) = some r := by first | (rw [hji19] at H; exact H) | (simp only [hji19] at H ⊢; exact H)
         have hji19_ : (if (wrap64 (x8_1 + 1)) < ((rd_T50 l0_4 ((rd_T52 l0_5 a2).f0)).f3) then (wrap64 (x8_1 + 1)) else ((rd_T50 l0_4 ((rd_T52 l0_5 a2).f0)).f3)) = ji19 := hji19
         obtain rfl := Option.some.inj H
         obtain ⟨hcz20_0, hcz20_1, hcz20_2, hcz20_3, hcz20_4, hcz20_5⟩ := cells6 BK414
         have p416 : 0 ≤ (((rd_T52 l0_5 a2).f0) : Int) := of_decide_eq_true (by first | (with_reducible assumption) | assumption)
         have q416 : ((rd_T52 l0_5 a2).f0) < (l0_4.length : Int) := of_decide_eq_true (by first | (with_reducible assumption) | assumption)
         obtain ⟨ad416, e416, hx416_0, hx416_1, hx416_2, hx416_3⟩ := at_T50 HR0_4.out ((rd_T52 l0_5 a2).f0) p416 q416
         cases e416
         replace hx416_0 := hc_ HB hx416_0
         replace hx416_1 := hc_ HB hx416_1
         replace hx416_2 := hc_ HB hx416_2
         replace hx416_3 := hc_ HB hx416_3
         replace p416 := eq_true p416
         replace q416 := eq_true q416
         go_wp2
         repeat (go_quiet (fail); try go_wp2)
         go_ret
         exact ⟨by first | rfl | (simp [errW_none, errW_some] <;> rfl) | (simp only [← hji19]; first | rfl | (simp [errW_none, errW_some] <;> rfl)) | (simp [*, errW_none, errW_some] <;> rfl), by repeat (first | (with_reducible first | exact HB.out | apply below_alloc | apply pw_below_drewN | apply below_drew1 | refine below_set ?_ GE414.out) | exact HB.out)⟩
       rw [if_neg c18] at H
       exact absurd H (by simp)
     rw [if_neg c17] at H
     exact absurd H (by simp)
   rw [if_neg c5] at H
   exact absurd H (by simp)
 rw [if_neg c4] at H
 exact absurd H (by simp)
end Go.Proofs.Ytpmlbbglekaidaa.PAll
