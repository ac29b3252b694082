-- Written for this claim by programs of this session (wip/print2 in its repo: a changed printer, a shortener, a packer). Lean checks it.
import Derived.Test.YtpmlbbglekaidaaP0
import Derived.Test.YtpmlbbglekaidaaF43
namespace Go.Proofs.Ytpmlbbglekaidaa.PAll
open Go.RowKit Go.Proofs.YtpmlbbglekaidaaW.PrintWords Go.Proofs.YtpmlbbglekaidaaW.PrintLast Go.Proofs.YtpmlbbglekaidaaW.PrintMore
attribute [local go_sem] max2_int min2_int max_two min_two max_three min_three max_four min_four   -- for this text's walks alone
set_option linter.unusedVariables false
set_option linter.unusedSimpArgs false

/-! ### refute_slot: function 41 -/
def refute_slot.j0 : Nat → Int → List Int → Int → Bool → Option (Int × Bool)
  | 0, _, _, _, _ => none
  | k + 1, x1, x2, x3, x15 => if x15 = true then (if 0 ≤ x3 then (if x3 < (x2.length : Int) then (if x1 = 0 then (none) else (some (Int.tmod (rd x2 x3) x1, true))) else (none)) else (none)) else (some (0, false))
def refute_slot.f (k : Nat) (a0_0 : Int) (a0_1 : Int) (a0_2 : Bool) (l0_3 : List (S48)) (l0_4 : List (S50)) (l0_5 : List (S52)) (a1 : Int) (l2 : List Int) (a3 : Int) : Option (Int × Bool) := (dataflow_Source.f a0_0 a0_1 a0_2 l0_3 l0_4 l0_5).bind fun t142 => (if a3 = t142 then (some (0, true)) else (if a3 < a0_0 then (if a3 < (l2.length : Int) then (if 0 ≤ a3 then (refute_slot.j0 k a1 l2 a3 (decide ((rd l2 a3) ≥ 0))) else (none)) else (refute_slot.j0 k a1 l2 a3 false)) else (refute_slot.j0 k a1 l2 a3 false)))
theorem refute_slot.mono_l : ∀ k, (∀ y0 y1 y2 y3, LeO (refute_slot.j0 k y0 y1 y2 y3) (refute_slot.j0 (k + 1) y0 y1 y2 y3))
  | 0 => fun _ _ _ _ r h => by simp [refute_slot.j0] at h
  | k + 1 => by
    have ih0 := refute_slot.mono_l k
    intros
    unfold refute_slot.j0
    repeat' first | (with_reducible first | apply ih0 | exact LeO.refl _ | exact LeO.none _ | refine LeO.ite ?_ ?_ | refine LeO.bind ?_ (fun _ => ?_)) | apply ih0 | exact LeO.none _ | refine LeO.ite ?_ ?_ | refine LeO.bind ?_ (fun _ => ?_)
theorem refute_slot.mono : ∀ a0 a1 a2 a3 a4 a5 a6 a7 a8 k, LeO (refute_slot.f k a0 a1 a2 a3 a4 a5 a6 a7 a8) (refute_slot.f (k + 1) a0 a1 a2 a3 a4 a5 a6 a7 a8) := by
 intro a0 a1 a2 a3 a4 a5 a6 a7 a8 k
 have ih0 := refute_slot.mono_l k
 unfold refute_slot.f
 repeat' first | (with_reducible first | apply ih0 | exact LeO.refl _ | exact LeO.none _ | refine LeO.ite ?_ ?_ | refine LeO.bind ?_ (fun _ => ?_)) | apply ih0 | exact LeO.none _ | refine LeO.ite ?_ ?_ | refine LeO.bind ?_ (fun _ => ?_)
set_option maxHeartbeats 8000000 in
set_option maxRecDepth 100000 in
theorem refute_slot.calls (k : Nat) (a0_0 : Int) (a0_1 : Int) (a0_2 : Bool) (A0_3 : Option Addr) (c0_3 : Nat) (l0_3 : List (S48)) (A0_4 : Option Addr) (c0_4 : Nat) (l0_4 : List (S50)) (A0_5 : Option Addr) (c0_5 : Nat) (l0_5 : List (S52)) (a1 : Int) (A2 : Option Addr) (c2 : Nat) (l2 : List Int) (a3 : Int) (r1 : Int) (r2 : Bool) (w : World) (hr0_3 : Kd.C k48 w A0_3 l0_3.length l0_3) (hc0_3 : l0_3.length ≤ c0_3) (hr0_4 : Kd.C k50 w A0_4 l0_4.length l0_4) (hc0_4 : l0_4.length ≤ c0_4) (hr0_5 : Kd.C k52 w A0_5 l0_5.length l0_5) (hc0_5 : l0_5.length ≤ c0_5) (hr2 : Kd.C (Kd.int .i64) w A2 l2.length l2) (hc2 : l2.length ≤ c2) (h : refute_slot.f k a0_0 a0_1 a0_2 l0_3 l0_4 l0_5 a1 l2 a3 = some (r1, r2)) :
    Calls Try.prog 41 #[.agg #[.int .i64 a0_0, .int .i64 a0_1, .bool a0_2, .slice A0_3 l0_3.length c0_3, .slice A0_4 l0_4.length c0_4, .slice A0_5 l0_5.length c0_5], .int .i64 a1, .slice A2 l2.length c2, .int .i64 a3] w fun e w' => e = .returned (.tuple #[.int .i64 r1, .bool r2]) ∧ Below w.heap.size w w' := by
 have hu26 := Try.underlying26
 have HR0_3 := Aside0.mk hr0_3
 have HC0_3 := Aside0.mk hc0_3
 clear hr0_3 hc0_3
 have HR0_4 := Aside0.mk hr0_4
 have HC0_4 := Aside0.mk hc0_4
 clear hr0_4 hc0_4
 have HR0_5 := Aside0.mk hr0_5
 have HC0_5 := Aside0.mk hc0_5
 clear hr0_5 hc0_5
 have HR2 := Aside0.mk hr2
 have HC2 := Aside0.mk hc2
 clear hr2 hc2
 have HB := Aside0.mk (Below.refl w.heap.size w)
 have H : ((dataflow_Source.f a0_0 a0_1 a0_2 l0_3 l0_4 l0_5).bind fun t142 => (if a3 = t142 then (some (0, true)) else (if a3 < a0_0 then (if a3 < (l2.length : Int) then (if 0 ≤ a3 then (refute_slot.j0 k a1 l2 a3 (decide ((rd l2 a3) ≥ 0))) else (none)) else (refute_slot.j0 k a1 l2 a3 false)) else (refute_slot.j0 k a1 l2 a3 false)))) = some (r1, r2) := h
 clear h
 replace H := Option.bind_eq_some_iff.mp H
 obtain ⟨t142, A50, H⟩ := H
 replace H : (if a3 = t142 then (some (0, true)) else (if a3 < a0_0 then (if a3 < (l2.length : Int) then (if 0 ≤ a3 then (refute_slot.j0 k a1 l2 a3 (decide ((rd l2 a3) ≥ 0))) else (none)) else (refute_slot.j0 k a1 l2 a3 false)) else (refute_slot.j0 k a1 l2 a3 false))) = some (r1, r2) := H
 have A5 := Aside0.mk A50
 clear A50
 by_cases c6 : a3 = t142
 · rw [if_pos c6] at H
   have c6b0 : (a3 == t142) = true := beq_iff_eq.mpr c6
   have c6b1 : (a3 != t142) = false := bne_eq_false_iff_eq.mpr c6
   clear c6
   simp only [Option.some.injEq, Prod.mk.injEq] at H
   obtain ⟨rfl, rfl⟩ := H
   go_enter Try.func41, Try.ntmps41
   go_wp2_with (first | ((with_reducible refine gate_dst (N := 4) rfl ?_); (try (refine gate_guard (by rfl) ?_; dsimp only)); refine box_event ?hg (N := 4) ?hd (cs := #[.int .i64 a0_0, .int .i64 a0_1, .bool a0_2, .slice A0_3 l0_3.length c0_3, .slice A0_4 l0_4.length c0_4, .slice A0_5 l0_5.length c0_5]) (t := 26) ?hr ?_; (case hd => rfl); (case hg => rfl); (case hr => first | (go_simp; done) | (go_simp; rfl)); intro gb141 hg w7 hbox hb; have n0_ := Aside0.mk (below_step bl_ hb); have n1_ := Aside0.mk (hbox); have n2_ := Aside0.mk (gl_ (w := w) hg); have n3_ := Aside0.mk (gl_ (w := w) hg); clear HB; have HB := n0_; have BK141 := n1_; have GW141 := n2_; have GE141 := n3_; clear n0_ n1_ n2_ n3_; clear hb hbox hg; obtain ⟨hcz8_0, hcz8_1, hcz8_2, hcz8_3, hcz8_4, hcz8_5⟩ := cells6 BK141) | ((with_reducible refine gate_callee (f := 44) rfl ?_); refine gL_ 13 Try.func44 #[.agg #[.int .i64 a0_0, .int .i64 a0_1, .bool a0_2, .slice A0_3 l0_3.length c0_3, .slice A0_4 l0_4.length c0_4, .slice A0_5 l0_5.length c0_5]] ?_; (with_reducible refine (dataflow_Source.calls a0_0 a0_1 a0_2 _ _ l0_3 _ _ l0_4 _ _ l0_5 t142 _ ?side1 ?side2 ?side3 ?side4 ?side5 ?side6 A5.out).mono ?_); (case side1 => exact CB_ HR0_3); (case side2 => exact HC0_3.out); (case side3 => exact CB_ HR0_4); (case side4 => exact HC0_4.out); (case side5 => exact CB_ HR0_5); (case side6 => exact HC0_5.out); rintro e w9 ⟨rfl, hb⟩; refine ⟨_, rfl, ?_⟩; have n0_ := Aside0.mk (blk_below (K_ BK141) hb); have n1_ := Aside0.mk (below_step bl_ hb); clear BK141; clear HB; have BK141 := n0_; have HB := n1_; clear n0_ n1_; (try clear hb); (try clear hb2); (try clear hk); (try clear hi)))
   go_ret2
   exact ⟨by first | rfl | (simp [errW_none, errW_some] <;> rfl) | (simp [*, errW_none, errW_some] <;> rfl), by repeat (first | (with_reducible first | exact HB.out | apply below_alloc | apply pw_below_drewN | apply below_drew1 | refine below_set ?_ GE141.out) | exact HB.out)⟩
 rw [if_neg c6] at H
 have c6b0 : (a3 == t142) = false := beq_eq_false_iff_ne.mpr c6
 have c6b1 : (a3 != t142) = true := bne_iff_ne.mpr c6
 have HC10 := Aside0.mk H
 clear H
 go_enter Try.func41, Try.ntmps41
 go_upto_region 3 with (first | ((with_reducible refine gate_dst (N := 4) rfl ?_); (try (refine gate_guard (by rfl) ?_; dsimp only)); refine box_event ?hg (N := 4) ?hd (cs := #[.int .i64 a0_0, .int .i64 a0_1, .bool a0_2, .slice A0_3 l0_3.length c0_3, .slice A0_4 l0_4.length c0_4, .slice A0_5 l0_5.length c0_5]) (t := 26) ?hr ?_; (case hd => rfl); (case hg => rfl); (case hr => first | (go_simp; done) | (go_simp; rfl)); intro gb141 hg w11 hbox hb; have n0_ := Aside0.mk (below_step bl_ hb); have n1_ := Aside0.mk (hbox); have n2_ := Aside0.mk (gl_ (w := w) hg); have n3_ := Aside0.mk (gl_ (w := w) hg); clear HB; have HB := n0_; have BK141 := n1_; have GW141 := n2_; have GE141 := n3_; clear n0_ n1_ n2_ n3_; clear hb hbox hg; obtain ⟨hcz12_0, hcz12_1, hcz12_2, hcz12_3, hcz12_4, hcz12_5⟩ := cells6 BK141) | ((with_reducible refine gate_callee (f := 44) rfl ?_); refine gL_ 13 Try.func44 #[.agg #[.int .i64 a0_0, .int .i64 a0_1, .bool a0_2, .slice A0_3 l0_3.length c0_3, .slice A0_4 l0_4.length c0_4, .slice A0_5 l0_5.length c0_5]] ?_; (with_reducible refine (dataflow_Source.calls a0_0 a0_1 a0_2 _ _ l0_3 _ _ l0_4 _ _ l0_5 t142 _ ?side1 ?side2 ?side3 ?side4 ?side5 ?side6 A5.out).mono ?_); (case side1 => exact CB_ HR0_3); (case side2 => exact HC0_3.out); (case side3 => exact CB_ HR0_4); (case side4 => exact HC0_4.out); (case side5 => exact CB_ HR0_5); (case side6 => exact HC0_5.out); rintro e w13 ⟨rfl, hb⟩; refine ⟨_, rfl, ?_⟩; have n0_ := Aside0.mk (blk_below (K_ BK141) hb); have n1_ := Aside0.mk (below_step bl_ hb); clear BK141; clear HB; have BK141 := n0_; have HB := n1_; clear n0_ n1_; (try clear hb); (try clear hb2); (try clear hk); (try clear hi)))
 (try simp only [Act.put, List.setIfInBounds_toArray, List.set_cons_zero, List.set_cons_succ])
 go_cut [15] (fun v15 wc => ∃ (kq : Nat) (x15_9 : Bool), v15 = .bool x15_9 ∧ Aside0 (refute_slot.j0 kq a1 l2 a3 x15_9 = some (r1, r2)) ∧ Aside0 (kq ≤ k) ∧ Aside0 (wc.heap[gb141]? = some (.cells #[.int .i64 a0_0, .int .i64 a0_1, .bool a0_2, (.slice A0_3 l0_3.length c0_3), (.slice A0_4 l0_4.length c0_4), (.slice A0_5 l0_5.length c0_5)] 26 (0, 0))) ∧ Aside0 (Below w.heap.size w wc))
 case first =>
  have H := HC10.out
  clear HC10
  by_cases c14 : a3 < a0_0
  · rw [if_pos c14] at H
    have c14b0 : decide (a3 < a0_0) = true := decide_eq_true c14
    clear c14
    (first | rw [c14b0] | (simp only [i64_w, i32_w]; rw [c14b0]) | skip)
    by_cases c15 : a3 < (l2.length : Int)
    · rw [if_pos c15] at H
      have c15b0 : decide (a3 < (l2.length : Int)) = true := decide_eq_true c15
      clear c15
      by_cases c16 : 0 ≤ a3
      · rw [if_pos c16] at H
        have c16b0 : decide (0 ≤ a3) = true := decide_eq_true c16
        clear c16
        have H' := Aside0.mk H
        clear H
        obtain ⟨hcz17_0, hcz17_1, hcz17_2, hcz17_3, hcz17_4, hcz17_5⟩ := cells6 BK141
        have p143 : 0 ≤ (a3 : Int) := of_decide_eq_true (by first | (with_reducible assumption) | assumption)
        have q143 : a3 < (l2.length : Int) := of_decide_eq_true (by first | (with_reducible assumption) | assumption)
        obtain ⟨ad143, e143, hx143_0⟩ := Kd.at_int HR2.out a3 p143 q143
        cases e143
        replace hx143_0 := hc_ HB hx143_0
        replace p143 := eq_true p143
        replace q143 := eq_true q143
        go_wp2
        go_meet
        case rel => exact ⟨_, (decide ((rd l2 a3) ≥ 0)), (by first | rfl | (simp; done) | (simp [*]; done)), H', ⟨by first | omega | exact Nat.le_refl _⟩, ⟨K_ BK141⟩, ⟨bl_⟩⟩
      rw [if_neg c16] at H
      exact absurd H (by simp)
    rw [if_neg c15] at H
    have c15b0 : decide (a3 < (l2.length : Int)) = false := decide_eq_false c15
    clear c15
    have H' := Aside0.mk H
    clear H
    obtain ⟨hcz18_0, hcz18_1, hcz18_2, hcz18_3, hcz18_4, hcz18_5⟩ := cells6 BK141
    go_wp2
    go_meet
    case rel => exact ⟨_, (false), (by first | rfl | (simp; done) | (simp [*]; done)), H', ⟨by first | omega | exact Nat.le_refl _⟩, ⟨K_ BK141⟩, ⟨bl_⟩⟩
  rw [if_neg c14] at H
  have c14b0 : decide (a3 < a0_0) = false := decide_eq_false c14
  clear c14
  (first | rw [c14b0] | (simp only [i64_w, i32_w]; rw [c14b0]) | skip)
  have H' := Aside0.mk H
  clear H
  obtain ⟨hcz19_0, hcz19_1, hcz19_2, hcz19_3, hcz19_4, hcz19_5⟩ := cells6 BK141
  go_wp2
  go_meet
  case rel => exact ⟨_, (false), (by first | rfl | (simp; done) | (simp [*]; done)), H', ⟨by first | omega | exact Nat.le_refl _⟩, ⟨K_ BK141⟩, ⟨bl_⟩⟩
 clear HC10
 obtain ⟨kq, x15_9, rfl, HA, HJ9, BK141, HB⟩ := hcut
 cases kq with
 | zero => exact absurd HA.out (by simp [refute_slot.j0])
 | succ kj9 => ?_
 have H := HA.out
 clear HA
 simp only [refute_slot.j0] at H
 by_cases c20 : x15_9 = true
 · subst c20
   have H1 : (if 0 ≤ a3 then (if a3 < (l2.length : Int) then (if a1 = 0 then (none) else (some (Int.tmod (rd l2 a3) a1, true))) else (none)) else (none)) = some (r1, r2) := by rw [if_pos rfl] at H; exact H
   clear H
   have H := H1
   clear H1
   by_cases c21 : 0 ≤ a3
   · rw [if_pos c21] at H
     have c21b0 : decide (0 ≤ a3) = true := decide_eq_true c21
     clear c21
     by_cases c22 : a3 < (l2.length : Int)
     · rw [if_pos c22] at H
       have c22b0 : decide (a3 < (l2.length : Int)) = true := decide_eq_true c22
       clear c22
       by_cases c23 : a1 = 0
       · rw [if_pos c23] at H
         exact absurd H (by simp)
       rw [if_neg c23] at H
       have c23b0 : (a1 == 0) = false := beq_eq_false_iff_ne.mpr c23
       have c23b1 : (a1 != 0) = true := bne_iff_ne.mpr c23
       simp only [Option.some.injEq, Prod.mk.injEq] at H
       obtain ⟨rfl, rfl⟩ := H
       have p144 : 0 ≤ (a3 : Int) := of_decide_eq_true (by first | (with_reducible assumption) | assumption)
       have q144 : a3 < (l2.length : Int) := of_decide_eq_true (by first | (with_reducible assumption) | assumption)
       obtain ⟨ad144, e144, hx144_0⟩ := Kd.at_int HR2.out a3 p144 q144
       cases e144
       replace hx144_0 := hc_ HB hx144_0
       replace p144 := eq_true p144
       replace q144 := eq_true q144
       go_wp2
       go_ret2
       exact ⟨by first | rfl | (simp [errW_none, errW_some] <;> rfl) | (simp [*, errW_none, errW_some] <;> rfl), by repeat (first | (with_reducible first | exact HB.out | apply below_alloc | apply pw_below_drewN | apply below_drew1 | refine below_set ?_ GE141.out) | exact HB.out)⟩
     rw [if_neg c22] at H
     exact absurd H (by simp)
   rw [if_neg c21] at H
   exact absurd H (by simp)
 replace c20 := Bool.eq_false_iff.mpr c20
 subst c20
 have H1 : (some (0, false)) = some (r1, r2) := by rw [if_neg (show ¬ (false = true) by decide)] at H; exact H
 clear H
 have H := H1
 clear H1
 simp only [Option.some.injEq, Prod.mk.injEq] at H
 obtain ⟨rfl, rfl⟩ := H
 go_wp2
 go_ret2
 exact ⟨by first | rfl | (simp [errW_none, errW_some] <;> rfl) | (simp [*, errW_none, errW_some] <;> rfl), by repeat (first | (with_reducible first | exact HB.out | apply below_alloc | apply pw_below_drewN | apply below_drew1 | refine below_set ?_ GE141.out) | exact HB.out)⟩
end Go.Proofs.Ytpmlbbglekaidaa.PAll
