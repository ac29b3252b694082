-- Written for this claim by programs of this session (wip/print2 in its repo: a changed printer, a shortener, a packer). Lean checks it.
import Derived.Test.YtpmlbbglekaidaaP0
import Derived.Test.YtpmlbbglekaidaaF10
import Derived.Test.YtpmlbbglekaidaaF6
import Derived.Test.YtpmlbbglekaidaaF7
import Derived.Test.YtpmlbbglekaidaaF8
import Derived.Test.YtpmlbbglekaidaaF9
namespace Go.Proofs.Ytpmlbbglekaidaa.PAll
open Go.RowKit Go.Proofs.YtpmlbbglekaidaaW.PrintWords Go.Proofs.YtpmlbbglekaidaaW.PrintLast Go.Proofs.YtpmlbbglekaidaaW.PrintMore
attribute [local go_sem] max2_int min2_int max_two min_two max_three min_three max_four min_four   -- for this text's walks alone
set_option linter.unusedVariables false
set_option linter.unusedSimpArgs false

/-! ### jacquardlaw34_RefuteSound: function 3 -/
def jacquardlaw34_RefuteSound.j0 : Nat → Int → Bool → Int → Int → Bool → List (S48) → List (S50) → List (S52) → Option (Bool)
  | 0, _, _, _, _, _, _, _, _ => none
  | k + 1, x1, x25, x446000, x446001, x446002, x446003, x446004, x446005 => if x25 = true then ((jacquardlaw34_awake.f k).bind fun t449 => (some t449)) else ((jacquardref33_Needy.f k x446000 x446001 x446002 x446003 x446004 x446005).bind fun t450 => (if (t450.length : Int) > 3 then (some true) else ((jacquardref33_Possible.f k x446000 x446001 x446002 x446003 x446004 x446005 x1 ([] : List (S44))).bind fun t453 => (some (!t453)))))
def jacquardlaw34_RefuteSound.f (k : Nat) (a0_0 : Int) (a0_1 : Int) (a0_2 : Bool) (l0_3 : List (S48)) (l0_4 : List (S50)) (l0_5 : List (S52)) (a1 : Int) (l2 : List (S54)) : Option (Bool) := (jacquardlaw34_awake.f k).bind fun t446 => (if t446 = true then ((jacquardlaw34_few.f k a0_0 a0_1 a0_2 l0_3 l0_4 l0_5 l2).bind fun t447 => (if t447 = true then (if a1 > 5 then (jacquardlaw34_RefuteSound.j0 k a1 true a0_0 a0_1 a0_2 l0_3 l0_4 l0_5) else ((refute_Check.f k a0_0 a0_1 a0_2 l0_3 l0_4 l0_5 a1 l2).bind fun t448 => (jacquardlaw34_RefuteSound.j0 k a1 (!t448) a0_0 a0_1 a0_2 l0_3 l0_4 l0_5))) else (jacquardlaw34_RefuteSound.j0 k a1 true a0_0 a0_1 a0_2 l0_3 l0_4 l0_5))) else (jacquardlaw34_RefuteSound.j0 k a1 true a0_0 a0_1 a0_2 l0_3 l0_4 l0_5))
theorem jacquardlaw34_RefuteSound.mono_l : ∀ k, (∀ y0 y1 y2 y3 y4 y5 y6 y7, LeO (jacquardlaw34_RefuteSound.j0 k y0 y1 y2 y3 y4 y5 y6 y7) (jacquardlaw34_RefuteSound.j0 (k + 1) y0 y1 y2 y3 y4 y5 y6 y7))
  | 0 => fun _ _ _ _ _ _ _ _ r h => by simp [jacquardlaw34_RefuteSound.j0] at h
  | k + 1 => by
    have ih0 := jacquardlaw34_RefuteSound.mono_l k
    intros
    unfold jacquardlaw34_RefuteSound.j0
    repeat' first | (with_reducible first | apply ih0 | apply jacquardlaw34_awake.mono | apply jacquardlaw34_few.mono | apply jacquardref33_Needy.mono | apply jacquardref33_Possible.mono | apply refute_Check.mono | exact LeO.refl _ | exact LeO.none _ | refine LeO.ite ?_ ?_ | refine LeO.bind ?_ (fun _ => ?_)) | apply ih0 | apply jacquardlaw34_awake.mono | apply jacquardlaw34_few.mono | apply jacquardref33_Needy.mono | apply jacquardref33_Possible.mono | apply refute_Check.mono | exact LeO.none _ | refine LeO.ite ?_ ?_ | refine LeO.bind ?_ (fun _ => ?_)
theorem jacquardlaw34_RefuteSound.mono : ∀ a0 a1 a2 a3 a4 a5 a6 a7 k, LeO (jacquardlaw34_RefuteSound.f k a0 a1 a2 a3 a4 a5 a6 a7) (jacquardlaw34_RefuteSound.f (k + 1) a0 a1 a2 a3 a4 a5 a6 a7) := by
 intro a0 a1 a2 a3 a4 a5 a6 a7 k
 have ih0 := jacquardlaw34_RefuteSound.mono_l k
 unfold jacquardlaw34_RefuteSound.f
 repeat' first | (with_reducible first | apply ih0 | apply jacquardlaw34_awake.mono | apply jacquardlaw34_few.mono | apply jacquardref33_Needy.mono | apply jacquardref33_Possible.mono | apply refute_Check.mono | exact LeO.refl _ | exact LeO.none _ | refine LeO.ite ?_ ?_ | refine LeO.bind ?_ (fun _ => ?_)) | apply ih0 | apply jacquardlaw34_awake.mono | apply jacquardlaw34_few.mono | apply jacquardref33_Needy.mono | apply jacquardref33_Possible.mono | apply refute_Check.mono | exact LeO.none _ | refine LeO.ite ?_ ?_ | refine LeO.bind ?_ (fun _ => ?_)
set_option maxHeartbeats 8000000 in
set_option maxRecDepth 100000 in
theorem jacquardlaw34_RefuteSound.calls (k : Nat) (a0_0 : Int) (a0_1 : Int) (a0_2 : Bool) (A0_3 : Option Addr) (c0_3 : Nat) (l0_3 : List (S48)) (A0_4 : Option Addr) (c0_4 : Nat) (l0_4 : List (S50)) (A0_5 : Option Addr) (c0_5 : Nat) (l0_5 : List (S52)) (a1 : Int) (A2 : Option Addr) (c2 : Nat) (l2 : List (S54)) (r : Bool) (w : World) (hr0_3 : Kd.C k48 w A0_3 l0_3.length l0_3) (hc0_3 : l0_3.length ≤ c0_3) (hr0_4 : Kd.C k50 w A0_4 l0_4.length l0_4) (hc0_4 : l0_4.length ≤ c0_4) (hr0_5 : Kd.C k52 w A0_5 l0_5.length l0_5) (hc0_5 : l0_5.length ≤ c0_5) (hr2 : Kd.C k54 w A2 l2.length l2) (hc2 : l2.length ≤ c2) (h : jacquardlaw34_RefuteSound.f k a0_0 a0_1 a0_2 l0_3 l0_4 l0_5 a1 l2 = some r) (hr_ : r = true) :
    Calls Try.prog 3 #[.agg #[.int .i64 a0_0, .int .i64 a0_1, .bool a0_2, .slice A0_3 l0_3.length c0_3, .slice A0_4 l0_4.length c0_4, .slice A0_5 l0_5.length c0_5], .int .i64 a1, .slice A2 l2.length c2] w fun e w' => e = .returned (.bool r) ∧ Below w.heap.size w w' := by
 have hu26 := Try.underlying26
 have HR0_3 := Aside0.mk hr0_3
 have HC0_3 := Aside0.mk hc0_3
 clear hr0_3 hc0_3
 have HR0_4 := Aside0.mk hr0_4
 have HC0_4 := Aside0.mk hc0_4
 clear hr0_4 hc0_4
 have HR0_5 := Aside0.mk hr0_5
 have HC0_5 := Aside0.mk hc0_5
 clear hr0_5 hc0_5
 have HR2 := Aside0.mk hr2
 have HC2 := Aside0.mk hc2
 clear hr2 hc2
 have HB := Aside0.mk (Below.refl w.heap.size w)
 have HRT_ := Aside0.mk hr_
 clear hr_
 have H : ((jacquardlaw34_awake.f k).bind fun t446 => (if t446 = true then ((jacquardlaw34_few.f k a0_0 a0_1 a0_2 l0_3 l0_4 l0_5 l2).bind fun t447 => (if t447 = true then (if a1 > 5 then (jacquardlaw34_RefuteSound.j0 k a1 true a0_0 a0_1 a0_2 l0_3 l0_4 l0_5) else ((refute_Check.f k a0_0 a0_1 a0_2 l0_3 l0_4 l0_5 a1 l2).bind fun t448 => (jacquardlaw34_RefuteSound.j0 k a1 (!t448) a0_0 a0_1 a0_2 l0_3 l0_4 l0_5))) else (jacquardlaw34_RefuteSound.j0 k a1 true a0_0 a0_1 a0_2 l0_3 l0_4 l0_5))) else (jacquardlaw34_RefuteSound.j0 k a1 true a0_0 a0_1 a0_2 l0_3 l0_4 l0_5))) = some r := h
 clear h
 have HC4 := Aside0.mk H
 clear H
 go_enter Try.func3, Try.ntmps3
 go_upto_region 1 with (first | ((with_reducible refine gate_dst (N := 3) rfl ?_); refine box_event ?hg (N := 3) ?hd (cs := #[.int .i64 a0_0, .int .i64 a0_1, .bool a0_2, .slice A0_3 l0_3.length c0_3, .slice A0_4 l0_4.length c0_4, .slice A0_5 l0_5.length c0_5]) (t := 26) ?hr ?_; (case hd => rfl); (case hg => rfl); (case hr => first | (go_simp; done) | (go_simp; rfl)); intro gb445 hg w5 hbox hb; have n0_ := Aside0.mk (below_step bl_ hb); have n1_ := Aside0.mk (hbox); have n2_ := Aside0.mk (gl_ (w := w) hg); have n3_ := Aside0.mk (gl_ (w := w) hg); clear HB; have HB := n0_; have BK445 := n1_; have GW445 := n2_; have GE445 := n3_; clear n0_ n1_ n2_ n3_; clear hb hbox hg))
 (try simp only [Act.put, List.setIfInBounds_toArray, List.set_cons_zero, List.set_cons_succ])
 go_cut [25] (fun v25 wc => ∃ (kq : Nat) (x25_3 : Bool), v25 = .bool x25_3 ∧ Aside0 (jacquardlaw34_RefuteSound.j0 kq a1 x25_3 a0_0 a0_1 a0_2 l0_3 l0_4 l0_5 = some r) ∧ Aside0 (kq ≤ k) ∧ Aside0 (wc.heap[gb445]? = some (.cells #[.int .i64 a0_0, .int .i64 a0_1, .bool a0_2, (.slice A0_3 l0_3.length c0_3), (.slice A0_4 l0_4.length c0_4), (.slice A0_5 l0_5.length c0_5)] 26 (0, 0))) ∧ Aside0 (Below w.heap.size w wc))
 case first =>
  have H := HC4.out
  clear HC4
  replace H := Option.bind_eq_some_iff.mp H
  obtain ⟨t446, A60, H⟩ := H
  replace H : (if t446 = true then ((jacquardlaw34_few.f k a0_0 a0_1 a0_2 l0_3 l0_4 l0_5 l2).bind fun t447 => (if t447 = true then (if a1 > 5 then (jacquardlaw34_RefuteSound.j0 k a1 true a0_0 a0_1 a0_2 l0_3 l0_4 l0_5) else ((refute_Check.f k a0_0 a0_1 a0_2 l0_3 l0_4 l0_5 a1 l2).bind fun t448 => (jacquardlaw34_RefuteSound.j0 k a1 (!t448) a0_0 a0_1 a0_2 l0_3 l0_4 l0_5))) else (jacquardlaw34_RefuteSound.j0 k a1 true a0_0 a0_1 a0_2 l0_3 l0_4 l0_5))) else (jacquardlaw34_RefuteSound.j0 k a1 true a0_0 a0_1 a0_2 l0_3 l0_4 l0_5)) = some r := H
  have A6 := Aside0.mk A60
  clear A60
  by_cases c7 : t446 = true
  · subst c7
    have H1 : ((jacquardlaw34_few.f k a0_0 a0_1 a0_2 l0_3 l0_4 l0_5 l2).bind fun t447 => (if t447 = true then (if a1 > 5 then (jacquardlaw34_RefuteSound.j0 k a1 true a0_0 a0_1 a0_2 l0_3 l0_4 l0_5) else ((refute_Check.f k a0_0 a0_1 a0_2 l0_3 l0_4 l0_5 a1 l2).bind fun t448 => (jacquardlaw34_RefuteSound.j0 k a1 (!t448) a0_0 a0_1 a0_2 l0_3 l0_4 l0_5))) else (jacquardlaw34_RefuteSound.j0 k a1 true a0_0 a0_1 a0_2 l0_3 l0_4 l0_5))) = some r := by rw [if_pos rfl] at H; exact H
    clear H
    have H := H1
    clear H1
    replace H := Option.bind_eq_some_iff.mp H
    obtain ⟨t447, A80, H⟩ := H
    replace H : (if t447 = true then (if a1 > 5 then (jacquardlaw34_RefuteSound.j0 k a1 true a0_0 a0_1 a0_2 l0_3 l0_4 l0_5) else ((refute_Check.f k a0_0 a0_1 a0_2 l0_3 l0_4 l0_5 a1 l2).bind fun t448 => (jacquardlaw34_RefuteSound.j0 k a1 (!t448) a0_0 a0_1 a0_2 l0_3 l0_4 l0_5))) else (jacquardlaw34_RefuteSound.j0 k a1 true a0_0 a0_1 a0_2 l0_3 l0_4 l0_5)) = some r := H
    have A8 := Aside0.mk A80
    clear A80
    by_cases c9 : t447 = true
    · subst c9
      have H1 : (if a1 > 5 then (jacquardlaw34_RefuteSound.j0 k a1 true a0_0 a0_1 a0_2 l0_3 l0_4 l0_5) else ((refute_Check.f k a0_0 a0_1 a0_2 l0_3 l0_4 l0_5 a1 l2).bind fun t448 => (jacquardlaw34_RefuteSound.j0 k a1 (!t448) a0_0 a0_1 a0_2 l0_3 l0_4 l0_5))) = some r := by rw [if_pos rfl] at H; exact H
      clear H
      have H := H1
      clear H1
      by_cases c10 : a1 > 5
      · rw [if_pos c10] at H
        have c10b0 : decide (5 < a1) = true := decide_eq_true c10
        clear c10
        (first | rw [c10b0] | (simp only [i64_w, i32_w]; rw [c10b0]) | skip)
        have H' := Aside0.mk H
        clear H
        go_wp2_with (first | ((with_reducible refine gate_callee (f := 6) rfl ?_); refine gL_ 7 Try.func6 #[] ?_; (with_reducible refine (jacquardlaw34_awake.calls k  true _ A6.out).mono ?_); rintro e w11 ⟨rfl, hb⟩; refine ⟨_, rfl, ?_⟩; have n0_ := Aside0.mk (blk_below (K_ BK445) hb); have n1_ := Aside0.mk (below_step bl_ hb); clear BK445; clear HB; have BK445 := n0_; have HB := n1_; clear n0_ n1_; (try clear hb); (try clear hb2); (try clear hk); (try clear hi); obtain ⟨hcz12_0, hcz12_1, hcz12_2, hcz12_3, hcz12_4, hcz12_5⟩ := cells6 BK445) | (go_at_call 7; (with_reducible refine (jacquardlaw34_few.calls k a0_0 a0_1 a0_2 _ _ l0_3 _ _ l0_4 _ _ l0_5 _ _ l2 true _ ?side1 ?side2 ?side3 ?side4 ?side5 ?side6 ?side7 ?side8 A8.out).mono ?_); (case side1 => exact CB_ HR0_3); (case side2 => exact HC0_3.out); (case side3 => exact CB_ HR0_4); (case side4 => exact HC0_4.out); (case side5 => exact CB_ HR0_5); (case side6 => exact HC0_5.out); (case side7 => exact CB_ HR2); (case side8 => exact HC2.out); rintro e w13 ⟨rfl, hb⟩; have n0_ := Aside0.mk (blk_below (K_ BK445) hb); have n1_ := Aside0.mk (below_step bl_ hb); clear BK445; clear HB; have BK445 := n0_; have HB := n1_; clear n0_ n1_; (try clear hb); (try clear hb2); (try clear hk); (try clear hi)))
        go_meet
        case rel => exact ⟨_, (true), (by first | rfl | (simp; done) | (simp [*]; done)), H', ⟨by first | omega | exact Nat.le_refl _⟩, ⟨K_ BK445⟩, ⟨bl_⟩⟩
      rw [if_neg c10] at H
      have c10b0 : decide (5 < a1) = false := decide_eq_false c10
      clear c10
      (first | rw [c10b0] | (simp only [i64_w, i32_w]; rw [c10b0]) | skip)
      replace H := Option.bind_eq_some_iff.mp H
      obtain ⟨t448, A140, H⟩ := H
      replace H : (jacquardlaw34_RefuteSound.j0 k a1 (!t448) a0_0 a0_1 a0_2 l0_3 l0_4 l0_5) = some r := H
      have A14 := Aside0.mk A140
      clear A140
      have H' := Aside0.mk H
      clear H
      go_wp2_with (first | ((with_reducible refine gate_callee (f := 6) rfl ?_); refine gL_ 7 Try.func6 #[] ?_; (with_reducible refine (jacquardlaw34_awake.calls k  true _ A6.out).mono ?_); rintro e w15 ⟨rfl, hb⟩; refine ⟨_, rfl, ?_⟩; have n0_ := Aside0.mk (blk_below (K_ BK445) hb); have n1_ := Aside0.mk (below_step bl_ hb); clear BK445; clear HB; have BK445 := n0_; have HB := n1_; clear n0_ n1_; (try clear hb); (try clear hb2); (try clear hk); (try clear hi); obtain ⟨hcz16_0, hcz16_1, hcz16_2, hcz16_3, hcz16_4, hcz16_5⟩ := cells6 BK445) | (go_at_call 7; (with_reducible refine (jacquardlaw34_few.calls k a0_0 a0_1 a0_2 _ _ l0_3 _ _ l0_4 _ _ l0_5 _ _ l2 true _ ?side1 ?side2 ?side3 ?side4 ?side5 ?side6 ?side7 ?side8 A8.out).mono ?_); (case side1 => exact CB_ HR0_3); (case side2 => exact HC0_3.out); (case side3 => exact CB_ HR0_4); (case side4 => exact HC0_4.out); (case side5 => exact CB_ HR0_5); (case side6 => exact HC0_5.out); (case side7 => exact CB_ HR2); (case side8 => exact HC2.out); rintro e w17 ⟨rfl, hb⟩; have n0_ := Aside0.mk (blk_below (K_ BK445) hb); have n1_ := Aside0.mk (below_step bl_ hb); clear BK445; clear HB; have BK445 := n0_; have HB := n1_; clear n0_ n1_; (try clear hb); (try clear hb2); (try clear hk); (try clear hi); obtain ⟨hcz18_0, hcz18_1, hcz18_2, hcz18_3, hcz18_4, hcz18_5⟩ := cells6 BK445) | (go_at_call 8; (with_reducible refine (refute_Check.calls k a0_0 a0_1 a0_2 _ _ l0_3 _ _ l0_4 _ _ l0_5 a1 _ _ l2 t448 _ ?side1 ?side2 ?side3 ?side4 ?side5 ?side6 ?side7 ?side8 A14.out).mono ?_); (case side1 => exact CB_ HR0_3); (case side2 => exact HC0_3.out); (case side3 => exact CB_ HR0_4); (case side4 => exact HC0_4.out); (case side5 => exact CB_ HR0_5); (case side6 => exact HC0_5.out); (case side7 => exact CB_ HR2); (case side8 => exact HC2.out); rintro e w19 ⟨rfl, hb⟩; have n0_ := Aside0.mk (blk_below (K_ BK445) hb); have n1_ := Aside0.mk (below_step bl_ hb); clear BK445; clear HB; have BK445 := n0_; have HB := n1_; clear n0_ n1_; (try clear hb); (try clear hb2); (try clear hk); (try clear hi)))
      go_meet
      case rel => exact ⟨_, (!t448), (by first | rfl | (simp; done) | (simp [*]; done)), H', ⟨by first | omega | exact Nat.le_refl _⟩, ⟨K_ BK445⟩, ⟨bl_⟩⟩
    replace c9 := Bool.eq_false_iff.mpr c9
    subst c9
    have H1 : (jacquardlaw34_RefuteSound.j0 k a1 true a0_0 a0_1 a0_2 l0_3 l0_4 l0_5) = some r := by rw [if_neg (show ¬ (false = true) by decide)] at H; exact H
    clear H
    have H := H1
    clear H1
    have H' := Aside0.mk H
    clear H
    go_wp2_with (first | ((with_reducible refine gate_callee (f := 6) rfl ?_); refine gL_ 7 Try.func6 #[] ?_; (with_reducible refine (jacquardlaw34_awake.calls k  true _ A6.out).mono ?_); rintro e w20 ⟨rfl, hb⟩; refine ⟨_, rfl, ?_⟩; have n0_ := Aside0.mk (blk_below (K_ BK445) hb); have n1_ := Aside0.mk (below_step bl_ hb); clear BK445; clear HB; have BK445 := n0_; have HB := n1_; clear n0_ n1_; (try clear hb); (try clear hb2); (try clear hk); (try clear hi); obtain ⟨hcz21_0, hcz21_1, hcz21_2, hcz21_3, hcz21_4, hcz21_5⟩ := cells6 BK445) | (go_at_call 7; (with_reducible refine (jacquardlaw34_few.calls k a0_0 a0_1 a0_2 _ _ l0_3 _ _ l0_4 _ _ l0_5 _ _ l2 false _ ?side1 ?side2 ?side3 ?side4 ?side5 ?side6 ?side7 ?side8 A8.out).mono ?_); (case side1 => exact CB_ HR0_3); (case side2 => exact HC0_3.out); (case side3 => exact CB_ HR0_4); (case side4 => exact HC0_4.out); (case side5 => exact CB_ HR0_5); (case side6 => exact HC0_5.out); (case side7 => exact CB_ HR2); (case side8 => exact HC2.out); rintro e w22 ⟨rfl, hb⟩; have n0_ := Aside0.mk (blk_below (K_ BK445) hb); have n1_ := Aside0.mk (below_step bl_ hb); clear BK445; clear HB; have BK445 := n0_; have HB := n1_; clear n0_ n1_; (try clear hb); (try clear hb2); (try clear hk); (try clear hi)))
    go_meet
    case rel => exact ⟨_, (true), (by first | rfl | (simp; done) | (simp [*]; done)), H', ⟨by first | omega | exact Nat.le_refl _⟩, ⟨K_ BK445⟩, ⟨bl_⟩⟩
  replace c7 := Bool.eq_false_iff.mpr c7
  subst c7
  have H1 : (jacquardlaw34_RefuteSound.j0 k a1 true a0_0 a0_1 a0_2 l0_3 l0_4 l0_5) = some r := by rw [if_neg (show ¬ (false = true) by decide)] at H; exact H
  clear H
  have H := H1
  clear H1
  have H' := Aside0.mk H
  clear H
  go_wp2_with (first | ((with_reducible refine gate_callee (f := 6) rfl ?_); refine gL_ 7 Try.func6 #[] ?_; (with_reducible refine (jacquardlaw34_awake.calls k  false _ A6.out).mono ?_); rintro e w23 ⟨rfl, hb⟩; refine ⟨_, rfl, ?_⟩; have n0_ := Aside0.mk (blk_below (K_ BK445) hb); have n1_ := Aside0.mk (below_step bl_ hb); clear BK445; clear HB; have BK445 := n0_; have HB := n1_; clear n0_ n1_; (try clear hb); (try clear hb2); (try clear hk); (try clear hi)))
  go_meet
  case rel => exact ⟨_, (true), (by first | rfl | (simp; done) | (simp [*]; done)), H', ⟨by first | omega | exact Nat.le_refl _⟩, ⟨K_ BK445⟩, ⟨bl_⟩⟩
 clear HC4
 obtain ⟨kq, x25_3, rfl, HA, HJ3, BK445, HB⟩ := hcut
 cases kq with
 | zero => exact absurd HA.out (by simp [jacquardlaw34_RefuteSound.j0])
 | succ kj3 => ?_
 have H := HA.out
 clear HA
 simp only [jacquardlaw34_RefuteSound.j0] at H
 by_cases c24 : x25_3 = true
 · subst c24
   have H1 : ((jacquardlaw34_awake.f kj3).bind fun t449 => (some t449)) = some r := by rw [if_pos rfl] at H; exact H
   clear H
   have H := H1
   clear H1
   replace H := Option.bind_eq_some_iff.mp H
   obtain ⟨t449, A250, H⟩ := H
   replace H : (some t449) = some r := H
   have A25 := Aside0.mk A250
   clear A250
   obtain rfl := Option.some.inj H
   go_wp2_with (first | ((with_reducible refine gate_callee (f := 6) rfl ?_); refine gL_ 26 Try.func6 #[] ?_; (with_reducible refine (jacquardlaw34_awake.calls kj3  t449 _ A25.out).mono ?_); rintro e w26 ⟨rfl, hb⟩; refine ⟨_, rfl, ?_⟩; have n0_ := Aside0.mk (blk_below (K_ BK445) hb); have n1_ := Aside0.mk (below_step bl_ hb); clear BK445; clear HB; have BK445 := n0_; have HB := n1_; clear n0_ n1_; (try clear hb); (try clear hb2); (try clear hk); (try clear hi)))
   go_ret
   exact ⟨by first | rfl | (simp [errW_none, errW_some] <;> rfl) | (simp [*, errW_none, errW_some] <;> rfl), by repeat (first | (with_reducible first | exact HB.out | apply below_alloc | apply pw_below_drewN | apply below_drew1 | refine below_set ?_ GE445.out) | exact HB.out)⟩
 replace c24 := Bool.eq_false_iff.mpr c24
 subst c24
 have H1 : ((jacquardref33_Needy.f kj3 a0_0 a0_1 a0_2 l0_3 l0_4 l0_5).bind fun t450 => (if (t450.length : Int) > 3 then (some true) else ((jacquardref33_Possible.f kj3 a0_0 a0_1 a0_2 l0_3 l0_4 l0_5 a1 ([] : List (S44))).bind fun t453 => (some (!t453))))) = some r := by rw [if_neg (show ¬ (false = true) by decide)] at H; exact H
 clear H
 have H := H1
 clear H1
 replace H := Option.bind_eq_some_iff.mp H
 obtain ⟨t450, A270, H⟩ := H
 replace H : (if (t450.length : Int) > 3 then (some true) else ((jacquardref33_Possible.f kj3 a0_0 a0_1 a0_2 l0_3 l0_4 l0_5 a1 ([] : List (S44))).bind fun t453 => (some (!t453)))) = some r := H
 have A27 := Aside0.mk A270
 clear A270
 by_cases c28 : (t450.length : Int) > 3
 · rw [if_pos c28] at H
   have c28b0 : decide (3 < (t450.length : Int)) = true := decide_eq_true c28
   have c28b1 : decide (3 < t450.length) = true := decide_eq_true (by omega)
   clear c28
   obtain rfl := Option.some.inj H
   obtain ⟨hcz29_0, hcz29_1, hcz29_2, hcz29_3, hcz29_4, hcz29_5⟩ := cells6 BK445
   go_wp2_with (first | ((with_reducible refine gate_callee (f := 9) rfl ?_); refine gL_ 28 Try.func9 #[.agg #[.int .i64 a0_0, .int .i64 a0_1, .bool a0_2, .slice A0_3 l0_3.length c0_3, .slice A0_4 l0_4.length c0_4, .slice A0_5 l0_5.length c0_5]] ?_; (with_reducible refine (jacquardref33_Needy.calls kj3 a0_0 a0_1 a0_2 _ _ l0_3 _ _ l0_4 _ _ l0_5 t450 _ ?side1 ?side2 ?side3 ?side4 ?side5 ?side6 A27.out).mono ?_); (case side1 => exact CB_ HR0_3); (case side2 => exact HC0_3.out); (case side3 => exact CB_ HR0_4); (case side4 => exact HC0_4.out); (case side5 => exact CB_ HR0_5); (case side6 => exact HC0_5.out); rintro e w30 ⟨v451, rfl, ho0, hb⟩; refine ⟨_, rfl, ?_⟩; have n0_ := Aside0.mk (Kd.R_lower ho0 (below_size bl_)); have n1_ := Aside0.mk (blk_below (K_ BK445) hb); have n2_ := Aside0.mk (below_step bl_ hb); clear BK445; clear HB; have HO452 := n0_; have BK445 := n1_; have HB := n2_; clear n0_ n1_ n2_; (try clear hb); (try clear hb2); (try clear hk); (try clear hi); (try clear ho0); obtain ⟨Ao31, co31, eo31⟩ := Kd.R_slice HO452.out; subst eo31))
   go_ret
   exact ⟨by first | rfl | (simp [errW_none, errW_some] <;> rfl) | (simp [*, errW_none, errW_some] <;> rfl), by repeat (first | (with_reducible first | exact HB.out | apply below_alloc | apply pw_below_drewN | apply below_drew1 | refine below_set ?_ GE445.out) | exact HB.out)⟩
 rw [if_neg c28] at H
 have c28b0 : decide (3 < (t450.length : Int)) = false := decide_eq_false c28
 have c28b1 : decide (3 < t450.length) = false := decide_eq_false (by omega)
 clear c28
 replace H := Option.bind_eq_some_iff.mp H
 obtain ⟨t453, A320, H⟩ := H
 replace H : (some (!t453)) = some r := H
 have A32 := Aside0.mk A320
 clear A320
 obtain rfl := Option.some.inj H
 obtain ⟨hcz33_0, hcz33_1, hcz33_2, hcz33_3, hcz33_4, hcz33_5⟩ := cells6 BK445
 go_wp2_with (first | ((with_reducible refine gate_callee (f := 9) rfl ?_); refine gL_ 28 Try.func9 #[.agg #[.int .i64 a0_0, .int .i64 a0_1, .bool a0_2, .slice A0_3 l0_3.length c0_3, .slice A0_4 l0_4.length c0_4, .slice A0_5 l0_5.length c0_5]] ?_; (with_reducible refine (jacquardref33_Needy.calls kj3 a0_0 a0_1 a0_2 _ _ l0_3 _ _ l0_4 _ _ l0_5 t450 _ ?side1 ?side2 ?side3 ?side4 ?side5 ?side6 A27.out).mono ?_); (case side1 => exact CB_ HR0_3); (case side2 => exact HC0_3.out); (case side3 => exact CB_ HR0_4); (case side4 => exact HC0_4.out); (case side5 => exact CB_ HR0_5); (case side6 => exact HC0_5.out); rintro e w34 ⟨v451, rfl, ho0, hb⟩; refine ⟨_, rfl, ?_⟩; have n0_ := Aside0.mk (Kd.R_lower ho0 (below_size bl_)); have n1_ := Aside0.mk (blk_below (K_ BK445) hb); have n2_ := Aside0.mk (below_step bl_ hb); clear BK445; clear HB; have HO452 := n0_; have BK445 := n1_; have HB := n2_; clear n0_ n1_ n2_; (try clear hb); (try clear hb2); (try clear hk); (try clear hi); (try clear ho0); obtain ⟨Ao35, co35, eo35⟩ := Kd.R_slice HO452.out; subst eo35; obtain ⟨hcz36_0, hcz36_1, hcz36_2, hcz36_3, hcz36_4, hcz36_5⟩ := cells6 BK445) | (go_at_call 10; (refine (jacquardref33_Possible.calls kj3 a0_0 a0_1 a0_2 _ _ l0_3 _ _ l0_4 _ _ l0_5 a1 _ _ ([] : List (S44)) t453 _ ?side1 ?side2 ?side3 ?side4 ?side5 ?side6 ?side7 ?side8 A32.out).mono ?_); (case side1 => exact CB_ HR0_3); (case side2 => exact HC0_3.out); (case side3 => exact CB_ HR0_4); (case side4 => exact HC0_4.out); (case side5 => exact CB_ HR0_5); (case side6 => exact HC0_5.out); (case side7 => exact Kd.C_nil _ _); (case side8 => exact Nat.le_refl _); rintro e w37 ⟨rfl, hb⟩; have n0_ := Aside0.mk (Kd.R_below (R_ HO452) hb); have n1_ := Aside0.mk (blk_below (K_ BK445) hb); have n2_ := Aside0.mk (below_step bl_ hb); clear HO452; clear BK445; clear HB; have HO452 := n0_; have BK445 := n1_; have HB := n2_; clear n0_ n1_ n2_; (try clear hb); (try clear hb2); (try clear hk); (try clear hi)))
 go_ret
 exact ⟨by first | rfl | (simp [errW_none, errW_some] <;> rfl) | (simp [*, errW_none, errW_some] <;> rfl), by repeat (first | (with_reducible first | exact HB.out | apply below_alloc | apply pw_below_drewN | apply below_drew1 | refine below_set ?_ GE445.out) | exact HB.out)⟩
end Go.Proofs.Ytpmlbbglekaidaa.PAll
