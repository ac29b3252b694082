-- Written for this claim by programs of this session (wip/print2 in its repo: a changed printer, a shortener, a packer). Lean checks it.
import Derived.Test.YtmefaegcoogmiaaP0
namespace Go.Proofs.Ytmefaegcoogmiaa.PAll
open Go.RowKit Go.Proofs.YtmefaegcoogmiaaW.PrintWords Go.Proofs.YtmefaegcoogmiaaW.PrintLast Go.Proofs.YtmefaegcoogmiaaW.PrintMore
attribute [local go_sem] max2_int min2_int max_two min_two max_three min_three max_four min_four   -- for this text's walks alone
set_option linter.unusedVariables false
set_option linter.unusedSimpArgs false

/-! ### jacquardref36_Self: function 11 -/
mutual
def jacquardref36_Self.j0 : Nat → Int → Bool → ByteArray → List Int → List (S75) → List (S77) → List Int → List (S66) → Option (Int)
  | 0, _, _, _, _, _, _, _, _ => none
  | k + 1, x2, x33, x159000, x159001, x159002, x159003, x159004, x159005 => if x33 = true then (some (-1)) else (if 0 ≤ x2 then (if x2 < (x159005.length : Int) then (jacquardref36_Self.l0 k x2 0 (-1) ((rd_T66 x159005 x2).f2.f2) 0) else (none)) else (none))
def jacquardref36_Self.l0 : Nat → Int → Int → Int → List (S71) → Int → Option (Int)
  | 0, _, _, _, _, _ => none
  | k + 1, x2, x7, x8, x9, x10 => if x10 < (x9.length : Int) then (if 0 ≤ x10 then (if ((rd_T71 x9 x10).f0) = x2 then (jacquardref36_Self.l0 k x2 (wrap64 (x7 + 1)) x10 x9 (wrap64 (x10 + 1))) else (jacquardref36_Self.l0 k x2 x7 x8 x9 (wrap64 (x10 + 1)))) else (none)) else (if x7 = 1 then (some x8) else (some (-1)))
end
def jacquardref36_Self.f (k : Nat) (a0_0 : ByteArray) (l0_1 : List Int) (l0_2 : List (S75)) (l0_3 : List (S77)) (l0_4 : List Int) (l0_5 : List (S66)) (l1 : List (S49)) (a2 : Int) : Option (Int) := if a2 < 0 then (jacquardref36_Self.j0 k a2 true a0_0 l0_1 l0_2 l0_3 l0_4 l0_5) else (if a2 ≥ (l0_5.length : Int) then (jacquardref36_Self.j0 k a2 true a0_0 l0_1 l0_2 l0_3 l0_4 l0_5) else (if a2 ≥ (l1.length : Int) then (jacquardref36_Self.j0 k a2 true a0_0 l0_1 l0_2 l0_3 l0_4 l0_5) else (if 0 ≤ a2 then (if a2 < (l1.length : Int) then (jacquardref36_Self.j0 k a2 (decide (((rd_T49 l1 a2).f0) ≤ 0)) a0_0 l0_1 l0_2 l0_3 l0_4 l0_5) else (none)) else (none))))
theorem jacquardref36_Self.mono_l : ∀ k, (∀ y0 y1 y2 y3 y4 y5 y6 y7, LeO (jacquardref36_Self.j0 k y0 y1 y2 y3 y4 y5 y6 y7) (jacquardref36_Self.j0 (k + 1) y0 y1 y2 y3 y4 y5 y6 y7)) ∧ (∀ y0 y1 y2 y3 y4, LeO (jacquardref36_Self.l0 k y0 y1 y2 y3 y4) (jacquardref36_Self.l0 (k + 1) y0 y1 y2 y3 y4))
  | 0 => ⟨fun _ _ _ _ _ _ _ _ r h => by simp [jacquardref36_Self.j0] at h, fun _ _ _ _ _ r h => by simp [jacquardref36_Self.l0] at h⟩
  | k + 1 => by
    obtain ⟨ih0, ih1⟩ := jacquardref36_Self.mono_l k
    refine ⟨?_, ?_⟩
    · intro y0 y1 y2 y3 y4 y5 y6 y7
      unfold jacquardref36_Self.j0
      repeat' first
      | (with_reducible exact ih0 _ _ _ _ _ _ _ _)
      | (with_reducible exact ih1 _ _ _ _ _)
      | (with_reducible exact LeO.refl _)
      | (with_reducible exact LeO.none _)
      | (with_reducible refine LeO.ite ?_ ?_)
      | (with_reducible refine LeO.bind ?_ (fun _ => ?_))
      | exact ih0 _ _ _ _ _ _ _ _
      | exact ih1 _ _ _ _ _
      | exact LeO.none _
      | refine LeO.ite ?_ ?_
      | refine LeO.bind ?_ (fun _ => ?_)
    · intro y0 y1 y2 y3 y4
      unfold jacquardref36_Self.l0
      repeat' first
      | (with_reducible exact ih0 _ _ _ _ _ _ _ _)
      | (with_reducible exact ih1 _ _ _ _ _)
      | (with_reducible exact LeO.refl _)
      | (with_reducible exact LeO.none _)
      | (with_reducible refine LeO.ite ?_ ?_)
      | (with_reducible refine LeO.bind ?_ (fun _ => ?_))
      | exact ih0 _ _ _ _ _ _ _ _
      | exact ih1 _ _ _ _ _
      | exact LeO.none _
      | refine LeO.ite ?_ ?_
      | refine LeO.bind ?_ (fun _ => ?_)
theorem jacquardref36_Self.mono : ∀ a0 a1 a2 a3 a4 a5 a6 a7 k, LeO (jacquardref36_Self.f k a0 a1 a2 a3 a4 a5 a6 a7) (jacquardref36_Self.f (k + 1) a0 a1 a2 a3 a4 a5 a6 a7) := by
 intro a0 a1 a2 a3 a4 a5 a6 a7 k
 obtain ⟨ih0, ih1⟩ := jacquardref36_Self.mono_l k
 unfold jacquardref36_Self.f
 repeat' first
     | (with_reducible exact ih0 _ _ _ _ _ _ _ _)
     | (with_reducible exact ih1 _ _ _ _ _)
     | (with_reducible exact LeO.refl _)
     | (with_reducible exact LeO.none _)
     | (with_reducible refine LeO.ite ?_ ?_)
     | (with_reducible refine LeO.bind ?_ (fun _ => ?_))
     | exact ih0 _ _ _ _ _ _ _ _
     | exact ih1 _ _ _ _ _
     | exact LeO.none _
     | refine LeO.ite ?_ ?_
     | refine LeO.bind ?_ (fun _ => ?_)
set_option maxHeartbeats 8000000 in
set_option maxRecDepth 100000 in
theorem jacquardref36_Self.calls (k : Nat) (a0_0 : ByteArray) (A0_1 : Option Addr) (c0_1 : Nat) (l0_1 : List Int) (A0_2 : Option Addr) (c0_2 : Nat) (l0_2 : List (S75)) (A0_3 : Option Addr) (c0_3 : Nat) (l0_3 : List (S77)) (A0_4 : Option Addr) (c0_4 : Nat) (l0_4 : List Int) (A0_5 : Option Addr) (c0_5 : Nat) (l0_5 : List (S66)) (A1 : Option Addr) (c1 : Nat) (l1 : List (S49)) (a2 : Int) (r : Int) (w : World) (hr0_1 : Kd.C (Kd.int .i64) w A0_1 l0_1.length l0_1) (hc0_1 : l0_1.length ≤ c0_1) (hr0_2 : Kd.C k75 w A0_2 l0_2.length l0_2) (hc0_2 : l0_2.length ≤ c0_2) (hr0_3 : Kd.C k77 w A0_3 l0_3.length l0_3) (hc0_3 : l0_3.length ≤ c0_3) (hr0_4 : Kd.C (Kd.int .i64) w A0_4 l0_4.length l0_4) (hc0_4 : l0_4.length ≤ c0_4) (hr0_5 : Kd.C k66 w A0_5 l0_5.length l0_5) (hc0_5 : l0_5.length ≤ c0_5) (hr1 : Kd.C k49 w A1 l1.length l1) (hc1 : l1.length ≤ c1) (h : jacquardref36_Self.f k a0_0 l0_1 l0_2 l0_3 l0_4 l0_5 l1 a2 = some r) :
    Calls Try.prog 11 #[.agg #[.string a0_0, .slice A0_1 l0_1.length c0_1, .slice A0_2 l0_2.length c0_2, .slice A0_3 l0_3.length c0_3, .slice A0_4 l0_4.length c0_4, .slice A0_5 l0_5.length c0_5], .slice A1 l1.length c1, .int .i64 a2] w fun e w' => e = .returned (.int .i64 r) ∧ Below w.heap.size w w' := by
 have hu27 := Try.underlying27
 have HR0_1 := Aside0.mk hr0_1
 have HC0_1 := Aside0.mk hc0_1
 clear hr0_1 hc0_1
 have HR0_2 := Aside0.mk hr0_2
 have HC0_2 := Aside0.mk hc0_2
 clear hr0_2 hc0_2
 have HR0_3 := Aside0.mk hr0_3
 have HC0_3 := Aside0.mk hc0_3
 clear hr0_3 hc0_3
 have HR0_4 := Aside0.mk hr0_4
 have HC0_4 := Aside0.mk hc0_4
 clear hr0_4 hc0_4
 have HR0_5 := Aside0.mk hr0_5
 have HC0_5 := Aside0.mk hc0_5
 clear hr0_5 hc0_5
 have HR1 := Aside0.mk hr1
 have HC1 := Aside0.mk hc1
 clear hr1 hc1
 have HB := Aside0.mk (Below.refl w.heap.size w)
 have H : (if a2 < 0 then (jacquardref36_Self.j0 k a2 true a0_0 l0_1 l0_2 l0_3 l0_4 l0_5) else (if a2 ≥ (l0_5.length : Int) then (jacquardref36_Self.j0 k a2 true a0_0 l0_1 l0_2 l0_3 l0_4 l0_5) else (if a2 ≥ (l1.length : Int) then (jacquardref36_Self.j0 k a2 true a0_0 l0_1 l0_2 l0_3 l0_4 l0_5) else (if 0 ≤ a2 then (if a2 < (l1.length : Int) then (jacquardref36_Self.j0 k a2 (decide (((rd_T49 l1 a2).f0) ≤ 0)) a0_0 l0_1 l0_2 l0_3 l0_4 l0_5) else (none)) else (none))))) = some r := h
 clear h
 have HC4 := Aside0.mk H
 clear H
 go_enter Try.func11, Try.ntmps11
 go_upto_region 1 with (first | ((with_reducible refine gate_dst (N := 3) rfl ?_); (try (refine gate_guard (by rfl) ?_; dsimp only)); refine box_event ?hg (N := 3) ?hd (cs := #[.string a0_0, .slice A0_1 l0_1.length c0_1, .slice A0_2 l0_2.length c0_2, .slice A0_3 l0_3.length c0_3, .slice A0_4 l0_4.length c0_4, .slice A0_5 l0_5.length c0_5]) (t := 27) ?hr ?_; (case hd => rfl); (case hg => rfl); (case hr => first | (go_simp; done) | (go_simp; rfl)); intro gb158 hg w5 hbox hb; have n0_ := Aside0.mk (below_step bl_ hb); have n1_ := Aside0.mk (hbox); have n2_ := Aside0.mk (gl_ (w := w) hg); have n3_ := Aside0.mk (gl_ (w := w) hg); clear HB; have HB := n0_; have BK158 := n1_; have GW158 := n2_; have GE158 := n3_; clear n0_ n1_ n2_ n3_; clear hb hbox hg))
 (try simp only [Act.put, List.setIfInBounds_toArray, List.set_cons_zero, List.set_cons_succ])
 go_cut [33] (fun v33 wc => ∃ (kq : Nat) (x33_3 : Bool), v33 = .bool x33_3 ∧ Aside0 (jacquardref36_Self.j0 kq a2 x33_3 a0_0 l0_1 l0_2 l0_3 l0_4 l0_5 = some r) ∧ Aside0 (kq ≤ k) ∧ Aside0 (wc.heap[gb158]? = some (.cells #[.string a0_0, (.slice A0_1 l0_1.length c0_1), (.slice A0_2 l0_2.length c0_2), (.slice A0_3 l0_3.length c0_3), (.slice A0_4 l0_4.length c0_4), (.slice A0_5 l0_5.length c0_5)] 27 (0, 0))) ∧ Aside0 (Below w.heap.size w wc))
 case first =>
  have H := HC4.out
  clear HC4
  by_cases c6 : a2 < 0
  · rw [if_pos c6] at H
    have c6b0 : decide (a2 < 0) = true := decide_eq_true c6
    clear c6
    (first | rw [c6b0] | (simp only [i64_w, i32_w]; rw [c6b0]) | skip)
    have H' := Aside0.mk H
    clear H
    go_wp2
    go_meet
    case rel => exact ⟨_, (true), (by first | rfl | (simp; done) | (simp [*]; done)), H', ⟨by first | omega | exact Nat.le_refl _⟩, ⟨K_ BK158⟩, ⟨bl_⟩⟩
  rw [if_neg c6] at H
  have c6b0 : decide (a2 < 0) = false := decide_eq_false c6
  clear c6
  (first | rw [c6b0] | (simp only [i64_w, i32_w]; rw [c6b0]) | skip)
  by_cases c7 : a2 ≥ (l0_5.length : Int)
  · rw [if_pos c7] at H
    have c7b0 : decide ((l0_5.length : Int) ≤ a2) = true := decide_eq_true c7
    clear c7
    have H' := Aside0.mk H
    clear H
    obtain ⟨hcz8_0, hcz8_1, hcz8_2, hcz8_3, hcz8_4, hcz8_5⟩ := cells6 BK158
    obtain ⟨hfz8_0, hfz8_1, hfz8_2, hfz8_3, hfz8_4, hfz8_5⟩ := fz6 BK158
    go_wp2
    go_meet
    case rel => exact ⟨_, (true), (by first | rfl | (simp; done) | (simp [*]; done)), H', ⟨by first | omega | exact Nat.le_refl _⟩, ⟨K_ BK158⟩, ⟨bl_⟩⟩
  rw [if_neg c7] at H
  have c7b0 : decide ((l0_5.length : Int) ≤ a2) = false := decide_eq_false c7
  clear c7
  by_cases c9 : a2 ≥ (l1.length : Int)
  · rw [if_pos c9] at H
    have c9b0 : decide ((l1.length : Int) ≤ a2) = true := decide_eq_true c9
    clear c9
    have H' := Aside0.mk H
    clear H
    obtain ⟨hcz10_0, hcz10_1, hcz10_2, hcz10_3, hcz10_4, hcz10_5⟩ := cells6 BK158
    obtain ⟨hfz10_0, hfz10_1, hfz10_2, hfz10_3, hfz10_4, hfz10_5⟩ := fz6 BK158
    go_wp2
    go_meet
    case rel => exact ⟨_, (true), (by first | rfl | (simp; done) | (simp [*]; done)), H', ⟨by first | omega | exact Nat.le_refl _⟩, ⟨K_ BK158⟩, ⟨bl_⟩⟩
  rw [if_neg c9] at H
  have c9b0 : decide ((l1.length : Int) ≤ a2) = false := decide_eq_false c9
  clear c9
  by_cases c11 : 0 ≤ a2
  · rw [if_pos c11] at H
    have c11b0 : decide (0 ≤ a2) = true := decide_eq_true c11
    clear c11
    by_cases c12 : a2 < (l1.length : Int)
    · rw [if_pos c12] at H
      have c12b0 : decide (a2 < (l1.length : Int)) = true := decide_eq_true c12
      clear c12
      have H' := Aside0.mk H
      clear H
      obtain ⟨hcz13_0, hcz13_1, hcz13_2, hcz13_3, hcz13_4, hcz13_5⟩ := cells6 BK158
      obtain ⟨hfz13_0, hfz13_1, hfz13_2, hfz13_3, hfz13_4, hfz13_5⟩ := fz6 BK158
      have p159 : 0 ≤ (a2 : Int) := of_decide_eq_true (by first | (with_reducible assumption) | assumption)
      have q159 : a2 < (l1.length : Int) := of_decide_eq_true (by first | (with_reducible assumption) | assumption)
      obtain ⟨ad159, A159_2, c159_2, A159_3, c159_3, A159_4, c159_4, e159, hx159_0, hx159_1, hx159_2, hx159_3, hx159_4, hl159_2, hi159_2, hl159_3, hi159_3, hl159_4, hi159_4⟩ := at_T49 HR1.out a2 p159 q159
      cases e159
      replace hx159_0 := hc_ HB hx159_0
      replace hx159_1 := hc_ HB hx159_1
      replace hx159_2 := hc_ HB hx159_2
      replace hx159_3 := hc_ HB hx159_3
      replace hx159_4 := hc_ HB hx159_4
      have HR159_2 := Aside0.mk hi159_2
      have HC159_2 := Aside0.mk hl159_2
      clear hi159_2 hl159_2
      have HR159_3 := Aside0.mk hi159_3
      have HC159_3 := Aside0.mk hl159_3
      clear hi159_3 hl159_3
      have HR159_4 := Aside0.mk hi159_4
      have HC159_4 := Aside0.mk hl159_4
      clear hi159_4 hl159_4
      replace p159 := eq_true p159
      replace q159 := eq_true q159
      go_wp2
      go_meet
      case rel => exact ⟨_, (decide (((rd_T49 l1 a2).f0) ≤ 0)), (by first | rfl | (simp; done) | (simp [*]; done)), H', ⟨by first | omega | exact Nat.le_refl _⟩, ⟨K_ BK158⟩, ⟨bl_⟩⟩
    rw [if_neg c12] at H
    exact absurd H (by simp)
  rw [if_neg c11] at H
  exact absurd H (by simp)
 clear HC4
 (try clear c1); (try clear p1); (try clear q1); (try clear hx1); (try clear p2); (try clear c6); (try clear c6b0); (try clear c7); (try clear c7b0); (try clear c9); (try clear c9b0); (try clear c11); (try clear c11b0); (try clear c12); (try clear c12b0); (try clear hcz10_0); (try clear hcz10_1); (try clear hcz10_2); (try clear hcz10_3); (try clear hcz10_4); (try clear hcz10_5); (try clear hcz13_0); (try clear hcz13_1); (try clear hcz13_2); (try clear hcz13_3); (try clear hcz13_4); (try clear hcz13_5); (try clear hcz8_0); (try clear hcz8_1); (try clear hcz8_2); (try clear hcz8_3); (try clear hcz8_4); (try clear hcz8_5); (try clear hfz10_0); (try clear hfz10_1); (try clear hfz10_2); (try clear hfz10_3); (try clear hfz10_4); (try clear hfz10_5); (try clear hfz13_0)
 (try clear hfz13_1); (try clear hfz13_2); (try clear hfz13_3); (try clear hfz13_4); (try clear hfz13_5); (try clear hfz8_0); (try clear hfz8_1); (try clear hfz8_2); (try clear hfz8_3); (try clear hfz8_4); (try clear hfz8_5); (try clear hx159_0); (try clear hx159_1); (try clear hx159_2); (try clear hx159_3); (try clear hx159_4); (try clear p159); (try clear q159)
 obtain ⟨kq, x33_3, rfl, HA, HJ3, BK158, HB⟩ := hcut
 cases kq with
 | zero => exact absurd HA.out (by simp [jacquardref36_Self.j0])
 | succ kj3 => ?_
 have H := HA.out
 clear HA
 simp only [jacquardref36_Self.j0] at H
 by_cases c14 : x33_3 = true
 · subst c14
   have H1 : (some (-1)) = some r := by rw [if_pos rfl] at H; exact H
   clear H
   have H := H1
   clear H1
   obtain rfl := Option.some.inj H
   go_wp2
   go_ret
   exact ⟨by first | rfl | (simp [errW_none, errW_some] <;> rfl) | (simp [*, errW_none, errW_some] <;> rfl), by repeat (first | (with_reducible first | exact HB.out | apply below_alloc | apply pw_below_drewN | apply below_drew1 | refine below_set ?_ GE158.out) | exact HB.out)⟩
 replace c14 := Bool.eq_false_iff.mpr c14
 subst c14
 have H1 : (if 0 ≤ a2 then (if a2 < (l0_5.length : Int) then (jacquardref36_Self.l0 kj3 a2 0 (-1) ((rd_T66 l0_5 a2).f2.f2) 0) else (none)) else (none)) = some r := by rw [if_neg (show ¬ (false = true) by decide)] at H; exact H
 clear H
 have H := H1
 clear H1
 by_cases c15 : 0 ≤ a2
 · rw [if_pos c15] at H
   have c15b0 : decide (0 ≤ a2) = true := decide_eq_true c15
   clear c15
   by_cases c16 : a2 < (l0_5.length : Int)
   · rw [if_pos c16] at H
     have c16b0 : decide (a2 < (l0_5.length : Int)) = true := decide_eq_true c16
     clear c16
     have H' := Aside0.mk H
     clear H
     obtain ⟨hcz17_0, hcz17_1, hcz17_2, hcz17_3, hcz17_4, hcz17_5⟩ := cells6 BK158
     obtain ⟨hfz17_0, hfz17_1, hfz17_2, hfz17_3, hfz17_4, hfz17_5⟩ := fz6 BK158
     have p160 : 0 ≤ (a2 : Int) := of_decide_eq_true (by first | (with_reducible assumption) | assumption)
     have q160 : a2 < (l0_5.length : Int) := of_decide_eq_true (by first | (with_reducible assumption) | assumption)
     obtain ⟨ad160, A160_0, c160_0, A160_1, c160_1, A160_4, c160_4, A160_5, c160_5, e160, hx160_0, hx160_1, hx160_2, hx160_3, hx160_4, hx160_5, hx160_6, hx160_7, hx160_8, hl160_0, hi160_0, hl160_1, hi160_1, hl160_4, hi160_4, hl160_5, hi160_5⟩ := at_T66 HR0_5.out a2 p160 q160
     cases e160
     replace hx160_0 := hc_ HB hx160_0
     replace hx160_1 := hc_ HB hx160_1
     replace hx160_2 := hc_ HB hx160_2
     replace hx160_3 := hc_ HB hx160_3
     replace hx160_4 := hc_ HB hx160_4
     replace hx160_5 := hc_ HB hx160_5
     replace hx160_6 := hc_ HB hx160_6
     replace hx160_7 := hc_ HB hx160_7
     replace hx160_8 := hc_ HB hx160_8
     have HR160_0 := Aside0.mk hi160_0
     have HC160_0 := Aside0.mk hl160_0
     clear hi160_0 hl160_0
     have HR160_1 := Aside0.mk hi160_1
     have HC160_1 := Aside0.mk hl160_1
     clear hi160_1 hl160_1
     have HR160_4 := Aside0.mk hi160_4
     have HC160_4 := Aside0.mk hl160_4
     clear hi160_4 hl160_4
     have HR160_5 := Aside0.mk hi160_5
     have HC160_5 := Aside0.mk hl160_5
     clear hi160_5 hl160_5
     replace p160 := eq_true p160
     replace q160 := eq_true q160
     go_wp2
     go_loopg [7, 8, 10] kj3 (fun kq v7 v8 v10 w' => ∃ (x7_2 : Int) (x8_2 : Int) (x10_2 : Int), v7 = .int .i64 x7_2 ∧ v8 = .int .i64 x8_2 ∧ v10 = .int .i64 x10_2 ∧ Aside0 (jacquardref36_Self.l0 kq a2 x7_2 x8_2 ((rd_T66 l0_5 a2).f2.f2) x10_2 = some r) ∧ Aside0 (kq ≤ kj3) ∧ Aside0 (w'.heap[gb158]? = some (.cells #[.string a0_0, (.slice A0_1 l0_1.length c0_1), (.slice A0_2 l0_2.length c0_2), (.slice A0_3 l0_3.length c0_3), (.slice A0_4 l0_4.length c0_4), (.slice (some ad160) l0_5.length c0_5)] 27 (0, 0))) ∧ Aside0 (Below w.heap.size w w'))
     case atStart => exact ⟨(0), ((-1)), (0), (by first | rfl | (simp; done) | (simp [*]; done)), (by first | rfl | (simp; done) | (simp [*]; done)), (by first | rfl | (simp; done) | (simp [*]; done)), H', ⟨Nat.le_refl _⟩, ⟨K_ BK158⟩, ⟨bl_⟩⟩
     clear H'
     (try clear c1); (try clear p1); (try clear q1); (try clear hx1); (try clear p2); (try clear c6); (try clear c6b0); (try clear c7); (try clear c7b0); (try clear c9); (try clear c9b0); (try clear c11); (try clear c11b0); (try clear c12); (try clear c12b0); (try clear c14); (try clear c15); (try clear c15b0); (try clear p15); (try clear q15); (try clear hx15); (try clear c16); (try clear c16b0); (try clear p16); (try clear q16); (try clear hx16); (try clear hcz10_0); (try clear hcz10_1); (try clear hcz10_2); (try clear hcz10_3); (try clear hcz10_4); (try clear hcz10_5); (try clear hcz13_0); (try clear hcz13_1); (try clear hcz13_2); (try clear hcz13_3); (try clear hcz13_4); (try clear hcz13_5); (try clear hcz17_0); (try clear hcz17_1)
     (try clear hcz17_2); (try clear hcz17_3); (try clear hcz17_4); (try clear hcz17_5); (try clear hcz8_0); (try clear hcz8_1); (try clear hcz8_2); (try clear hcz8_3); (try clear hcz8_4); (try clear hcz8_5); (try clear hfz10_0); (try clear hfz10_1); (try clear hfz10_2); (try clear hfz10_3); (try clear hfz10_4); (try clear hfz10_5); (try clear hfz13_0); (try clear hfz13_1); (try clear hfz13_2); (try clear hfz13_3); (try clear hfz13_4); (try clear hfz13_5); (try clear hfz17_0); (try clear hfz17_1); (try clear hfz17_2); (try clear hfz17_3); (try clear hfz17_4); (try clear hfz17_5); (try clear hfz8_0); (try clear hfz8_1); (try clear hfz8_2); (try clear hfz8_3); (try clear hfz8_4); (try clear hfz8_5); (try clear hx159_0); (try clear hx159_1); (try clear hx159_2); (try clear hx159_3); (try clear hx159_4); (try clear hx160_0)
     (try clear hx160_1); (try clear hx160_2); (try clear hx160_3); (try clear hx160_4); (try clear hx160_5); (try clear hx160_6); (try clear hx160_7); (try clear hx160_8); (try clear p1); (try clear p159); (try clear p160); (try clear p2); (try clear q1); (try clear q159); (try clear q160)
     obtain ⟨x7_2, x8_2, x10_2, rfl, rfl, rfl, HA, HK2, BK158, HB⟩ := hrel
     cases gk with
     | zero => exact absurd HA.out (by simp [jacquardref36_Self.l0])
     | succ k2 => ?_
     have H := HA.out
     clear HA
     simp only [jacquardref36_Self.l0] at H
     by_cases c18 : x10_2 < (((rd_T66 l0_5 a2).f2.f2).length : Int)
     · rw [if_pos c18] at H
       have c18b0 : decide (x10_2 < (((rd_T66 l0_5 a2).f2.f2).length : Int)) = true := decide_eq_true c18
       clear c18
       by_cases c19 : 0 ≤ x10_2
       · rw [if_pos c19] at H
         have c19b0 : decide (0 ≤ x10_2) = true := decide_eq_true c19
         clear c19
         by_cases c20 : ((rd_T71 ((rd_T66 l0_5 a2).f2.f2) x10_2).f0) = a2
         · rw [if_pos c20] at H
           have c20b0 : (((rd_T71 ((rd_T66 l0_5 a2).f2.f2) x10_2).f0) == a2) = true := beq_iff_eq.mpr c20
           have c20b1 : (((rd_T71 ((rd_T66 l0_5 a2).f2.f2) x10_2).f0) != a2) = false := bne_eq_false_iff_eq.mpr c20
           clear c20
           have H' := Aside0.mk H
           clear H
           have p161 : 0 ≤ (x10_2 : Int) := of_decide_eq_true (by first | (with_reducible assumption) | assumption)
           have q161 : x10_2 < (((rd_T66 l0_5 a2).f2.f2).length : Int) := of_decide_eq_true (by first | (with_reducible assumption) | assumption)
           obtain ⟨ad161, A161_1, c161_1, e161, hx161_0, hx161_1, hl161_1, hi161_1⟩ := at_T71 HR160_4.out x10_2 p161 q161
           cases e161
           replace hx161_0 := hc_ HB hx161_0
           replace hx161_1 := hc_ HB hx161_1
           have HR161_1 := Aside0.mk hi161_1
           have HC161_1 := Aside0.mk hl161_1
           clear hi161_1 hl161_1
           replace p161 := eq_true p161
           replace q161 := eq_true q161
           go_wp2
           go_roundg k2
           case measure => have := HJ3.out; have := HK2.out; omega
           case rel => exact ⟨(wrap64 (x7_2 + 1)), (x10_2), (wrap64 (x10_2 + 1)), (by first | rfl | (simp; done) | (simp [*]; done)), (by first | rfl | (simp; done) | (simp [*]; done)), (by first | rfl | (simp; done) | (simp [*]; done)), H', ⟨by have := HJ3.out; have := HK2.out; omega⟩, ⟨K_ BK158⟩, ⟨bl_⟩⟩
         rw [if_neg c20] at H
         have c20b0 : (((rd_T71 ((rd_T66 l0_5 a2).f2.f2) x10_2).f0) == a2) = false := beq_eq_false_iff_ne.mpr c20
         have c20b1 : (((rd_T71 ((rd_T66 l0_5 a2).f2.f2) x10_2).f0) != a2) = true := bne_iff_ne.mpr c20
         have H' := Aside0.mk H
         clear H
         have p161 : 0 ≤ (x10_2 : Int) := of_decide_eq_true (by first | (with_reducible assumption) | assumption)
         have q161 : x10_2 < (((rd_T66 l0_5 a2).f2.f2).length : Int) := of_decide_eq_true (by first | (with_reducible assumption) | assumption)
         obtain ⟨ad161, A161_1, c161_1, e161, hx161_0, hx161_1, hl161_1, hi161_1⟩ := at_T71 HR160_4.out x10_2 p161 q161
         cases e161
         replace hx161_0 := hc_ HB hx161_0
         replace hx161_1 := hc_ HB hx161_1
         have HR161_1 := Aside0.mk hi161_1
         have HC161_1 := Aside0.mk hl161_1
         clear hi161_1 hl161_1
         replace p161 := eq_true p161
         replace q161 := eq_true q161
         go_wp2
         go_roundg k2
         case measure => have := HJ3.out; have := HK2.out; omega
         case rel => exact ⟨(x7_2), (x8_2), (wrap64 (x10_2 + 1)), (by first | rfl | (simp; done) | (simp [*]; done)), (by first | rfl | (simp; done) | (simp [*]; done)), (by first | rfl | (simp; done) | (simp [*]; done)), H', ⟨by have := HJ3.out; have := HK2.out; omega⟩, ⟨K_ BK158⟩, ⟨bl_⟩⟩
       rw [if_neg c19] at H
       exact absurd H (by simp)
     rw [if_neg c18] at H
     have c18b0 : decide (x10_2 < (((rd_T66 l0_5 a2).f2.f2).length : Int)) = false := decide_eq_false c18
     clear c18
     by_cases c21 : x7_2 = 1
     · rw [if_pos c21] at H
       have c21b0 : (x7_2 == 1) = true := beq_iff_eq.mpr c21
       have c21b1 : (x7_2 != 1) = false := bne_eq_false_iff_eq.mpr c21
       clear c21
       obtain rfl := Option.some.inj H
       go_wp2
       go_ret
       exact ⟨by first | rfl | (simp [errW_none, errW_some] <;> rfl) | (simp [*, errW_none, errW_some] <;> rfl), by repeat (first | (with_reducible first | exact HB.out | apply below_alloc | apply pw_below_drewN | apply below_drew1 | refine below_set ?_ GE158.out) | exact HB.out)⟩
     rw [if_neg c21] at H
     have c21b0 : (x7_2 == 1) = false := beq_eq_false_iff_ne.mpr c21
     have c21b1 : (x7_2 != 1) = true := bne_iff_ne.mpr c21
     obtain rfl := Option.some.inj H
     go_wp2
     go_ret
     exact ⟨by first | rfl | (simp [errW_none, errW_some] <;> rfl) | (simp [*, errW_none, errW_some] <;> rfl), by repeat (first | (with_reducible first | exact HB.out | apply below_alloc | apply pw_below_drewN | apply below_drew1 | refine below_set ?_ GE158.out) | exact HB.out)⟩
   rw [if_neg c16] at H
   exact absurd H (by simp)
 rw [if_neg c15] at H
 exact absurd H (by simp)
end Go.Proofs.Ytmefaegcoogmiaa.PAll
