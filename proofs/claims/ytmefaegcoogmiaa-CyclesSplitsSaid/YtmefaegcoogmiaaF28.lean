-- Written for this claim by programs of this session (wip/print2 in its repo: a changed printer, a shortener, a packer). Lean checks it.
import Derived.Test.YtmefaegcoogmiaaP0
namespace Go.Proofs.Ytmefaegcoogmiaa.PAll
open Go.RowKit Go.Proofs.YtmefaegcoogmiaaW.PrintWords Go.Proofs.YtmefaegcoogmiaaW.PrintLast Go.Proofs.YtmefaegcoogmiaaW.PrintMore
attribute [local go_sem] max2_int min2_int max_two min_two max_three min_three max_four min_four   -- for this text's walks alone
set_option linter.unusedVariables false
set_option linter.unusedSimpArgs false

/-! ### jacquardref08_SelfLoop: function 28 -/
def jacquardref08_SelfLoop.j0 : Nat → Int → Bool → ByteArray → List Int → List (S75) → List (S77) → List Int → List (S66) → Option (Int)
  | 0, _, _, _, _, _, _, _, _ => none
  | k + 1, x1, x24, x181000, x181001, x181002, x181003, x181004, x181005 => if x24 = true then (some (-1)) else (if 0 ≤ x1 then (if x1 < (x181005.length : Int) then (if 0 < (((rd_T66 x181005 x1).f2.f2).length : Int) then (if 1 < (((rd_T66 x181005 x1).f2.f2).length : Int) then (if ((((rd_T71 ((rd_T66 x181005 x1).f2.f2) 0).f0) == x1) == (((rd_T71 ((rd_T66 x181005 x1).f2.f2) 1).f0) == x1)) = true then (some (-1)) else (if ((rd_T71 ((rd_T66 x181005 x1).f2.f2) 0).f0) = x1 then (some 0) else (some 1))) else (none)) else (none)) else (none)) else (none))
def jacquardref08_SelfLoop.f (k : Nat) (a0_0 : ByteArray) (l0_1 : List Int) (l0_2 : List (S75)) (l0_3 : List (S77)) (l0_4 : List Int) (l0_5 : List (S66)) (a1 : Int) : Option (Int) := if a1 < 0 then (jacquardref08_SelfLoop.j0 k a1 true a0_0 l0_1 l0_2 l0_3 l0_4 l0_5) else (if a1 ≥ (l0_5.length : Int) then (jacquardref08_SelfLoop.j0 k a1 true a0_0 l0_1 l0_2 l0_3 l0_4 l0_5) else (if 0 ≤ a1 then (if a1 < (l0_5.length : Int) then (jacquardref08_SelfLoop.j0 k a1 (((rd_T66 l0_5 a1).f2.f0) != 2) a0_0 l0_1 l0_2 l0_3 l0_4 l0_5) else (none)) else (none)))
theorem jacquardref08_SelfLoop.mono_l : ∀ k, (∀ y0 y1 y2 y3 y4 y5 y6 y7, LeO (jacquardref08_SelfLoop.j0 k y0 y1 y2 y3 y4 y5 y6 y7) (jacquardref08_SelfLoop.j0 (k + 1) y0 y1 y2 y3 y4 y5 y6 y7))
  | 0 => fun _ _ _ _ _ _ _ _ r h => by simp [jacquardref08_SelfLoop.j0] at h
  | k + 1 => by
    have ih0 := jacquardref08_SelfLoop.mono_l k
    · intro y0 y1 y2 y3 y4 y5 y6 y7
      unfold jacquardref08_SelfLoop.j0
      repeat' first
      | (with_reducible exact ih0 _ _ _ _ _ _ _ _)
      | (with_reducible exact LeO.refl _)
      | (with_reducible exact LeO.none _)
      | (with_reducible refine LeO.ite ?_ ?_)
      | (with_reducible refine LeO.bind ?_ (fun _ => ?_))
      | exact ih0 _ _ _ _ _ _ _ _
      | exact LeO.none _
      | refine LeO.ite ?_ ?_
      | refine LeO.bind ?_ (fun _ => ?_)
theorem jacquardref08_SelfLoop.mono : ∀ a0 a1 a2 a3 a4 a5 a6 k, LeO (jacquardref08_SelfLoop.f k a0 a1 a2 a3 a4 a5 a6) (jacquardref08_SelfLoop.f (k + 1) a0 a1 a2 a3 a4 a5 a6) := by
 intro a0 a1 a2 a3 a4 a5 a6 k
 have ih0 := jacquardref08_SelfLoop.mono_l k
 unfold jacquardref08_SelfLoop.f
 repeat' first
     | (with_reducible exact ih0 _ _ _ _ _ _ _ _)
     | (with_reducible exact LeO.refl _)
     | (with_reducible exact LeO.none _)
     | (with_reducible refine LeO.ite ?_ ?_)
     | (with_reducible refine LeO.bind ?_ (fun _ => ?_))
     | exact ih0 _ _ _ _ _ _ _ _
     | exact LeO.none _
     | refine LeO.ite ?_ ?_
     | refine LeO.bind ?_ (fun _ => ?_)
set_option maxHeartbeats 8000000 in
set_option maxRecDepth 100000 in
theorem jacquardref08_SelfLoop.calls (k : Nat) (a0_0 : ByteArray) (A0_1 : Option Addr) (c0_1 : Nat) (l0_1 : List Int) (A0_2 : Option Addr) (c0_2 : Nat) (l0_2 : List (S75)) (A0_3 : Option Addr) (c0_3 : Nat) (l0_3 : List (S77)) (A0_4 : Option Addr) (c0_4 : Nat) (l0_4 : List Int) (A0_5 : Option Addr) (c0_5 : Nat) (l0_5 : List (S66)) (a1 : Int) (r : Int) (w : World) (hr0_1 : Kd.C (Kd.int .i64) w A0_1 l0_1.length l0_1) (hc0_1 : l0_1.length ≤ c0_1) (hr0_2 : Kd.C k75 w A0_2 l0_2.length l0_2) (hc0_2 : l0_2.length ≤ c0_2) (hr0_3 : Kd.C k77 w A0_3 l0_3.length l0_3) (hc0_3 : l0_3.length ≤ c0_3) (hr0_4 : Kd.C (Kd.int .i64) w A0_4 l0_4.length l0_4) (hc0_4 : l0_4.length ≤ c0_4) (hr0_5 : Kd.C k66 w A0_5 l0_5.length l0_5) (hc0_5 : l0_5.length ≤ c0_5) (h : jacquardref08_SelfLoop.f k a0_0 l0_1 l0_2 l0_3 l0_4 l0_5 a1 = some r) :
    Calls Try.prog 28 #[.agg #[.string a0_0, .slice A0_1 l0_1.length c0_1, .slice A0_2 l0_2.length c0_2, .slice A0_3 l0_3.length c0_3, .slice A0_4 l0_4.length c0_4, .slice A0_5 l0_5.length c0_5], .int .i64 a1] w fun e w' => e = .returned (.int .i64 r) ∧ Below w.heap.size w w' := by
 have hu27 := Try.underlying27
 have HR0_1 := Aside0.mk hr0_1
 have HC0_1 := Aside0.mk hc0_1
 clear hr0_1 hc0_1
 have HR0_2 := Aside0.mk hr0_2
 have HC0_2 := Aside0.mk hc0_2
 clear hr0_2 hc0_2
 have HR0_3 := Aside0.mk hr0_3
 have HC0_3 := Aside0.mk hc0_3
 clear hr0_3 hc0_3
 have HR0_4 := Aside0.mk hr0_4
 have HC0_4 := Aside0.mk hc0_4
 clear hr0_4 hc0_4
 have HR0_5 := Aside0.mk hr0_5
 have HC0_5 := Aside0.mk hc0_5
 clear hr0_5 hc0_5
 have HB := Aside0.mk (Below.refl w.heap.size w)
 have H : (if a1 < 0 then (jacquardref08_SelfLoop.j0 k a1 true a0_0 l0_1 l0_2 l0_3 l0_4 l0_5) else (if a1 ≥ (l0_5.length : Int) then (jacquardref08_SelfLoop.j0 k a1 true a0_0 l0_1 l0_2 l0_3 l0_4 l0_5) else (if 0 ≤ a1 then (if a1 < (l0_5.length : Int) then (jacquardref08_SelfLoop.j0 k a1 (((rd_T66 l0_5 a1).f2.f0) != 2) a0_0 l0_1 l0_2 l0_3 l0_4 l0_5) else (none)) else (none)))) = some r := h
 clear h
 have HC3 := Aside0.mk H
 clear H
 go_enter Try.func28, Try.ntmps28
 go_upto_region 1 with (first | ((with_reducible refine gate_dst (N := 2) rfl ?_); (try (refine gate_guard (by rfl) ?_; dsimp only)); refine box_event ?hg (N := 2) ?hd (cs := #[.string a0_0, .slice A0_1 l0_1.length c0_1, .slice A0_2 l0_2.length c0_2, .slice A0_3 l0_3.length c0_3, .slice A0_4 l0_4.length c0_4, .slice A0_5 l0_5.length c0_5]) (t := 27) ?hr ?_; (case hd => rfl); (case hg => rfl); (case hr => first | (go_simp; done) | (go_simp; rfl)); intro gb180 hg w4 hbox hb; have n0_ := Aside0.mk (below_step bl_ hb); have n1_ := Aside0.mk (hbox); have n2_ := Aside0.mk (gl_ (w := w) hg); have n3_ := Aside0.mk (gl_ (w := w) hg); clear HB; have HB := n0_; have BK180 := n1_; have GW180 := n2_; have GE180 := n3_; clear n0_ n1_ n2_ n3_; clear hb hbox hg))
 repeat (go_quiet (first | ((with_reducible refine gate_dst (N := 2) rfl ?_); (try (refine gate_guard (by rfl) ?_; dsimp only)); refine box_event ?hg (N := 2) ?hd (cs := #[.string a0_0, .slice A0_1 l0_1.length c0_1, .slice A0_2 l0_2.length c0_2, .slice A0_3 l0_3.length c0_3, .slice A0_4 l0_4.length c0_4, .slice A0_5 l0_5.length c0_5]) (t := 27) ?hr ?_; (case hd => rfl); (case hg => rfl); (case hr => first | (go_simp; done) | (go_simp; rfl)); intro gb180 hg w4 hbox hb; have n0_ := Aside0.mk (below_step bl_ hb); have n1_ := Aside0.mk (hbox); have n2_ := Aside0.mk (gl_ (w := w) hg); have n3_ := Aside0.mk (gl_ (w := w) hg); clear HB; have HB := n0_; have BK180 := n1_; have GW180 := n2_; have GE180 := n3_; clear n0_ n1_ n2_ n3_; clear hb hbox hg)); go_upto_region 1 with (first | ((with_reducible refine gate_dst (N := 2) rfl ?_); (try (refine gate_guard (by rfl) ?_; dsimp only)); refine box_event ?hg (N := 2) ?hd (cs := #[.string a0_0, .slice A0_1 l0_1.length c0_1, .slice A0_2 l0_2.length c0_2, .slice A0_3 l0_3.length c0_3, .slice A0_4 l0_4.length c0_4, .slice A0_5 l0_5.length c0_5]) (t := 27) ?hr ?_; (case hd => rfl); (case hg => rfl); (case hr => first | (go_simp; done) | (go_simp; rfl)); intro gb180 hg w4 hbox hb; have n0_ := Aside0.mk (below_step bl_ hb); have n1_ := Aside0.mk (hbox); have n2_ := Aside0.mk (gl_ (w := w) hg); have n3_ := Aside0.mk (gl_ (w := w) hg); clear HB; have HB := n0_; have BK180 := n1_; have GW180 := n2_; have GE180 := n3_; clear n0_ n1_ n2_ n3_; clear hb hbox hg)))
 (try simp only [Act.put, List.setIfInBounds_toArray, List.set_cons_zero, List.set_cons_succ])
 go_cut [24] (fun v24 wc => ∃ (kq : Nat) (x24_2 : Bool), v24 = .bool x24_2 ∧ Aside0 (jacquardref08_SelfLoop.j0 kq a1 x24_2 a0_0 l0_1 l0_2 l0_3 l0_4 l0_5 = some r) ∧ Aside0 (kq ≤ k) ∧ Aside0 (wc.heap[gb180]? = some (.cells #[.string a0_0, (.slice A0_1 l0_1.length c0_1), (.slice A0_2 l0_2.length c0_2), (.slice A0_3 l0_3.length c0_3), (.slice A0_4 l0_4.length c0_4), (.slice A0_5 l0_5.length c0_5)] 27 (0, 0))) ∧ Aside0 (Below w.heap.size w wc))
 case first =>
  have H := HC3.out
  clear HC3
  by_cases c5 : a1 < 0
  · rw [if_pos c5] at H
    have c5b0 : decide (a1 < 0) = true := decide_eq_true c5
    clear c5
    (first | rw [c5b0] | (simp only [i64_w, i32_w]; rw [c5b0]) | skip)
    have H' := Aside0.mk H
    clear H
    go_wp2
    repeat (go_quiet (fail); try go_wp2)
    go_meet
    case rel => exact ⟨_, (true), (by first | rfl | (simp; done) | (simp [*]; done)), H', ⟨by first | omega | exact Nat.le_refl _⟩, ⟨K_ BK180⟩, ⟨bl_⟩⟩
  rw [if_neg c5] at H
  have c5b0 : decide (a1 < 0) = false := decide_eq_false c5
  clear c5
  (first | rw [c5b0] | (simp only [i64_w, i32_w]; rw [c5b0]) | skip)
  by_cases c6 : a1 ≥ (l0_5.length : Int)
  · rw [if_pos c6] at H
    have c6b0 : decide ((l0_5.length : Int) ≤ a1) = true := decide_eq_true c6
    clear c6
    have H' := Aside0.mk H
    clear H
    obtain ⟨hcz7_0, hcz7_1, hcz7_2, hcz7_3, hcz7_4, hcz7_5⟩ := cells6 BK180
    obtain ⟨hfz7_0, hfz7_1, hfz7_2, hfz7_3, hfz7_4, hfz7_5⟩ := fz6 BK180
    go_wp2
    repeat (go_quiet (fail); try go_wp2)
    go_meet
    case rel => exact ⟨_, (true), (by first | rfl | (simp; done) | (simp [*]; done)), H', ⟨by first | omega | exact Nat.le_refl _⟩, ⟨K_ BK180⟩, ⟨bl_⟩⟩
  rw [if_neg c6] at H
  have c6b0 : decide ((l0_5.length : Int) ≤ a1) = false := decide_eq_false c6
  clear c6
  by_cases c8 : 0 ≤ a1
  · rw [if_pos c8] at H
    have c8b0 : decide (0 ≤ a1) = true := decide_eq_true c8
    clear c8
    by_cases c9 : a1 < (l0_5.length : Int)
    · rw [if_pos c9] at H
      have c9b0 : decide (a1 < (l0_5.length : Int)) = true := decide_eq_true c9
      clear c9
      have H' := Aside0.mk H
      clear H
      obtain ⟨hcz10_0, hcz10_1, hcz10_2, hcz10_3, hcz10_4, hcz10_5⟩ := cells6 BK180
      obtain ⟨hfz10_0, hfz10_1, hfz10_2, hfz10_3, hfz10_4, hfz10_5⟩ := fz6 BK180
      have p181 : 0 ≤ (a1 : Int) := of_decide_eq_true (by first | (with_reducible assumption) | assumption)
      have q181 : a1 < (l0_5.length : Int) := of_decide_eq_true (by first | (with_reducible assumption) | assumption)
      obtain ⟨ad181, A181_0, c181_0, A181_1, c181_1, A181_4, c181_4, A181_5, c181_5, e181, hx181_0, hx181_1, hx181_2, hx181_3, hx181_4, hx181_5, hx181_6, hx181_7, hx181_8, hl181_0, hi181_0, hl181_1, hi181_1, hl181_4, hi181_4, hl181_5, hi181_5⟩ := at_T66 HR0_5.out a1 p181 q181
      cases e181
      replace hx181_0 := hc_ HB hx181_0
      replace hx181_1 := hc_ HB hx181_1
      replace hx181_2 := hc_ HB hx181_2
      replace hx181_3 := hc_ HB hx181_3
      replace hx181_4 := hc_ HB hx181_4
      replace hx181_5 := hc_ HB hx181_5
      replace hx181_6 := hc_ HB hx181_6
      replace hx181_7 := hc_ HB hx181_7
      replace hx181_8 := hc_ HB hx181_8
      have HR181_0 := Aside0.mk hi181_0
      have HC181_0 := Aside0.mk hl181_0
      clear hi181_0 hl181_0
      have HR181_1 := Aside0.mk hi181_1
      have HC181_1 := Aside0.mk hl181_1
      clear hi181_1 hl181_1
      have HR181_4 := Aside0.mk hi181_4
      have HC181_4 := Aside0.mk hl181_4
      clear hi181_4 hl181_4
      have HR181_5 := Aside0.mk hi181_5
      have HC181_5 := Aside0.mk hl181_5
      clear hi181_5 hl181_5
      replace p181 := eq_true p181
      replace q181 := eq_true q181
      go_wp2
      repeat (go_quiet (fail); try go_wp2)
      go_meet
      case rel => exact ⟨_, ((((rd_T66 l0_5 a1).f2.f0) != 2)), (by first | rfl | (simp; done) | (simp [*]; done)), H', ⟨by first | omega | exact Nat.le_refl _⟩, ⟨K_ BK180⟩, ⟨bl_⟩⟩
    rw [if_neg c9] at H
    exact absurd H (by simp)
  rw [if_neg c8] at H
  exact absurd H (by simp)
 clear HC3
 (try clear c1); (try clear p1); (try clear q1); (try clear hx1); (try clear c2); (try clear p2); (try clear c5); (try clear c5b0); (try clear c6); (try clear c6b0); (try clear c8); (try clear c8b0); (try clear c9); (try clear c9b0); (try clear hcz10_0); (try clear hcz10_1); (try clear hcz10_2); (try clear hcz10_3); (try clear hcz10_4); (try clear hcz10_5); (try clear hcz7_0); (try clear hcz7_1); (try clear hcz7_2); (try clear hcz7_3); (try clear hcz7_4); (try clear hcz7_5); (try clear hfz10_0); (try clear hfz10_1); (try clear hfz10_2); (try clear hfz10_3); (try clear hfz10_4); (try clear hfz10_5); (try clear hfz7_0); (try clear hfz7_1); (try clear hfz7_2); (try clear hfz7_3); (try clear hfz7_4); (try clear hfz7_5); (try clear hx181_0); (try clear hx181_1)
 (try clear hx181_2); (try clear hx181_3); (try clear hx181_4); (try clear hx181_5); (try clear hx181_6); (try clear hx181_7); (try clear hx181_8); (try clear p181); (try clear q181)
 obtain ⟨kq, x24_2, rfl, HA, HJ2, BK180, HB⟩ := hcut
 cases kq with
 | zero => exact absurd HA.out (by simp [jacquardref08_SelfLoop.j0])
 | succ kj2 => ?_
 have H := HA.out
 clear HA
 simp only [jacquardref08_SelfLoop.j0] at H
 by_cases c11 : x24_2 = true
 · subst c11
   have H1 : (some (-1)) = some r := by rw [if_pos rfl] at H; exact H
   clear H
   have H := H1
   clear H1
   obtain rfl := Option.some.inj H
   go_wp2
   repeat (go_quiet (fail); try go_wp2)
   go_ret
   exact ⟨by first | rfl | (simp [errW_none, errW_some] <;> rfl) | (simp [*, errW_none, errW_some] <;> rfl), by repeat (first | (with_reducible first | exact HB.out | apply below_alloc | apply pw_below_drewN | apply below_drew1 | refine below_set ?_ GE180.out) | exact HB.out)⟩
 replace c11 := Bool.eq_false_iff.mpr c11
 subst c11
 have H1 : (if 0 ≤ a1 then (if a1 < (l0_5.length : Int) then (if 0 < (((rd_T66 l0_5 a1).f2.f2).length : Int) then (if 1 < (((rd_T66 l0_5 a1).f2.f2).length : Int) then (if ((((rd_T71 ((rd_T66 l0_5 a1).f2.f2) 0).f0) == a1) == (((rd_T71 ((rd_T66 l0_5 a1).f2.f2) 1).f0) == a1)) = true then (some (-1)) else (if ((rd_T71 ((rd_T66 l0_5 a1).f2.f2) 0).f0) = a1 then (some 0) else (some 1))) else (none)) else (none)) else (none)) else (none)) = some r := by rw [if_neg (show ¬ (false = true) by decide)] at H; exact H
 clear H
 have H := H1
 clear H1
 by_cases c12 : 0 ≤ a1
 · rw [if_pos c12] at H
   have c12b0 : decide (0 ≤ a1) = true := decide_eq_true c12
   clear c12
   by_cases c13 : a1 < (l0_5.length : Int)
   · rw [if_pos c13] at H
     have c13b0 : decide (a1 < (l0_5.length : Int)) = true := decide_eq_true c13
     clear c13
     by_cases c14 : 0 < (((rd_T66 l0_5 a1).f2.f2).length : Int)
     · rw [if_pos c14] at H
       have c14b0 : decide (0 < (((rd_T66 l0_5 a1).f2.f2).length : Int)) = true := decide_eq_true c14
       have c14b1 : decide (0 < ((rd_T66 l0_5 a1).f2.f2).length) = true := decide_eq_true (by omega)
       clear c14
       by_cases c15 : 1 < (((rd_T66 l0_5 a1).f2.f2).length : Int)
       · rw [if_pos c15] at H
         have c15b0 : decide (1 < (((rd_T66 l0_5 a1).f2.f2).length : Int)) = true := decide_eq_true c15
         have c15b1 : decide (1 < ((rd_T66 l0_5 a1).f2.f2).length) = true := decide_eq_true (by omega)
         clear c15
         by_cases c16 : ((((rd_T71 ((rd_T66 l0_5 a1).f2.f2) 0).f0) == a1) == (((rd_T71 ((rd_T66 l0_5 a1).f2.f2) 1).f0) == a1)) = true
         · rw [if_pos c16] at H
           have c16b0 : ((((rd_T71 ((rd_T66 l0_5 a1).f2.f2) 0).f0) == a1) == (((rd_T71 ((rd_T66 l0_5 a1).f2.f2) 1).f0) == a1)) = true := c16
           (try (have c16b1 : decide ((((rd_T71 ((rd_T66 l0_5 a1).f2.f2) 0).f0) == a1) = (((rd_T71 ((rd_T66 l0_5 a1).f2.f2) 1).f0) == a1)) = true := by simpa using c16))
           (try (have c16b2 : ((((rd_T71 ((rd_T66 l0_5 a1).f2.f2) 0).f0) == a1) == (((rd_T71 ((rd_T66 l0_5 a1).f2.f2) 1).f0) == a1)) = true := by simpa using c16))
           clear c16
           obtain rfl := Option.some.inj H
           obtain ⟨hcz17_0, hcz17_1, hcz17_2, hcz17_3, hcz17_4, hcz17_5⟩ := cells6 BK180
           obtain ⟨hfz17_0, hfz17_1, hfz17_2, hfz17_3, hfz17_4, hfz17_5⟩ := fz6 BK180
           have p182 : 0 ≤ (a1 : Int) := of_decide_eq_true (by first | (with_reducible assumption) | assumption)
           have q182 : a1 < (l0_5.length : Int) := of_decide_eq_true (by first | (with_reducible assumption) | assumption)
           obtain ⟨ad182, A182_0, c182_0, A182_1, c182_1, A182_4, c182_4, A182_5, c182_5, e182, hx182_0, hx182_1, hx182_2, hx182_3, hx182_4, hx182_5, hx182_6, hx182_7, hx182_8, hl182_0, hi182_0, hl182_1, hi182_1, hl182_4, hi182_4, hl182_5, hi182_5⟩ := at_T66 HR0_5.out a1 p182 q182
           cases e182
           replace hx182_0 := hc_ HB hx182_0
           replace hx182_1 := hc_ HB hx182_1
           replace hx182_2 := hc_ HB hx182_2
           replace hx182_3 := hc_ HB hx182_3
           replace hx182_4 := hc_ HB hx182_4
           replace hx182_5 := hc_ HB hx182_5
           replace hx182_6 := hc_ HB hx182_6
           replace hx182_7 := hc_ HB hx182_7
           replace hx182_8 := hc_ HB hx182_8
           have HR182_0 := Aside0.mk hi182_0
           have HC182_0 := Aside0.mk hl182_0
           clear hi182_0 hl182_0
           have HR182_1 := Aside0.mk hi182_1
           have HC182_1 := Aside0.mk hl182_1
           clear hi182_1 hl182_1
           have HR182_4 := Aside0.mk hi182_4
           have HC182_4 := Aside0.mk hl182_4
           clear hi182_4 hl182_4
           have HR182_5 := Aside0.mk hi182_5
           have HC182_5 := Aside0.mk hl182_5
           clear hi182_5 hl182_5
           replace p182 := eq_true p182
           replace q182 := eq_true q182
           have p183 : 0 ≤ (0 : Int) := (by omega)
           have q183 : 0 < (((rd_T66 l0_5 a1).f2.f2).length : Int) := of_decide_eq_true (by first | (with_reducible assumption) | assumption)
           obtain ⟨ad183, A183_1, c183_1, e183, hx183_0, hx183_1, hl183_1, hi183_1⟩ := at_T71 HR182_4.out 0 p183 q183
           cases e183
           have qi183 : (0 < ((rd_T66 l0_5 a1).f2.f2).length) = True := eq_true (by omega)
           (try rw [show ((0 : Int)).toNat = 0 from rfl] at hx183_0)
           (try rw [show 0 * 2 = 0 from rfl] at hx183_0)
           (try rw [Addr.add_zero'] at hx183_0)
           (try rw [show ((0 : Int)).toNat = 0 from rfl] at hx183_1)
           (try rw [show 0 * 2 = 0 from rfl] at hx183_1)
           (try rw [Addr.add_zero'] at hx183_1)
           replace hx183_0 := hc_ HB hx183_0
           replace hx183_1 := hc_ HB hx183_1
           have HR183_1 := Aside0.mk hi183_1
           have HC183_1 := Aside0.mk hl183_1
           clear hi183_1 hl183_1
           replace p183 := eq_true p183
           replace q183 := eq_true q183
           have p184 : 0 ≤ (1 : Int) := (by omega)
           have q184 : 1 < (((rd_T66 l0_5 a1).f2.f2).length : Int) := of_decide_eq_true (by first | (with_reducible assumption) | assumption)
           obtain ⟨ad184, A184_1, c184_1, e184, hx184_0, hx184_1, hl184_1, hi184_1⟩ := at_T71 HR182_4.out 1 p184 q184
           obtain rfl : ad183 = ad184 := (by injection e184)
           (try simp only [show (1 : Int).toNat = 1 from rfl, Nat.reduceMul, Nat.reduceEqDiff, Go.Addr.add, ↓reduceIte] at hx184_0)
           (try simp only [show (1 : Int).toNat = 1 from rfl, Nat.reduceMul, Nat.reduceEqDiff, Go.Addr.add, ↓reduceIte] at hx184_1)
           have qi184 : (1 < ((rd_T66 l0_5 a1).f2.f2).length) = True := eq_true (by omega)
           (try rw [show ((1 : Int)).toNat = 1 from rfl] at hx184_0)
           (try rw [show 1 * 2 = 2 from rfl] at hx184_0)
           (try rw [show ((1 : Int)).toNat = 1 from rfl] at hx184_1)
           (try rw [show 1 * 2 = 2 from rfl] at hx184_1)
           replace hx184_0 := hc_ HB hx184_0
           replace hx184_1 := hc_ HB hx184_1
           have HR184_1 := Aside0.mk hi184_1
           have HC184_1 := Aside0.mk hl184_1
           clear hi184_1 hl184_1
           replace p184 := eq_true p184
           replace q184 := eq_true q184
           go_wp2
           repeat (go_quiet (fail); try go_wp2)
           go_ret
           exact ⟨by first | rfl | (simp [errW_none, errW_some] <;> rfl) | (simp [*, errW_none, errW_some] <;> rfl), by repeat (first | (with_reducible first | exact HB.out | apply below_alloc | apply pw_below_drewN | apply below_drew1 | refine below_set ?_ GE180.out) | exact HB.out)⟩
         rw [if_neg c16] at H
         have c16b0 : ((((rd_T71 ((rd_T66 l0_5 a1).f2.f2) 0).f0) == a1) == (((rd_T71 ((rd_T66 l0_5 a1).f2.f2) 1).f0) == a1)) = false := by simpa using c16
         (try (have c16b1 : decide ((((rd_T71 ((rd_T66 l0_5 a1).f2.f2) 0).f0) == a1) = (((rd_T71 ((rd_T66 l0_5 a1).f2.f2) 1).f0) == a1)) = false := by simpa using c16))
         (try (have c16b2 : ((((rd_T71 ((rd_T66 l0_5 a1).f2.f2) 0).f0) == a1) == (((rd_T71 ((rd_T66 l0_5 a1).f2.f2) 1).f0) == a1)) = false := by simpa using c16))
         (try (have c16b3 : ¬ ((((rd_T71 ((rd_T66 l0_5 a1).f2.f2) 0).f0) == a1) = (((rd_T71 ((rd_T66 l0_5 a1).f2.f2) 1).f0) == a1)) := by simpa using c16))
         clear c16
         by_cases c18 : ((rd_T71 ((rd_T66 l0_5 a1).f2.f2) 0).f0) = a1
         · rw [if_pos c18] at H
           have c18b0 : (((rd_T71 ((rd_T66 l0_5 a1).f2.f2) 0).f0) == a1) = true := beq_iff_eq.mpr c18
           have c18b1 : (((rd_T71 ((rd_T66 l0_5 a1).f2.f2) 0).f0) != a1) = false := bne_eq_false_iff_eq.mpr c18
           have c16x : (((rd_T71 ((rd_T66 l0_5 a1).f2.f2) 1).f0) == a1) = false := by simpa [c18b0] using c16b0
           clear c18
           obtain rfl := Option.some.inj H
           obtain ⟨hcz19_0, hcz19_1, hcz19_2, hcz19_3, hcz19_4, hcz19_5⟩ := cells6 BK180
           obtain ⟨hfz19_0, hfz19_1, hfz19_2, hfz19_3, hfz19_4, hfz19_5⟩ := fz6 BK180
           have p182 : 0 ≤ (a1 : Int) := of_decide_eq_true (by first | (with_reducible assumption) | assumption)
           have q182 : a1 < (l0_5.length : Int) := of_decide_eq_true (by first | (with_reducible assumption) | assumption)
           obtain ⟨ad182, A182_0, c182_0, A182_1, c182_1, A182_4, c182_4, A182_5, c182_5, e182, hx182_0, hx182_1, hx182_2, hx182_3, hx182_4, hx182_5, hx182_6, hx182_7, hx182_8, hl182_0, hi182_0, hl182_1, hi182_1, hl182_4, hi182_4, hl182_5, hi182_5⟩ := at_T66 HR0_5.out a1 p182 q182
           cases e182
           replace hx182_0 := hc_ HB hx182_0
           replace hx182_1 := hc_ HB hx182_1
           replace hx182_2 := hc_ HB hx182_2
           replace hx182_3 := hc_ HB hx182_3
           replace hx182_4 := hc_ HB hx182_4
           replace hx182_5 := hc_ HB hx182_5
           replace hx182_6 := hc_ HB hx182_6
           replace hx182_7 := hc_ HB hx182_7
           replace hx182_8 := hc_ HB hx182_8
           have HR182_0 := Aside0.mk hi182_0
           have HC182_0 := Aside0.mk hl182_0
           clear hi182_0 hl182_0
           have HR182_1 := Aside0.mk hi182_1
           have HC182_1 := Aside0.mk hl182_1
           clear hi182_1 hl182_1
           have HR182_4 := Aside0.mk hi182_4
           have HC182_4 := Aside0.mk hl182_4
           clear hi182_4 hl182_4
           have HR182_5 := Aside0.mk hi182_5
           have HC182_5 := Aside0.mk hl182_5
           clear hi182_5 hl182_5
           replace p182 := eq_true p182
           replace q182 := eq_true q182
           have p183 : 0 ≤ (0 : Int) := (by omega)
           have q183 : 0 < (((rd_T66 l0_5 a1).f2.f2).length : Int) := of_decide_eq_true (by first | (with_reducible assumption) | assumption)
           obtain ⟨ad183, A183_1, c183_1, e183, hx183_0, hx183_1, hl183_1, hi183_1⟩ := at_T71 HR182_4.out 0 p183 q183
           cases e183
           have qi183 : (0 < ((rd_T66 l0_5 a1).f2.f2).length) = True := eq_true (by omega)
           (try rw [show ((0 : Int)).toNat = 0 from rfl] at hx183_0)
           (try rw [show 0 * 2 = 0 from rfl] at hx183_0)
           (try rw [Addr.add_zero'] at hx183_0)
           (try rw [show ((0 : Int)).toNat = 0 from rfl] at hx183_1)
           (try rw [show 0 * 2 = 0 from rfl] at hx183_1)
           (try rw [Addr.add_zero'] at hx183_1)
           replace hx183_0 := hc_ HB hx183_0
           replace hx183_1 := hc_ HB hx183_1
           have HR183_1 := Aside0.mk hi183_1
           have HC183_1 := Aside0.mk hl183_1
           clear hi183_1 hl183_1
           replace p183 := eq_true p183
           replace q183 := eq_true q183
           have p184 : 0 ≤ (1 : Int) := (by omega)
           have q184 : 1 < (((rd_T66 l0_5 a1).f2.f2).length : Int) := of_decide_eq_true (by first | (with_reducible assumption) | assumption)
           obtain ⟨ad184, A184_1, c184_1, e184, hx184_0, hx184_1, hl184_1, hi184_1⟩ := at_T71 HR182_4.out 1 p184 q184
           obtain rfl : ad183 = ad184 := (by injection e184)
           (try simp only [show (1 : Int).toNat = 1 from rfl, Nat.reduceMul, Nat.reduceEqDiff, Go.Addr.add, ↓reduceIte] at hx184_0)
           (try simp only [show (1 : Int).toNat = 1 from rfl, Nat.reduceMul, Nat.reduceEqDiff, Go.Addr.add, ↓reduceIte] at hx184_1)
           have qi184 : (1 < ((rd_T66 l0_5 a1).f2.f2).length) = True := eq_true (by omega)
           (try rw [show ((1 : Int)).toNat = 1 from rfl] at hx184_0)
           (try rw [show 1 * 2 = 2 from rfl] at hx184_0)
           (try rw [show ((1 : Int)).toNat = 1 from rfl] at hx184_1)
           (try rw [show 1 * 2 = 2 from rfl] at hx184_1)
           replace hx184_0 := hc_ HB hx184_0
           replace hx184_1 := hc_ HB hx184_1
           have HR184_1 := Aside0.mk hi184_1
           have HC184_1 := Aside0.mk hl184_1
           clear hi184_1 hl184_1
           replace p184 := eq_true p184
           replace q184 := eq_true q184
           have p185 : 0 ≤ (0 : Int) := (by omega)
           have q185 : 0 < (((rd_T66 l0_5 a1).f2.f2).length : Int) := of_decide_eq_true (by first | (with_reducible assumption) | assumption)
           obtain ⟨ad185, A185_1, c185_1, e185, hx185_0, hx185_1, hl185_1, hi185_1⟩ := at_T71 HR182_4.out 0 p185 q185
           obtain rfl : ad183 = ad185 := (by injection e185)
           have qi185 : (0 < ((rd_T66 l0_5 a1).f2.f2).length) = True := eq_true (by omega)
           (try rw [show ((0 : Int)).toNat = 0 from rfl] at hx185_0)
           (try rw [show 0 * 2 = 0 from rfl] at hx185_0)
           (try rw [Addr.add_zero'] at hx185_0)
           (try rw [show ((0 : Int)).toNat = 0 from rfl] at hx185_1)
           (try rw [show 0 * 2 = 0 from rfl] at hx185_1)
           (try rw [Addr.add_zero'] at hx185_1)
           replace hx185_0 := hc_ HB hx185_0
           replace hx185_1 := hc_ HB hx185_1
           have HR185_1 := Aside0.mk hi185_1
           have HC185_1 := Aside0.mk hl185_1
           clear hi185_1 hl185_1
           replace p185 := eq_true p185
           replace q185 := eq_true q185
           have ea_ := Option.some.inj (hx183_1.symm.trans hx185_1)
           injection ea_ with ea_ en_ ec_
           subst ea_
           subst ec_
           clear en_
           go_wp2
           repeat (go_quiet (fail); try go_wp2)
           go_ret
           exact ⟨by first | rfl | (simp [errW_none, errW_some] <;> rfl) | (simp [*, errW_none, errW_some] <;> rfl), by repeat (first | (with_reducible first | exact HB.out | apply below_alloc | apply pw_below_drewN | apply below_drew1 | refine below_set ?_ GE180.out) | exact HB.out)⟩
         rw [if_neg c18] at H
         have c18b0 : (((rd_T71 ((rd_T66 l0_5 a1).f2.f2) 0).f0) == a1) = false := beq_eq_false_iff_ne.mpr c18
         have c18b1 : (((rd_T71 ((rd_T66 l0_5 a1).f2.f2) 0).f0) != a1) = true := bne_iff_ne.mpr c18
         have c16x : (((rd_T71 ((rd_T66 l0_5 a1).f2.f2) 1).f0) == a1) = true := by simpa [c18b0] using c16b0
         obtain rfl := Option.some.inj H
         obtain ⟨hcz20_0, hcz20_1, hcz20_2, hcz20_3, hcz20_4, hcz20_5⟩ := cells6 BK180
         obtain ⟨hfz20_0, hfz20_1, hfz20_2, hfz20_3, hfz20_4, hfz20_5⟩ := fz6 BK180
         have p182 : 0 ≤ (a1 : Int) := of_decide_eq_true (by first | (with_reducible assumption) | assumption)
         have q182 : a1 < (l0_5.length : Int) := of_decide_eq_true (by first | (with_reducible assumption) | assumption)
         obtain ⟨ad182, A182_0, c182_0, A182_1, c182_1, A182_4, c182_4, A182_5, c182_5, e182, hx182_0, hx182_1, hx182_2, hx182_3, hx182_4, hx182_5, hx182_6, hx182_7, hx182_8, hl182_0, hi182_0, hl182_1, hi182_1, hl182_4, hi182_4, hl182_5, hi182_5⟩ := at_T66 HR0_5.out a1 p182 q182
         cases e182
         replace hx182_0 := hc_ HB hx182_0
         replace hx182_1 := hc_ HB hx182_1
         replace hx182_2 := hc_ HB hx182_2
         replace hx182_3 := hc_ HB hx182_3
         replace hx182_4 := hc_ HB hx182_4
         replace hx182_5 := hc_ HB hx182_5
         replace hx182_6 := hc_ HB hx182_6
         replace hx182_7 := hc_ HB hx182_7
         replace hx182_8 := hc_ HB hx182_8
         have HR182_0 := Aside0.mk hi182_0
         have HC182_0 := Aside0.mk hl182_0
         clear hi182_0 hl182_0
         have HR182_1 := Aside0.mk hi182_1
         have HC182_1 := Aside0.mk hl182_1
         clear hi182_1 hl182_1
         have HR182_4 := Aside0.mk hi182_4
         have HC182_4 := Aside0.mk hl182_4
         clear hi182_4 hl182_4
         have HR182_5 := Aside0.mk hi182_5
         have HC182_5 := Aside0.mk hl182_5
         clear hi182_5 hl182_5
         replace p182 := eq_true p182
         replace q182 := eq_true q182
         have p183 : 0 ≤ (0 : Int) := (by omega)
         have q183 : 0 < (((rd_T66 l0_5 a1).f2.f2).length : Int) := of_decide_eq_true (by first | (with_reducible assumption) | assumption)
         obtain ⟨ad183, A183_1, c183_1, e183, hx183_0, hx183_1, hl183_1, hi183_1⟩ := at_T71 HR182_4.out 0 p183 q183
         cases e183
         have qi183 : (0 < ((rd_T66 l0_5 a1).f2.f2).length) = True := eq_true (by omega)
         (try rw [show ((0 : Int)).toNat = 0 from rfl] at hx183_0)
         (try rw [show 0 * 2 = 0 from rfl] at hx183_0)
         (try rw [Addr.add_zero'] at hx183_0)
         (try rw [show ((0 : Int)).toNat = 0 from rfl] at hx183_1)
         (try rw [show 0 * 2 = 0 from rfl] at hx183_1)
         (try rw [Addr.add_zero'] at hx183_1)
         replace hx183_0 := hc_ HB hx183_0
         replace hx183_1 := hc_ HB hx183_1
         have HR183_1 := Aside0.mk hi183_1
         have HC183_1 := Aside0.mk hl183_1
         clear hi183_1 hl183_1
         replace p183 := eq_true p183
         replace q183 := eq_true q183
         have p184 : 0 ≤ (1 : Int) := (by omega)
         have q184 : 1 < (((rd_T66 l0_5 a1).f2.f2).length : Int) := of_decide_eq_true (by first | (with_reducible assumption) | assumption)
         obtain ⟨ad184, A184_1, c184_1, e184, hx184_0, hx184_1, hl184_1, hi184_1⟩ := at_T71 HR182_4.out 1 p184 q184
         obtain rfl : ad183 = ad184 := (by injection e184)
         (try simp only [show (1 : Int).toNat = 1 from rfl, Nat.reduceMul, Nat.reduceEqDiff, Go.Addr.add, ↓reduceIte] at hx184_0)
         (try simp only [show (1 : Int).toNat = 1 from rfl, Nat.reduceMul, Nat.reduceEqDiff, Go.Addr.add, ↓reduceIte] at hx184_1)
         have qi184 : (1 < ((rd_T66 l0_5 a1).f2.f2).length) = True := eq_true (by omega)
         (try rw [show ((1 : Int)).toNat = 1 from rfl] at hx184_0)
         (try rw [show 1 * 2 = 2 from rfl] at hx184_0)
         (try rw [show ((1 : Int)).toNat = 1 from rfl] at hx184_1)
         (try rw [show 1 * 2 = 2 from rfl] at hx184_1)
         replace hx184_0 := hc_ HB hx184_0
         replace hx184_1 := hc_ HB hx184_1
         have HR184_1 := Aside0.mk hi184_1
         have HC184_1 := Aside0.mk hl184_1
         clear hi184_1 hl184_1
         replace p184 := eq_true p184
         replace q184 := eq_true q184
         have p185 : 0 ≤ (0 : Int) := (by omega)
         have q185 : 0 < (((rd_T66 l0_5 a1).f2.f2).length : Int) := of_decide_eq_true (by first | (with_reducible assumption) | assumption)
         obtain ⟨ad185, A185_1, c185_1, e185, hx185_0, hx185_1, hl185_1, hi185_1⟩ := at_T71 HR182_4.out 0 p185 q185
         obtain rfl : ad183 = ad185 := (by injection e185)
         have qi185 : (0 < ((rd_T66 l0_5 a1).f2.f2).length) = True := eq_true (by omega)
         (try rw [show ((0 : Int)).toNat = 0 from rfl] at hx185_0)
         (try rw [show 0 * 2 = 0 from rfl] at hx185_0)
         (try rw [Addr.add_zero'] at hx185_0)
         (try rw [show ((0 : Int)).toNat = 0 from rfl] at hx185_1)
         (try rw [show 0 * 2 = 0 from rfl] at hx185_1)
         (try rw [Addr.add_zero'] at hx185_1)
         replace hx185_0 := hc_ HB hx185_0
         replace hx185_1 := hc_ HB hx185_1
         have HR185_1 := Aside0.mk hi185_1
         have HC185_1 := Aside0.mk hl185_1
         clear hi185_1 hl185_1
         replace p185 := eq_true p185
         replace q185 := eq_true q185
         have ea_ := Option.some.inj (hx183_1.symm.trans hx185_1)
         injection ea_ with ea_ en_ ec_
         subst ea_
         subst ec_
         clear en_
         go_wp2
         repeat (go_quiet (fail); try go_wp2)
         go_ret
         exact ⟨by first | rfl | (simp [errW_none, errW_some] <;> rfl) | (simp [*, errW_none, errW_some] <;> rfl), by repeat (first | (with_reducible first | exact HB.out | apply below_alloc | apply pw_below_drewN | apply below_drew1 | refine below_set ?_ GE180.out) | exact HB.out)⟩
       rw [if_neg c15] at H
       exact absurd H (by simp)
     rw [if_neg c14] at H
     exact absurd H (by simp)
   rw [if_neg c13] at H
   exact absurd H (by simp)
 rw [if_neg c12] at H
 exact absurd H (by simp)
end Go.Proofs.Ytmefaegcoogmiaa.PAll
