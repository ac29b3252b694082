-- Written for this claim by programs of this session (wip/print2 in its repo: a changed printer, a shortener, a packer). Lean checks it.
import Derived.Test.YtmefaegcoogmiaaP0
namespace Go.Proofs.Ytmefaegcoogmiaa.PAll
open Go.RowKit Go.Proofs.YtmefaegcoogmiaaW.PrintWords Go.Proofs.YtmefaegcoogmiaaW.PrintLast Go.Proofs.YtmefaegcoogmiaaW.PrintMore
attribute [local go_sem] max2_int min2_int max_two min_two max_three min_three max_four min_four   -- for this text's walks alone
set_option linter.unusedVariables false
set_option linter.unusedSimpArgs false

/-! ### cycles_Self: function 10 -/
mutual
def cycles_Self.j0 : Nat → Int → Bool → ByteArray → List Int → List (S75) → List (S77) → List Int → List (S66) → Option (Int)
  | 0, _, _, _, _, _, _, _, _ => none
  | k + 1, x2, x32, x103000, x103001, x103002, x103003, x103004, x103005 => if x32 = true then (some (-1)) else (if 0 ≤ x2 then (if x2 < (x103005.length : Int) then (cycles_Self.l0 k x2 (-1) ((rd_T66 x103005 x2).f2.f2) (((rd_T66 x103005 x2).f2.f2).length : Int) 0) else (none)) else (none))
def cycles_Self.l0 : Nat → Int → Int → List (S71) → Int → Int → Option (Int)
  | 0, _, _, _, _, _ => none
  | k + 1, x2, x7, x39, x40, x41 => if x41 < x40 then (if 0 ≤ x41 then (if x41 < (x39.length : Int) then (if ((rd_T71 x39 x41).f0) = x2 then (if x7 ≥ 0 then (some (-1)) else (cycles_Self.l0 k x2 x41 x39 x40 (wrap64 (x41 + 1)))) else (cycles_Self.l0 k x2 x7 x39 x40 (wrap64 (x41 + 1)))) else (none)) else (none)) else (some x7)
end
def cycles_Self.f (k : Nat) (a0_0 : ByteArray) (l0_1 : List Int) (l0_2 : List (S75)) (l0_3 : List (S77)) (l0_4 : List Int) (l0_5 : List (S66)) (l1 : List (S49)) (a2 : Int) : Option (Int) := if a2 < 0 then (cycles_Self.j0 k a2 true a0_0 l0_1 l0_2 l0_3 l0_4 l0_5) else (if a2 ≥ (l0_5.length : Int) then (cycles_Self.j0 k a2 true a0_0 l0_1 l0_2 l0_3 l0_4 l0_5) else (if a2 ≥ (l1.length : Int) then (cycles_Self.j0 k a2 true a0_0 l0_1 l0_2 l0_3 l0_4 l0_5) else (if 0 ≤ a2 then (if a2 < (l1.length : Int) then (cycles_Self.j0 k a2 (decide (((rd_T49 l1 a2).f0) ≤ 0)) a0_0 l0_1 l0_2 l0_3 l0_4 l0_5) else (none)) else (none))))
theorem cycles_Self.mono_l : ∀ k, (∀ y0 y1 y2 y3 y4 y5 y6 y7, LeO (cycles_Self.j0 k y0 y1 y2 y3 y4 y5 y6 y7) (cycles_Self.j0 (k + 1) y0 y1 y2 y3 y4 y5 y6 y7)) ∧ (∀ y0 y1 y2 y3 y4, LeO (cycles_Self.l0 k y0 y1 y2 y3 y4) (cycles_Self.l0 (k + 1) y0 y1 y2 y3 y4))
  | 0 => ⟨fun _ _ _ _ _ _ _ _ r h => by simp [cycles_Self.j0] at h, fun _ _ _ _ _ r h => by simp [cycles_Self.l0] at h⟩
  | k + 1 => by
    obtain ⟨ih0, ih1⟩ := cycles_Self.mono_l k
    refine ⟨?_, ?_⟩
    · intro y0 y1 y2 y3 y4 y5 y6 y7
      unfold cycles_Self.j0
      repeat' first
      | (with_reducible exact ih0 _ _ _ _ _ _ _ _)
      | (with_reducible exact ih1 _ _ _ _ _)
      | (with_reducible exact LeO.refl _)
      | (with_reducible exact LeO.none _)
      | (with_reducible refine LeO.ite ?_ ?_)
      | (with_reducible refine LeO.bind ?_ (fun _ => ?_))
      | exact ih0 _ _ _ _ _ _ _ _
      | exact ih1 _ _ _ _ _
      | exact LeO.none _
      | refine LeO.ite ?_ ?_
      | refine LeO.bind ?_ (fun _ => ?_)
    · intro y0 y1 y2 y3 y4
      unfold cycles_Self.l0
      repeat' first
      | (with_reducible exact ih0 _ _ _ _ _ _ _ _)
      | (with_reducible exact ih1 _ _ _ _ _)
      | (with_reducible exact LeO.refl _)
      | (with_reducible exact LeO.none _)
      | (with_reducible refine LeO.ite ?_ ?_)
      | (with_reducible refine LeO.bind ?_ (fun _ => ?_))
      | exact ih0 _ _ _ _ _ _ _ _
      | exact ih1 _ _ _ _ _
      | exact LeO.none _
      | refine LeO.ite ?_ ?_
      | refine LeO.bind ?_ (fun _ => ?_)
theorem cycles_Self.mono : ∀ a0 a1 a2 a3 a4 a5 a6 a7 k, LeO (cycles_Self.f k a0 a1 a2 a3 a4 a5 a6 a7) (cycles_Self.f (k + 1) a0 a1 a2 a3 a4 a5 a6 a7) := by
 intro a0 a1 a2 a3 a4 a5 a6 a7 k
 obtain ⟨ih0, ih1⟩ := cycles_Self.mono_l k
 unfold cycles_Self.f
 repeat' first
     | (with_reducible exact ih0 _ _ _ _ _ _ _ _)
     | (with_reducible exact ih1 _ _ _ _ _)
     | (with_reducible exact LeO.refl _)
     | (with_reducible exact LeO.none _)
     | (with_reducible refine LeO.ite ?_ ?_)
     | (with_reducible refine LeO.bind ?_ (fun _ => ?_))
     | exact ih0 _ _ _ _ _ _ _ _
     | exact ih1 _ _ _ _ _
     | exact LeO.none _
     | refine LeO.ite ?_ ?_
     | refine LeO.bind ?_ (fun _ => ?_)
set_option maxHeartbeats 8000000 in
set_option maxRecDepth 100000 in
theorem cycles_Self.calls (k : Nat) (a0_0 : ByteArray) (A0_1 : Option Addr) (c0_1 : Nat) (l0_1 : List Int) (A0_2 : Option Addr) (c0_2 : Nat) (l0_2 : List (S75)) (A0_3 : Option Addr) (c0_3 : Nat) (l0_3 : List (S77)) (A0_4 : Option Addr) (c0_4 : Nat) (l0_4 : List Int) (A0_5 : Option Addr) (c0_5 : Nat) (l0_5 : List (S66)) (A1 : Option Addr) (c1 : Nat) (l1 : List (S49)) (a2 : Int) (r : Int) (w : World) (hr0_1 : Kd.C (Kd.int .i64) w A0_1 l0_1.length l0_1) (hc0_1 : l0_1.length ≤ c0_1) (hr0_2 : Kd.C k75 w A0_2 l0_2.length l0_2) (hc0_2 : l0_2.length ≤ c0_2) (hr0_3 : Kd.C k77 w A0_3 l0_3.length l0_3) (hc0_3 : l0_3.length ≤ c0_3) (hr0_4 : Kd.C (Kd.int .i64) w A0_4 l0_4.length l0_4) (hc0_4 : l0_4.length ≤ c0_4) (hr0_5 : Kd.C k66 w A0_5 l0_5.length l0_5) (hc0_5 : l0_5.length ≤ c0_5) (hr1 : Kd.C k49 w A1 l1.length l1) (hc1 : l1.length ≤ c1) (h : cycles_Self.f k a0_0 l0_1 l0_2 l0_3 l0_4 l0_5 l1 a2 = some r) :
    Calls Try.prog 10 #[.agg #[.string a0_0, .slice A0_1 l0_1.length c0_1, .slice A0_2 l0_2.length c0_2, .slice A0_3 l0_3.length c0_3, .slice A0_4 l0_4.length c0_4, .slice A0_5 l0_5.length c0_5], .slice A1 l1.length c1, .int .i64 a2] w fun e w' => e = .returned (.int .i64 r) ∧ Below w.heap.size w w' := by
 have hu27 := Try.underlying27
 have hu71 := Try.underlying71
 have HR0_1 := Aside0.mk hr0_1
 have HC0_1 := Aside0.mk hc0_1
 clear hr0_1 hc0_1
 have HR0_2 := Aside0.mk hr0_2
 have HC0_2 := Aside0.mk hc0_2
 clear hr0_2 hc0_2
 have HR0_3 := Aside0.mk hr0_3
 have HC0_3 := Aside0.mk hc0_3
 clear hr0_3 hc0_3
 have HR0_4 := Aside0.mk hr0_4
 have HC0_4 := Aside0.mk hc0_4
 clear hr0_4 hc0_4
 have HR0_5 := Aside0.mk hr0_5
 have HC0_5 := Aside0.mk hc0_5
 clear hr0_5 hc0_5
 have HR1 := Aside0.mk hr1
 have HC1 := Aside0.mk hc1
 clear hr1 hc1
 have HB := Aside0.mk (Below.refl w.heap.size w)
 have H : (if a2 < 0 then (cycles_Self.j0 k a2 true a0_0 l0_1 l0_2 l0_3 l0_4 l0_5) else (if a2 ≥ (l0_5.length : Int) then (cycles_Self.j0 k a2 true a0_0 l0_1 l0_2 l0_3 l0_4 l0_5) else (if a2 ≥ (l1.length : Int) then (cycles_Self.j0 k a2 true a0_0 l0_1 l0_2 l0_3 l0_4 l0_5) else (if 0 ≤ a2 then (if a2 < (l1.length : Int) then (cycles_Self.j0 k a2 (decide (((rd_T49 l1 a2).f0) ≤ 0)) a0_0 l0_1 l0_2 l0_3 l0_4 l0_5) else (none)) else (none))))) = some r := h
 clear h
 have HC4 := Aside0.mk H
 clear H
 go_enter Try.func10, Try.ntmps10
 go_upto_region 1 with (first | ((with_reducible refine gate_dst (N := 3) rfl ?_); (try (refine gate_guard (by rfl) ?_; dsimp only)); refine box_event ?hg (N := 3) ?hd (cs := #[.string a0_0, .slice A0_1 l0_1.length c0_1, .slice A0_2 l0_2.length c0_2, .slice A0_3 l0_3.length c0_3, .slice A0_4 l0_4.length c0_4, .slice A0_5 l0_5.length c0_5]) (t := 27) ?hr ?_; (case hd => rfl); (case hg => rfl); (case hr => first | (go_simp; done) | (go_simp; rfl)); intro gb102 hg w5 hbox hb; have n0_ := Aside0.mk (below_step bl_ hb); have n1_ := Aside0.mk (hbox); have n2_ := Aside0.mk (gl_ (w := w) hg); have n3_ := Aside0.mk (gl_ (w := w) hg); clear HB; have HB := n0_; have BK102 := n1_; have GW102 := n2_; have GE102 := n3_; clear n0_ n1_ n2_ n3_; clear hb hbox hg))
 (try simp only [Act.put, List.setIfInBounds_toArray, List.set_cons_zero, List.set_cons_succ])
 go_cut [32] (fun v32 wc => ∃ (kq : Nat) (x32_3 : Bool), v32 = .bool x32_3 ∧ Aside0 (cycles_Self.j0 kq a2 x32_3 a0_0 l0_1 l0_2 l0_3 l0_4 l0_5 = some r) ∧ Aside0 (kq ≤ k) ∧ Aside0 (wc.heap[gb102]? = some (.cells #[.string a0_0, (.slice A0_1 l0_1.length c0_1), (.slice A0_2 l0_2.length c0_2), (.slice A0_3 l0_3.length c0_3), (.slice A0_4 l0_4.length c0_4), (.slice A0_5 l0_5.length c0_5)] 27 (0, 0))) ∧ Aside0 (Below w.heap.size w wc))
 case first =>
  have H := HC4.out
  clear HC4
  by_cases c6 : a2 < 0
  · rw [if_pos c6] at H
    have c6b0 : decide (a2 < 0) = true := decide_eq_true c6
    clear c6
    (first | rw [c6b0] | (simp only [i64_w, i32_w]; rw [c6b0]) | skip)
    have H' := Aside0.mk H
    clear H
    go_wp2
    go_meet
    case rel => exact ⟨_, (true), (by first | rfl | (simp; done) | (simp [*]; done)), H', ⟨by first | omega | exact Nat.le_refl _⟩, ⟨K_ BK102⟩, ⟨bl_⟩⟩
  rw [if_neg c6] at H
  have c6b0 : decide (a2 < 0) = false := decide_eq_false c6
  clear c6
  (first | rw [c6b0] | (simp only [i64_w, i32_w]; rw [c6b0]) | skip)
  by_cases c7 : a2 ≥ (l0_5.length : Int)
  · rw [if_pos c7] at H
    have c7b0 : decide ((l0_5.length : Int) ≤ a2) = true := decide_eq_true c7
    clear c7
    have H' := Aside0.mk H
    clear H
    obtain ⟨hcz8_0, hcz8_1, hcz8_2, hcz8_3, hcz8_4, hcz8_5⟩ := cells6 BK102
    obtain ⟨hfz8_0, hfz8_1, hfz8_2, hfz8_3, hfz8_4, hfz8_5⟩ := fz6 BK102
    go_wp2
    go_meet
    case rel => exact ⟨_, (true), (by first | rfl | (simp; done) | (simp [*]; done)), H', ⟨by first | omega | exact Nat.le_refl _⟩, ⟨K_ BK102⟩, ⟨bl_⟩⟩
  rw [if_neg c7] at H
  have c7b0 : decide ((l0_5.length : Int) ≤ a2) = false := decide_eq_false c7
  clear c7
  by_cases c9 : a2 ≥ (l1.length : Int)
  · rw [if_pos c9] at H
    have c9b0 : decide ((l1.length : Int) ≤ a2) = true := decide_eq_true c9
    clear c9
    have H' := Aside0.mk H
    clear H
    obtain ⟨hcz10_0, hcz10_1, hcz10_2, hcz10_3, hcz10_4, hcz10_5⟩ := cells6 BK102
    obtain ⟨hfz10_0, hfz10_1, hfz10_2, hfz10_3, hfz10_4, hfz10_5⟩ := fz6 BK102
    go_wp2
    go_meet
    case rel => exact ⟨_, (true), (by first | rfl | (simp; done) | (simp [*]; done)), H', ⟨by first | omega | exact Nat.le_refl _⟩, ⟨K_ BK102⟩, ⟨bl_⟩⟩
  rw [if_neg c9] at H
  have c9b0 : decide ((l1.length : Int) ≤ a2) = false := decide_eq_false c9
  clear c9
  by_cases c11 : 0 ≤ a2
  · rw [if_pos c11] at H
    have c11b0 : decide (0 ≤ a2) = true := decide_eq_true c11
    clear c11
    by_cases c12 : a2 < (l1.length : Int)
    · rw [if_pos c12] at H
      have c12b0 : decide (a2 < (l1.length : Int)) = true := decide_eq_true c12
      clear c12
      have H' := Aside0.mk H
      clear H
      obtain ⟨hcz13_0, hcz13_1, hcz13_2, hcz13_3, hcz13_4, hcz13_5⟩ := cells6 BK102
      obtain ⟨hfz13_0, hfz13_1, hfz13_2, hfz13_3, hfz13_4, hfz13_5⟩ := fz6 BK102
      have p103 : 0 ≤ (a2 : Int) := of_decide_eq_true (by first | (with_reducible assumption) | assumption)
      have q103 : a2 < (l1.length : Int) := of_decide_eq_true (by first | (with_reducible assumption) | assumption)
      obtain ⟨ad103, A103_2, c103_2, A103_3, c103_3, A103_4, c103_4, e103, hx103_0, hx103_1, hx103_2, hx103_3, hx103_4, hl103_2, hi103_2, hl103_3, hi103_3, hl103_4, hi103_4⟩ := at_T49 HR1.out a2 p103 q103
      cases e103
      replace hx103_0 := hc_ HB hx103_0
      replace hx103_1 := hc_ HB hx103_1
      replace hx103_2 := hc_ HB hx103_2
      replace hx103_3 := hc_ HB hx103_3
      replace hx103_4 := hc_ HB hx103_4
      have HR103_2 := Aside0.mk hi103_2
      have HC103_2 := Aside0.mk hl103_2
      clear hi103_2 hl103_2
      have HR103_3 := Aside0.mk hi103_3
      have HC103_3 := Aside0.mk hl103_3
      clear hi103_3 hl103_3
      have HR103_4 := Aside0.mk hi103_4
      have HC103_4 := Aside0.mk hl103_4
      clear hi103_4 hl103_4
      replace p103 := eq_true p103
      replace q103 := eq_true q103
      go_wp2
      go_meet
      case rel => exact ⟨_, (decide (((rd_T49 l1 a2).f0) ≤ 0)), (by first | rfl | (simp; done) | (simp [*]; done)), H', ⟨by first | omega | exact Nat.le_refl _⟩, ⟨K_ BK102⟩, ⟨bl_⟩⟩
    rw [if_neg c12] at H
    exact absurd H (by simp)
  rw [if_neg c11] at H
  exact absurd H (by simp)
 clear HC4
 (try clear c1); (try clear p1); (try clear q1); (try clear hx1); (try clear p2); (try clear c6); (try clear c6b0); (try clear c7); (try clear c7b0); (try clear c9); (try clear c9b0); (try clear c10); (try clear p10); (try clear q10); (try clear hx10); (try clear c11); (try clear c11b0); (try clear c12); (try clear c12b0); (try clear hcz10_0); (try clear hcz10_1); (try clear hcz10_2); (try clear hcz10_3); (try clear hcz10_4); (try clear hcz10_5); (try clear hcz13_0); (try clear hcz13_1); (try clear hcz13_2); (try clear hcz13_3); (try clear hcz13_4); (try clear hcz13_5); (try clear hcz8_0); (try clear hcz8_1); (try clear hcz8_2); (try clear hcz8_3); (try clear hcz8_4); (try clear hcz8_5); (try clear hfz10_0); (try clear hfz10_1); (try clear hfz10_2)
 (try clear hfz10_3); (try clear hfz10_4); (try clear hfz10_5); (try clear hfz13_0); (try clear hfz13_1); (try clear hfz13_2); (try clear hfz13_3); (try clear hfz13_4); (try clear hfz13_5); (try clear hfz8_0); (try clear hfz8_1); (try clear hfz8_2); (try clear hfz8_3); (try clear hfz8_4); (try clear hfz8_5); (try clear hx103_0); (try clear hx103_1); (try clear hx103_2); (try clear hx103_3); (try clear hx103_4); (try clear p103); (try clear q103)
 obtain ⟨kq, x32_3, rfl, HA, HJ3, BK102, HB⟩ := hcut
 cases kq with
 | zero => exact absurd HA.out (by simp [cycles_Self.j0])
 | succ kj3 => ?_
 have H := HA.out
 clear HA
 simp only [cycles_Self.j0] at H
 by_cases c14 : x32_3 = true
 · subst c14
   have H1 : (some (-1)) = some r := by rw [if_pos rfl] at H; exact H
   clear H
   have H := H1
   clear H1
   obtain rfl := Option.some.inj H
   go_wp2
   go_ret
   exact ⟨by first | rfl | (simp [errW_none, errW_some] <;> rfl) | (simp [*, errW_none, errW_some] <;> rfl), by repeat (first | (with_reducible first | exact HB.out | apply below_alloc | apply pw_below_drewN | apply below_drew1 | refine below_set ?_ GE102.out) | exact HB.out)⟩
 replace c14 := Bool.eq_false_iff.mpr c14
 subst c14
 have H1 : (if 0 ≤ a2 then (if a2 < (l0_5.length : Int) then (cycles_Self.l0 kj3 a2 (-1) ((rd_T66 l0_5 a2).f2.f2) (((rd_T66 l0_5 a2).f2.f2).length : Int) 0) else (none)) else (none)) = some r := by rw [if_neg (show ¬ (false = true) by decide)] at H; exact H
 clear H
 have H := H1
 clear H1
 by_cases c15 : 0 ≤ a2
 · rw [if_pos c15] at H
   have c15b0 : decide (0 ≤ a2) = true := decide_eq_true c15
   clear c15
   by_cases c16 : a2 < (l0_5.length : Int)
   · rw [if_pos c16] at H
     have c16b0 : decide (a2 < (l0_5.length : Int)) = true := decide_eq_true c16
     clear c16
     have H' := Aside0.mk H
     clear H
     obtain ⟨hcz17_0, hcz17_1, hcz17_2, hcz17_3, hcz17_4, hcz17_5⟩ := cells6 BK102
     obtain ⟨hfz17_0, hfz17_1, hfz17_2, hfz17_3, hfz17_4, hfz17_5⟩ := fz6 BK102
     have p104 : 0 ≤ (a2 : Int) := of_decide_eq_true (by first | (with_reducible assumption) | assumption)
     have q104 : a2 < (l0_5.length : Int) := of_decide_eq_true (by first | (with_reducible assumption) | assumption)
     obtain ⟨ad104, A104_0, c104_0, A104_1, c104_1, A104_4, c104_4, A104_5, c104_5, e104, hx104_0, hx104_1, hx104_2, hx104_3, hx104_4, hx104_5, hx104_6, hx104_7, hx104_8, hl104_0, hi104_0, hl104_1, hi104_1, hl104_4, hi104_4, hl104_5, hi104_5⟩ := at_T66 HR0_5.out a2 p104 q104
     cases e104
     replace hx104_0 := hc_ HB hx104_0
     replace hx104_1 := hc_ HB hx104_1
     replace hx104_2 := hc_ HB hx104_2
     replace hx104_3 := hc_ HB hx104_3
     replace hx104_4 := hc_ HB hx104_4
     replace hx104_5 := hc_ HB hx104_5
     replace hx104_6 := hc_ HB hx104_6
     replace hx104_7 := hc_ HB hx104_7
     replace hx104_8 := hc_ HB hx104_8
     have HR104_0 := Aside0.mk hi104_0
     have HC104_0 := Aside0.mk hl104_0
     clear hi104_0 hl104_0
     have HR104_1 := Aside0.mk hi104_1
     have HC104_1 := Aside0.mk hl104_1
     clear hi104_1 hl104_1
     have HR104_4 := Aside0.mk hi104_4
     have HC104_4 := Aside0.mk hl104_4
     clear hi104_4 hl104_4
     have HR104_5 := Aside0.mk hi104_5
     have HC104_5 := Aside0.mk hl104_5
     clear hi104_5 hl104_5
     replace p104 := eq_true p104
     replace q104 := eq_true q104
     go_wp2
     go_loopg [7, 41] kj3 (fun kq v7 v41 w' => ∃ (x7_2 : Int) (x41_2 : Int), v7 = .int .i64 x7_2 ∧ v41 = .int .i64 x41_2 ∧ Aside0 (cycles_Self.l0 kq a2 x7_2 ((rd_T66 l0_5 a2).f2.f2) (((rd_T66 l0_5 a2).f2.f2).length : Int) x41_2 = some r) ∧ Aside0 (kq ≤ kj3) ∧ Aside0 (w'.heap[gb102]? = some (.cells #[.string a0_0, (.slice A0_1 l0_1.length c0_1), (.slice A0_2 l0_2.length c0_2), (.slice A0_3 l0_3.length c0_3), (.slice A0_4 l0_4.length c0_4), (.slice (some ad104) l0_5.length c0_5)] 27 (0, 0))) ∧ Aside0 (Below w.heap.size w w'))
     case atStart => exact ⟨((-1)), (0), (by first | rfl | (simp; done) | (simp [*]; done)), (by first | rfl | (simp; done) | (simp [*]; done)), H', ⟨Nat.le_refl _⟩, ⟨K_ BK102⟩, ⟨bl_⟩⟩
     clear H'
     (try clear c1); (try clear p1); (try clear q1); (try clear hx1); (try clear p2); (try clear c6); (try clear c6b0); (try clear c7); (try clear c7b0); (try clear c9); (try clear c9b0); (try clear c10); (try clear p10); (try clear q10); (try clear hx10); (try clear c11); (try clear c11b0); (try clear c12); (try clear c12b0); (try clear c14); (try clear c15); (try clear c15b0); (try clear c16); (try clear c16b0); (try clear hcz10_0); (try clear hcz10_1); (try clear hcz10_2); (try clear hcz10_3); (try clear hcz10_4); (try clear hcz10_5); (try clear hcz13_0); (try clear hcz13_1); (try clear hcz13_2); (try clear hcz13_3); (try clear hcz13_4); (try clear hcz13_5); (try clear hcz17_0); (try clear hcz17_1); (try clear hcz17_2); (try clear hcz17_3)
     (try clear hcz17_4); (try clear hcz17_5); (try clear hcz8_0); (try clear hcz8_1); (try clear hcz8_2); (try clear hcz8_3); (try clear hcz8_4); (try clear hcz8_5); (try clear hfz10_0); (try clear hfz10_1); (try clear hfz10_2); (try clear hfz10_3); (try clear hfz10_4); (try clear hfz10_5); (try clear hfz13_0); (try clear hfz13_1); (try clear hfz13_2); (try clear hfz13_3); (try clear hfz13_4); (try clear hfz13_5); (try clear hfz17_0); (try clear hfz17_1); (try clear hfz17_2); (try clear hfz17_3); (try clear hfz17_4); (try clear hfz17_5); (try clear hfz8_0); (try clear hfz8_1); (try clear hfz8_2); (try clear hfz8_3); (try clear hfz8_4); (try clear hfz8_5); (try clear hx103_0); (try clear hx103_1); (try clear hx103_2); (try clear hx103_3); (try clear hx103_4); (try clear hx104_0); (try clear hx104_1); (try clear hx104_2)
     (try clear hx104_3); (try clear hx104_4); (try clear hx104_5); (try clear hx104_6); (try clear hx104_7); (try clear hx104_8); (try clear p1); (try clear p10); (try clear p103); (try clear p104); (try clear p2); (try clear q1); (try clear q10); (try clear q103); (try clear q104)
     obtain ⟨x7_2, x41_2, rfl, rfl, HA, HK2, BK102, HB⟩ := hrel
     cases gk with
     | zero => exact absurd HA.out (by simp [cycles_Self.l0])
     | succ k2 => ?_
     have H := HA.out
     clear HA
     simp only [cycles_Self.l0] at H
     by_cases c18 : x41_2 < (((rd_T66 l0_5 a2).f2.f2).length : Int)
     · rw [if_pos c18] at H
       have c18b0 : decide (x41_2 < (((rd_T66 l0_5 a2).f2.f2).length : Int)) = true := decide_eq_true c18
       clear c18
       by_cases c19 : 0 ≤ x41_2
       · rw [if_pos c19] at H
         have c19b0 : decide (0 ≤ x41_2) = true := decide_eq_true c19
         clear c19
         by_cases c20 : x41_2 < (((rd_T66 l0_5 a2).f2.f2).length : Int)
         · rw [if_pos c20] at H
           have c20b0 : decide (x41_2 < (((rd_T66 l0_5 a2).f2.f2).length : Int)) = true := decide_eq_true c20
           clear c20
           by_cases c21 : ((rd_T71 ((rd_T66 l0_5 a2).f2.f2) x41_2).f0) = a2
           · rw [if_pos c21] at H
             have c21b0 : (((rd_T71 ((rd_T66 l0_5 a2).f2.f2) x41_2).f0) == a2) = true := beq_iff_eq.mpr c21
             have c21b1 : (((rd_T71 ((rd_T66 l0_5 a2).f2.f2) x41_2).f0) != a2) = false := bne_eq_false_iff_eq.mpr c21
             clear c21
             by_cases c22 : x7_2 ≥ 0
             · rw [if_pos c22] at H
               have c22b0 : decide (0 ≤ x7_2) = true := decide_eq_true c22
               clear c22
               obtain rfl := Option.some.inj H
               have p105 : 0 ≤ (x41_2 : Int) := of_decide_eq_true (by first | (with_reducible assumption) | assumption)
               have q105 : x41_2 < (((rd_T66 l0_5 a2).f2.f2).length : Int) := of_decide_eq_true (by first | (with_reducible assumption) | assumption)
               obtain ⟨ad105, A105_1, c105_1, e105, hx105_0, hx105_1, hl105_1, hi105_1⟩ := at_T71 HR104_4.out x41_2 p105 q105
               cases e105
               replace hx105_0 := hc_ HB hx105_0
               replace hx105_1 := hc_ HB hx105_1
               have HR105_1 := Aside0.mk hi105_1
               have HC105_1 := Aside0.mk hl105_1
               clear hi105_1 hl105_1
               replace p105 := eq_true p105
               replace q105 := eq_true q105
               go_wp2_with (first | ((with_reducible refine gate_dst (N := 9) rfl ?_); (try (refine gate_guard (by rfl) ?_; dsimp only)); refine box_event ?hg (N := 9) ?hd (cs := #[.int .i64 0, .slice none 0 0]) (t := 71) ?hr ?_; (case hd => rfl); (case hg => rfl); (case hr => first | (go_simp; done) | (go_simp; rfl)); intro gb106 hg w23 hbox hb; have n0_ := Aside0.mk (blk_below (K_ BK102) hb); have n1_ := Aside0.mk (below_step bl_ hb); have n2_ := Aside0.mk (hbox); have n3_ := Aside0.mk (gl_ (w := w) hg); have n4_ := Aside0.mk (gl_ (w := w) hg); have n5_ := Aside0.mk (nl_ hg (K_ BK102)); have n6_ := Aside0.mk (ng_ hg (K_ BK102)); clear BK102; clear HB; have BK102 := n0_; have HB := n1_; have BK106 := n2_; have GW106 := n3_; have GE106 := n4_; have NB102_106 := n5_; have NB106_102 := n6_; clear n0_ n1_ n2_ n3_ n4_ n5_ n6_; clear hb hbox hg; have hnb24 := NB106_102.out; have hnc24 := NB102_106.out; obtain ⟨hcz25_0, hcz25_1⟩ := cells2 BK106; obtain ⟨hfz25_0, hfz25_1⟩ := fz2 BK106))
               go_ret
               exact ⟨by first | rfl | (simp [errW_none, errW_some] <;> rfl) | (simp [*, errW_none, errW_some] <;> rfl), by repeat (first | (with_reducible first | exact HB.out | apply below_alloc | apply pw_below_drewN | apply below_drew1 | refine below_set ?_ GE102.out | refine below_set ?_ GE106.out) | exact HB.out)⟩
             rw [if_neg c22] at H
             have c22b0 : decide (0 ≤ x7_2) = false := decide_eq_false c22
             clear c22
             have H' := Aside0.mk H
             clear H
             have p105 : 0 ≤ (x41_2 : Int) := of_decide_eq_true (by first | (with_reducible assumption) | assumption)
             have q105 : x41_2 < (((rd_T66 l0_5 a2).f2.f2).length : Int) := of_decide_eq_true (by first | (with_reducible assumption) | assumption)
             obtain ⟨ad105, A105_1, c105_1, e105, hx105_0, hx105_1, hl105_1, hi105_1⟩ := at_T71 HR104_4.out x41_2 p105 q105
             cases e105
             replace hx105_0 := hc_ HB hx105_0
             replace hx105_1 := hc_ HB hx105_1
             have HR105_1 := Aside0.mk hi105_1
             have HC105_1 := Aside0.mk hl105_1
             clear hi105_1 hl105_1
             replace p105 := eq_true p105
             replace q105 := eq_true q105
             go_wp2_with (first | ((with_reducible refine gate_dst (N := 9) rfl ?_); (try (refine gate_guard (by rfl) ?_; dsimp only)); refine box_event ?hg (N := 9) ?hd (cs := #[.int .i64 0, .slice none 0 0]) (t := 71) ?hr ?_; (case hd => rfl); (case hg => rfl); (case hr => first | (go_simp; done) | (go_simp; rfl)); intro gb106 hg w26 hbox hb; have n0_ := Aside0.mk (blk_below (K_ BK102) hb); have n1_ := Aside0.mk (below_step bl_ hb); have n2_ := Aside0.mk (hbox); have n3_ := Aside0.mk (gl_ (w := w) hg); have n4_ := Aside0.mk (gl_ (w := w) hg); have n5_ := Aside0.mk (nl_ hg (K_ BK102)); have n6_ := Aside0.mk (ng_ hg (K_ BK102)); clear BK102; clear HB; have BK102 := n0_; have HB := n1_; have BK106 := n2_; have GW106 := n3_; have GE106 := n4_; have NB102_106 := n5_; have NB106_102 := n6_; clear n0_ n1_ n2_ n3_ n4_ n5_ n6_; clear hb hbox hg; have hnb27 := NB106_102.out; have hnc27 := NB102_106.out; obtain ⟨hcz28_0, hcz28_1⟩ := cells2 BK106; obtain ⟨hfz28_0, hfz28_1⟩ := fz2 BK106))
             go_roundg k2
             case measure => have := HJ3.out; have := HK2.out; omega
             case rel => exact ⟨(x41_2), (wrap64 (x41_2 + 1)), (by first | rfl | (simp; done) | (simp [*]; done)), (by first | rfl | (simp; done) | (simp [*]; done)), H', ⟨by have := HJ3.out; have := HK2.out; omega⟩, ⟨by (with_reducible repeat (first | refine blk_drewN ?_ _ | refine blk_drew ?_ | refine blk_alloc ?_ _)); refine blk_far ?_ NB102_106.out _; (with_reducible repeat (first | refine blk_drewN ?_ _ | refine blk_drew ?_ | refine blk_alloc ?_ _)); refine blk_far ?_ NB102_106.out _; (with_reducible repeat (first | refine blk_drewN ?_ _ | refine blk_drew ?_ | refine blk_alloc ?_ _)); exact BK102.out⟩, ⟨bl_⟩⟩
           rw [if_neg c21] at H
           have c21b0 : (((rd_T71 ((rd_T66 l0_5 a2).f2.f2) x41_2).f0) == a2) = false := beq_eq_false_iff_ne.mpr c21
           have c21b1 : (((rd_T71 ((rd_T66 l0_5 a2).f2.f2) x41_2).f0) != a2) = true := bne_iff_ne.mpr c21
           have H' := Aside0.mk H
           clear H
           have p105 : 0 ≤ (x41_2 : Int) := of_decide_eq_true (by first | (with_reducible assumption) | assumption)
           have q105 : x41_2 < (((rd_T66 l0_5 a2).f2.f2).length : Int) := of_decide_eq_true (by first | (with_reducible assumption) | assumption)
           obtain ⟨ad105, A105_1, c105_1, e105, hx105_0, hx105_1, hl105_1, hi105_1⟩ := at_T71 HR104_4.out x41_2 p105 q105
           cases e105
           replace hx105_0 := hc_ HB hx105_0
           replace hx105_1 := hc_ HB hx105_1
           have HR105_1 := Aside0.mk hi105_1
           have HC105_1 := Aside0.mk hl105_1
           clear hi105_1 hl105_1
           replace p105 := eq_true p105
           replace q105 := eq_true q105
           go_wp2_with (first | ((with_reducible refine gate_dst (N := 9) rfl ?_); (try (refine gate_guard (by rfl) ?_; dsimp only)); refine box_event ?hg (N := 9) ?hd (cs := #[.int .i64 0, .slice none 0 0]) (t := 71) ?hr ?_; (case hd => rfl); (case hg => rfl); (case hr => first | (go_simp; done) | (go_simp; rfl)); intro gb106 hg w29 hbox hb; have n0_ := Aside0.mk (blk_below (K_ BK102) hb); have n1_ := Aside0.mk (below_step bl_ hb); have n2_ := Aside0.mk (hbox); have n3_ := Aside0.mk (gl_ (w := w) hg); have n4_ := Aside0.mk (gl_ (w := w) hg); have n5_ := Aside0.mk (nl_ hg (K_ BK102)); have n6_ := Aside0.mk (ng_ hg (K_ BK102)); clear BK102; clear HB; have BK102 := n0_; have HB := n1_; have BK106 := n2_; have GW106 := n3_; have GE106 := n4_; have NB102_106 := n5_; have NB106_102 := n6_; clear n0_ n1_ n2_ n3_ n4_ n5_ n6_; clear hb hbox hg; have hnb30 := NB106_102.out; have hnc30 := NB102_106.out; obtain ⟨hcz31_0, hcz31_1⟩ := cells2 BK106; obtain ⟨hfz31_0, hfz31_1⟩ := fz2 BK106))
           go_roundg k2
           case measure => have := HJ3.out; have := HK2.out; omega
           case rel => exact ⟨(x7_2), (wrap64 (x41_2 + 1)), (by first | rfl | (simp; done) | (simp [*]; done)), (by first | rfl | (simp; done) | (simp [*]; done)), H', ⟨by have := HJ3.out; have := HK2.out; omega⟩, ⟨by (with_reducible repeat (first | refine blk_drewN ?_ _ | refine blk_drew ?_ | refine blk_alloc ?_ _)); refine blk_far ?_ NB102_106.out _; (with_reducible repeat (first | refine blk_drewN ?_ _ | refine blk_drew ?_ | refine blk_alloc ?_ _)); refine blk_far ?_ NB102_106.out _; (with_reducible repeat (first | refine blk_drewN ?_ _ | refine blk_drew ?_ | refine blk_alloc ?_ _)); exact BK102.out⟩, ⟨bl_⟩⟩
         rw [if_neg c20] at H
         exact absurd H (by simp)
       rw [if_neg c19] at H
       exact absurd H (by simp)
     rw [if_neg c18] at H
     have c18b0 : decide (x41_2 < (((rd_T66 l0_5 a2).f2.f2).length : Int)) = false := decide_eq_false c18
     clear c18
     obtain rfl := Option.some.inj H
     go_wp2
     go_ret
     exact ⟨by first | rfl | (simp [errW_none, errW_some] <;> rfl) | (simp [*, errW_none, errW_some] <;> rfl), by repeat (first | (with_reducible first | exact HB.out | apply below_alloc | apply pw_below_drewN | apply below_drew1 | refine below_set ?_ GE102.out) | exact HB.out)⟩
   rw [if_neg c16] at H
   exact absurd H (by simp)
 rw [if_neg c15] at H
 exact absurd H (by simp)
end Go.Proofs.Ytmefaegcoogmiaa.PAll
