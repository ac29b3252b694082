-- Written for this claim by programs of this session (wip/print2 in its repo: a changed printer, a shortener, a packer). Lean checks it.
import Derived.Test.YtmefaegcoogmiaaP0
import Derived.Test.YtmefaegcoogmiaaF31
namespace Go.Proofs.Ytmefaegcoogmiaa.PAll
open Go.RowKit Go.Proofs.YtmefaegcoogmiaaW.PrintWords Go.Proofs.YtmefaegcoogmiaaW.PrintLast Go.Proofs.YtmefaegcoogmiaaW.PrintMore
attribute [local go_sem] max2_int min2_int max_two min_two max_three min_three max_four min_four   -- for this text's walks alone
set_option linter.unusedVariables false
set_option linter.unusedSimpArgs false

/-! ### jacquardref36_Path: function 24 -/
mutual
def jacquardref36_Path.j0 : Nat → List Int → Bool → ByteArray → List Int → List (S75) → List (S77) → List Int → List (S66) → Option (Bool)
  | 0, _, _, _, _, _, _, _, _ => none
  | k + 1, x2, x30, x339000, x339001, x339002, x339003, x339004, x339005 => if x30 = true then (some false) else (jacquardref36_Path.l0 k x2 1 x339000 x339001 x339002 x339003 x339004 x339005)
def jacquardref36_Path.l0 : Nat → List Int → Int → ByteArray → List Int → List (S75) → List (S77) → List Int → List (S66) → Option (Bool)
  | 0, _, _, _, _, _, _, _, _ => none
  | k + 1, x2, x7, x339000, x339001, x339002, x339003, x339004, x339005 => if x7 < (x2.length : Int) then (if 0 ≤ (wrap64 (x7 - 1)) then (if (wrap64 (x7 - 1)) < (x2.length : Int) then (if 0 ≤ x7 then ((jacquardref36_Step.f k x339000 x339001 x339002 x339003 x339004 x339005 (rd x2 (wrap64 (x7 - 1))) (rd x2 x7)).bind fun t342 => (if t342 = true then (jacquardref36_Path.l0 k x2 (wrap64 (x7 + 1)) x339000 x339001 x339002 x339003 x339004 x339005) else (some false))) else (none)) else (none)) else (none)) else (some true)
end
def jacquardref36_Path.f (k : Nat) (a0_0 : ByteArray) (l0_1 : List Int) (l0_2 : List (S75)) (l0_3 : List (S77)) (l0_4 : List Int) (l0_5 : List (S66)) (l1 : List (S49)) (l2 : List Int) : Option (Bool) := if (l1.length : Int) = (l0_5.length : Int) then (if (l2.length : Int) = 0 then (jacquardref36_Path.j0 k l2 true a0_0 l0_1 l0_2 l0_3 l0_4 l0_5) else (if 0 < (l2.length : Int) then (if (rd l2 0) = 0 then (jacquardref36_Path.j0 k l2 ((l0_5.length : Int) == 0) a0_0 l0_1 l0_2 l0_3 l0_4 l0_5) else (jacquardref36_Path.j0 k l2 true a0_0 l0_1 l0_2 l0_3 l0_4 l0_5)) else (none))) else (jacquardref36_Path.j0 k l2 true a0_0 l0_1 l0_2 l0_3 l0_4 l0_5)
theorem jacquardref36_Path.mono_l : ∀ k, (∀ y0 y1 y2 y3 y4 y5 y6 y7, LeO (jacquardref36_Path.j0 k y0 y1 y2 y3 y4 y5 y6 y7) (jacquardref36_Path.j0 (k + 1) y0 y1 y2 y3 y4 y5 y6 y7)) ∧ (∀ y0 y1 y2 y3 y4 y5 y6 y7, LeO (jacquardref36_Path.l0 k y0 y1 y2 y3 y4 y5 y6 y7) (jacquardref36_Path.l0 (k + 1) y0 y1 y2 y3 y4 y5 y6 y7))
  | 0 => ⟨fun _ _ _ _ _ _ _ _ r h => by simp [jacquardref36_Path.j0] at h, fun _ _ _ _ _ _ _ _ r h => by simp [jacquardref36_Path.l0] at h⟩
  | k + 1 => by
    obtain ⟨ih0, ih1⟩ := jacquardref36_Path.mono_l k
    refine ⟨?_, ?_⟩
    · intro y0 y1 y2 y3 y4 y5 y6 y7
      unfold jacquardref36_Path.j0
      repeat' first
      | (with_reducible exact ih0 _ _ _ _ _ _ _ _)
      | (with_reducible exact ih1 _ _ _ _ _ _ _ _)
      | (with_reducible exact jacquardref36_Step.mono _ _ _ _ _ _ _ _ _)
      | (with_reducible exact LeO.refl _)
      | (with_reducible exact LeO.none _)
      | (with_reducible refine LeO.ite ?_ ?_)
      | (with_reducible refine LeO.bind ?_ (fun _ => ?_))
      | exact ih0 _ _ _ _ _ _ _ _
      | exact ih1 _ _ _ _ _ _ _ _
      | exact jacquardref36_Step.mono _ _ _ _ _ _ _ _ _
      | exact LeO.none _
      | refine LeO.ite ?_ ?_
      | refine LeO.bind ?_ (fun _ => ?_)
    · intro y0 y1 y2 y3 y4 y5 y6 y7
      unfold jacquardref36_Path.l0
      repeat' first
      | (with_reducible exact ih0 _ _ _ _ _ _ _ _)
      | (with_reducible exact ih1 _ _ _ _ _ _ _ _)
      | (with_reducible exact jacquardref36_Step.mono _ _ _ _ _ _ _ _ _)
      | (with_reducible exact LeO.refl _)
      | (with_reducible exact LeO.none _)
      | (with_reducible refine LeO.ite ?_ ?_)
      | (with_reducible refine LeO.bind ?_ (fun _ => ?_))
      | exact ih0 _ _ _ _ _ _ _ _
      | exact ih1 _ _ _ _ _ _ _ _
      | exact jacquardref36_Step.mono _ _ _ _ _ _ _ _ _
      | exact LeO.none _
      | refine LeO.ite ?_ ?_
      | refine LeO.bind ?_ (fun _ => ?_)
theorem jacquardref36_Path.mono : ∀ a0 a1 a2 a3 a4 a5 a6 a7 k, LeO (jacquardref36_Path.f k a0 a1 a2 a3 a4 a5 a6 a7) (jacquardref36_Path.f (k + 1) a0 a1 a2 a3 a4 a5 a6 a7) := by
 intro a0 a1 a2 a3 a4 a5 a6 a7 k
 obtain ⟨ih0, ih1⟩ := jacquardref36_Path.mono_l k
 unfold jacquardref36_Path.f
 repeat' first
     | (with_reducible exact ih0 _ _ _ _ _ _ _ _)
     | (with_reducible exact ih1 _ _ _ _ _ _ _ _)
     | (with_reducible exact jacquardref36_Step.mono _ _ _ _ _ _ _ _ _)
     | (with_reducible exact LeO.refl _)
     | (with_reducible exact LeO.none _)
     | (with_reducible refine LeO.ite ?_ ?_)
     | (with_reducible refine LeO.bind ?_ (fun _ => ?_))
     | exact ih0 _ _ _ _ _ _ _ _
     | exact ih1 _ _ _ _ _ _ _ _
     | exact jacquardref36_Step.mono _ _ _ _ _ _ _ _ _
     | exact LeO.none _
     | refine LeO.ite ?_ ?_
     | refine LeO.bind ?_ (fun _ => ?_)
def jacquardref36_Path.T6 : Bool × List (List Nat × List Nat) := (true, [([], []), ([], []), ([], []), ([2], [2]), ([1, 3], [1, 3]), ([4], [4]), ([], []), ([], []), ([6, 7], [6, 7]), ([8], [8]), ([0, 5, 9], [0, 5, 9]), ([10], [10])])
def jacquardref36_Path.B6 : List Nat := [0, 0, 0, 4, 14, 30, 0, 0, 192, 448, 1023, 2047]
theorem jacquardref36_Path.tab6 : rtab .any (opsOf Try.f24 6) = jacquardref36_Path.T6 := by kernel_rfl
theorem jacquardref36_Path.bits6 : waitsOk jacquardref36_Path.T6.2 jacquardref36_Path.B6 = true := by kernel_rfl
set_option maxHeartbeats 8000000 in
set_option maxRecDepth 100000 in
theorem jacquardref36_Path.calls (k : Nat) (a0_0 : ByteArray) (A0_1 : Option Addr) (c0_1 : Nat) (l0_1 : List Int) (A0_2 : Option Addr) (c0_2 : Nat) (l0_2 : List (S75)) (A0_3 : Option Addr) (c0_3 : Nat) (l0_3 : List (S77)) (A0_4 : Option Addr) (c0_4 : Nat) (l0_4 : List Int) (A0_5 : Option Addr) (c0_5 : Nat) (l0_5 : List (S66)) (A1 : Option Addr) (c1 : Nat) (l1 : List (S49)) (A2 : Option Addr) (c2 : Nat) (l2 : List Int) (r : Bool) (w : World) (hr0_1 : Kd.C (Kd.int .i64) w A0_1 l0_1.length l0_1) (hc0_1 : l0_1.length ≤ c0_1) (hr0_2 : Kd.C k75 w A0_2 l0_2.length l0_2) (hc0_2 : l0_2.length ≤ c0_2) (hr0_3 : Kd.C k77 w A0_3 l0_3.length l0_3) (hc0_3 : l0_3.length ≤ c0_3) (hr0_4 : Kd.C (Kd.int .i64) w A0_4 l0_4.length l0_4) (hc0_4 : l0_4.length ≤ c0_4) (hr0_5 : Kd.C k66 w A0_5 l0_5.length l0_5) (hc0_5 : l0_5.length ≤ c0_5) (hr1 : Kd.C k49 w A1 l1.length l1) (hc1 : l1.length ≤ c1) (hr2 : Kd.C (Kd.int .i64) w A2 l2.length l2) (hc2 : l2.length ≤ c2) (h : jacquardref36_Path.f k a0_0 l0_1 l0_2 l0_3 l0_4 l0_5 l1 l2 = some r) :
    Calls Try.prog 24 #[.agg #[.string a0_0, .slice A0_1 l0_1.length c0_1, .slice A0_2 l0_2.length c0_2, .slice A0_3 l0_3.length c0_3, .slice A0_4 l0_4.length c0_4, .slice A0_5 l0_5.length c0_5], .slice A1 l1.length c1, .slice A2 l2.length c2] w fun e w' => e = .returned (.bool r) ∧ Below w.heap.size w w' := by
 have hu27 := Try.underlying27
 have HR0_1 := Aside0.mk hr0_1
 have HC0_1 := Aside0.mk hc0_1
 clear hr0_1 hc0_1
 have HR0_2 := Aside0.mk hr0_2
 have HC0_2 := Aside0.mk hc0_2
 clear hr0_2 hc0_2
 have HR0_3 := Aside0.mk hr0_3
 have HC0_3 := Aside0.mk hc0_3
 clear hr0_3 hc0_3
 have HR0_4 := Aside0.mk hr0_4
 have HC0_4 := Aside0.mk hc0_4
 clear hr0_4 hc0_4
 have HR0_5 := Aside0.mk hr0_5
 have HC0_5 := Aside0.mk hc0_5
 clear hr0_5 hc0_5
 have HR1 := Aside0.mk hr1
 have HC1 := Aside0.mk hc1
 clear hr1 hc1
 have HR2 := Aside0.mk hr2
 have HC2 := Aside0.mk hc2
 clear hr2 hc2
 have HB := Aside0.mk (Below.refl w.heap.size w)
 have H : (if (l1.length : Int) = (l0_5.length : Int) then (if (l2.length : Int) = 0 then (jacquardref36_Path.j0 k l2 true a0_0 l0_1 l0_2 l0_3 l0_4 l0_5) else (if 0 < (l2.length : Int) then (if (rd l2 0) = 0 then (jacquardref36_Path.j0 k l2 ((l0_5.length : Int) == 0) a0_0 l0_1 l0_2 l0_3 l0_4 l0_5) else (jacquardref36_Path.j0 k l2 true a0_0 l0_1 l0_2 l0_3 l0_4 l0_5)) else (none))) else (jacquardref36_Path.j0 k l2 true a0_0 l0_1 l0_2 l0_3 l0_4 l0_5)) = some r := h
 clear h
 have HC4 := Aside0.mk H
 clear H
 go_enter Try.func24, Try.ntmps24
 go_upto_region 1 with (first | ((with_reducible refine gate_dst (N := 3) rfl ?_); (try (refine gate_guard (by rfl) ?_; dsimp only)); refine box_event ?hg (N := 3) ?hd (cs := #[.string a0_0, .slice A0_1 l0_1.length c0_1, .slice A0_2 l0_2.length c0_2, .slice A0_3 l0_3.length c0_3, .slice A0_4 l0_4.length c0_4, .slice A0_5 l0_5.length c0_5]) (t := 27) ?hr ?_; (case hd => rfl); (case hg => rfl); (case hr => first | (go_simp; done) | (go_simp; rfl)); intro gb338 hg w5 hbox hb; have n0_ := Aside0.mk (below_step bl_ hb); have n1_ := Aside0.mk (hbox); have n2_ := Aside0.mk (gl_ (w := w) hg); have n3_ := Aside0.mk (gl_ (w := w) hg); clear HB; have HB := n0_; have BK338 := n1_; have GW338 := n2_; have GE338 := n3_; clear n0_ n1_ n2_ n3_; clear hb hbox hg))
 (try simp only [Act.put, List.setIfInBounds_toArray, List.set_cons_zero, List.set_cons_succ])
 go_cut [30] (fun v30 wc => ∃ (kq : Nat) (x30_3 : Bool), v30 = .bool x30_3 ∧ Aside0 (jacquardref36_Path.j0 kq l2 x30_3 a0_0 l0_1 l0_2 l0_3 l0_4 l0_5 = some r) ∧ Aside0 (kq ≤ k) ∧ Aside0 (wc.heap[gb338]? = some (.cells #[.string a0_0, (.slice A0_1 l0_1.length c0_1), (.slice A0_2 l0_2.length c0_2), (.slice A0_3 l0_3.length c0_3), (.slice A0_4 l0_4.length c0_4), (.slice A0_5 l0_5.length c0_5)] 27 (0, 0))) ∧ Aside0 (Below w.heap.size w wc))
 case first =>
  have H := HC4.out
  clear HC4
  by_cases c6 : (l1.length : Int) = (l0_5.length : Int)
  · rw [if_pos c6] at H
    have c6b0 : ((l1.length : Int) == (l0_5.length : Int)) = true := beq_iff_eq.mpr c6
    have c6b1 : ((l1.length : Int) != (l0_5.length : Int)) = false := bne_eq_false_iff_eq.mpr c6
    have c6b2 : (l1.length == l0_5.length) = true := by first | simpa using c6 | (simp at c6 ⊢; omega)
    clear c6
    (first | rw [c6b0] | (simp only [i64_w, i32_w]; rw [c6b0]) | skip)
    by_cases c7 : (l2.length : Int) = 0
    · rw [if_pos c7] at H
      have c7b0 : ((l2.length : Int) == 0) = true := beq_iff_eq.mpr c7
      have c7b1 : ((l2.length : Int) != 0) = false := bne_eq_false_iff_eq.mpr c7
      clear c7
      have H' := Aside0.mk H
      clear H
      obtain ⟨hcz8_0, hcz8_1, hcz8_2, hcz8_3, hcz8_4, hcz8_5⟩ := cells6 BK338
      obtain ⟨hfz8_0, hfz8_1, hfz8_2, hfz8_3, hfz8_4, hfz8_5⟩ := fz6 BK338
      go_wp2
      go_meet
      case rel => exact ⟨_, (true), (by first | rfl | (simp; done) | (simp [*]; done)), H', ⟨by first | omega | exact Nat.le_refl _⟩, ⟨K_ BK338⟩, ⟨bl_⟩⟩
    rw [if_neg c7] at H
    have c7b0 : ((l2.length : Int) == 0) = false := beq_eq_false_iff_ne.mpr c7
    have c7b1 : ((l2.length : Int) != 0) = true := bne_iff_ne.mpr c7
    have c7b2 : ¬ (l2 = []) := fun h_ => c7 (by rw [h_]; rfl)
    by_cases c9 : 0 < (l2.length : Int)
    · rw [if_pos c9] at H
      have c9b0 : decide (0 < (l2.length : Int)) = true := decide_eq_true c9
      have c9b1 : decide (0 < l2.length) = true := decide_eq_true (by omega)
      clear c9
      by_cases c10 : (rd l2 0) = 0
      · rw [if_pos c10] at H
        have c10b0 : ((rd l2 0) == 0) = true := beq_iff_eq.mpr c10
        have c10b1 : ((rd l2 0) != 0) = false := bne_eq_false_iff_eq.mpr c10
        clear c10
        have H' := Aside0.mk H
        clear H
        obtain ⟨hcz11_0, hcz11_1, hcz11_2, hcz11_3, hcz11_4, hcz11_5⟩ := cells6 BK338
        obtain ⟨hfz11_0, hfz11_1, hfz11_2, hfz11_3, hfz11_4, hfz11_5⟩ := fz6 BK338
        have p339 : 0 ≤ (0 : Int) := (by omega)
        have q339 : 0 < (l2.length : Int) := of_decide_eq_true (by first | (with_reducible assumption) | assumption)
        obtain ⟨ad339, e339, hx339_0⟩ := Kd.at_int HR2.out 0 p339 q339
        cases e339
        have qi339 : (0 < l2.length) = True := eq_true (by omega)
        (try rw [show ((0 : Int)).toNat = 0 from rfl] at hx339_0)
        (try rw [Addr.add_zero'] at hx339_0)
        replace hx339_0 := hc_ HB hx339_0
        replace p339 := eq_true p339
        replace q339 := eq_true q339
        go_wp2
        go_meet
        case rel => exact ⟨_, (((l0_5.length : Int) == 0)), (by first | rfl | (simp; done) | (simp [*]; done)), H', ⟨by first | omega | exact Nat.le_refl _⟩, ⟨K_ BK338⟩, ⟨bl_⟩⟩
      rw [if_neg c10] at H
      have c10b0 : ((rd l2 0) == 0) = false := beq_eq_false_iff_ne.mpr c10
      have c10b1 : ((rd l2 0) != 0) = true := bne_iff_ne.mpr c10
      have H' := Aside0.mk H
      clear H
      obtain ⟨hcz12_0, hcz12_1, hcz12_2, hcz12_3, hcz12_4, hcz12_5⟩ := cells6 BK338
      obtain ⟨hfz12_0, hfz12_1, hfz12_2, hfz12_3, hfz12_4, hfz12_5⟩ := fz6 BK338
      have p339 : 0 ≤ (0 : Int) := (by omega)
      have q339 : 0 < (l2.length : Int) := of_decide_eq_true (by first | (with_reducible assumption) | assumption)
      obtain ⟨ad339, e339, hx339_0⟩ := Kd.at_int HR2.out 0 p339 q339
      cases e339
      have qi339 : (0 < l2.length) = True := eq_true (by omega)
      (try rw [show ((0 : Int)).toNat = 0 from rfl] at hx339_0)
      (try rw [Addr.add_zero'] at hx339_0)
      replace hx339_0 := hc_ HB hx339_0
      replace p339 := eq_true p339
      replace q339 := eq_true q339
      go_wp2
      go_meet
      case rel => exact ⟨_, (true), (by first | rfl | (simp; done) | (simp [*]; done)), H', ⟨by first | omega | exact Nat.le_refl _⟩, ⟨K_ BK338⟩, ⟨bl_⟩⟩
    rw [if_neg c9] at H
    exact absurd H (by simp)
  rw [if_neg c6] at H
  have c6b0 : ((l1.length : Int) == (l0_5.length : Int)) = false := beq_eq_false_iff_ne.mpr c6
  have c6b1 : ((l1.length : Int) != (l0_5.length : Int)) = true := bne_iff_ne.mpr c6
  have c6b2 : (l1.length == l0_5.length) = false := by first | simpa using c6 | (simp at c6 ⊢; omega)
  (first | rw [c6b0] | (simp only [i64_w, i32_w]; rw [c6b0]) | skip)
  have H' := Aside0.mk H
  clear H
  obtain ⟨hcz13_0, hcz13_1, hcz13_2, hcz13_3, hcz13_4, hcz13_5⟩ := cells6 BK338
  obtain ⟨hfz13_0, hfz13_1, hfz13_2, hfz13_3, hfz13_4, hfz13_5⟩ := fz6 BK338
  go_wp2
  go_meet
  case rel => exact ⟨_, (true), (by first | rfl | (simp; done) | (simp [*]; done)), H', ⟨by first | omega | exact Nat.le_refl _⟩, ⟨K_ BK338⟩, ⟨bl_⟩⟩
 clear HC4
 (try clear c1); (try clear c2); (try clear p2); (try clear p3); (try clear q3); (try clear hx3); (try clear qi3); (try clear c6); (try clear c6b0); (try clear c6b1); (try clear c6b2); (try clear c7); (try clear c7b0); (try clear c7b1); (try clear c7b2); (try clear c9); (try clear c9b0); (try clear c9b1); (try clear c10); (try clear c10b0); (try clear c10b1); (try clear hcz11_0); (try clear hcz11_1); (try clear hcz11_2); (try clear hcz11_3); (try clear hcz11_4); (try clear hcz11_5); (try clear hcz12_0); (try clear hcz12_1); (try clear hcz12_2); (try clear hcz12_3); (try clear hcz12_4); (try clear hcz12_5); (try clear hcz13_0); (try clear hcz13_1); (try clear hcz13_2); (try clear hcz13_3); (try clear hcz13_4); (try clear hcz13_5); (try clear hcz8_0)
 (try clear hcz8_1); (try clear hcz8_2); (try clear hcz8_3); (try clear hcz8_4); (try clear hcz8_5); (try clear hfz11_0); (try clear hfz11_1); (try clear hfz11_2); (try clear hfz11_3); (try clear hfz11_4); (try clear hfz11_5); (try clear hfz12_0); (try clear hfz12_1); (try clear hfz12_2); (try clear hfz12_3); (try clear hfz12_4); (try clear hfz12_5); (try clear hfz13_0); (try clear hfz13_1); (try clear hfz13_2); (try clear hfz13_3); (try clear hfz13_4); (try clear hfz13_5); (try clear hfz8_0); (try clear hfz8_1); (try clear hfz8_2); (try clear hfz8_3); (try clear hfz8_4); (try clear hfz8_5); (try clear hx339_0); (try clear p339); (try clear q339)
 obtain ⟨kq, x30_3, rfl, HA, HJ3, BK338, HB⟩ := hcut
 cases kq with
 | zero => exact absurd HA.out (by simp [jacquardref36_Path.j0])
 | succ kj3 => ?_
 have H := HA.out
 clear HA
 simp only [jacquardref36_Path.j0] at H
 by_cases c14 : x30_3 = true
 · subst c14
   have H1 : (some false) = some r := by rw [if_pos rfl] at H; exact H
   clear H
   have H := H1
   clear H1
   obtain rfl := Option.some.inj H
   go_wp2
   go_ret
   exact ⟨by first | rfl | (simp [errW_none, errW_some] <;> rfl) | (simp [*, errW_none, errW_some] <;> rfl), by repeat (first | (with_reducible first | exact HB.out | apply below_alloc | apply pw_below_drewN | apply below_drew1 | refine below_set ?_ GE338.out) | exact HB.out)⟩
 replace c14 := Bool.eq_false_iff.mpr c14
 subst c14
 have H1 : (jacquardref36_Path.l0 kj3 l2 1 a0_0 l0_1 l0_2 l0_3 l0_4 l0_5) = some r := by rw [if_neg (show ¬ (false = true) by decide)] at H; exact H
 clear H
 have H := H1
 clear H1
 have H' := Aside0.mk H
 clear H
 go_wp2
 go_loopg [7] kj3 (fun kq v7 w' => ∃ (x7_2 : Int), v7 = .int .i64 x7_2 ∧ Aside0 (jacquardref36_Path.l0 kq l2 x7_2 a0_0 l0_1 l0_2 l0_3 l0_4 l0_5 = some r) ∧ Aside0 (kq ≤ kj3) ∧ Aside0 (w'.heap[gb338]? = some (.cells #[.string a0_0, (.slice A0_1 l0_1.length c0_1), (.slice A0_2 l0_2.length c0_2), (.slice A0_3 l0_3.length c0_3), (.slice A0_4 l0_4.length c0_4), (.slice A0_5 l0_5.length c0_5)] 27 (0, 0))) ∧ Aside0 (Below w.heap.size w w'))
 case atStart => exact ⟨(1), (by first | rfl | (simp; done) | (simp [*]; done)), H', ⟨Nat.le_refl _⟩, ⟨K_ BK338⟩, ⟨bl_⟩⟩
 clear H'
 (try clear c1); (try clear c2); (try clear p2); (try clear p3); (try clear q3); (try clear hx3); (try clear qi3); (try clear c6); (try clear c6b0); (try clear c6b1); (try clear c6b2); (try clear c7); (try clear c7b0); (try clear c7b1); (try clear c7b2); (try clear c9); (try clear c9b0); (try clear c9b1); (try clear c10); (try clear c10b0); (try clear c10b1); (try clear c14); (try clear hcz11_0); (try clear hcz11_1); (try clear hcz11_2); (try clear hcz11_3); (try clear hcz11_4); (try clear hcz11_5); (try clear hcz12_0); (try clear hcz12_1); (try clear hcz12_2); (try clear hcz12_3); (try clear hcz12_4); (try clear hcz12_5); (try clear hcz13_0); (try clear hcz13_1); (try clear hcz13_2); (try clear hcz13_3); (try clear hcz13_4); (try clear hcz13_5)
 (try clear hcz8_0); (try clear hcz8_1); (try clear hcz8_2); (try clear hcz8_3); (try clear hcz8_4); (try clear hcz8_5); (try clear hfz11_0); (try clear hfz11_1); (try clear hfz11_2); (try clear hfz11_3); (try clear hfz11_4); (try clear hfz11_5); (try clear hfz12_0); (try clear hfz12_1); (try clear hfz12_2); (try clear hfz12_3); (try clear hfz12_4); (try clear hfz12_5); (try clear hfz13_0); (try clear hfz13_1); (try clear hfz13_2); (try clear hfz13_3); (try clear hfz13_4); (try clear hfz13_5); (try clear hfz8_0); (try clear hfz8_1); (try clear hfz8_2); (try clear hfz8_3); (try clear hfz8_4); (try clear hfz8_5); (try clear hx339_0); (try clear p2); (try clear p3); (try clear p339); (try clear q3); (try clear q339)
 obtain ⟨x7_2, rfl, HA, HK2, BK338, HB⟩ := hrel
 cases gk with
 | zero => exact absurd HA.out (by simp [jacquardref36_Path.l0])
 | succ k2 => ?_
 have H := HA.out
 clear HA
 simp only [jacquardref36_Path.l0] at H
 by_cases c15 : x7_2 < (l2.length : Int)
 · rw [if_pos c15] at H
   have c15b0 : decide (x7_2 < (l2.length : Int)) = true := decide_eq_true c15
   clear c15
   obtain ⟨ji16, hji16⟩ : ∃ j_ : Int, (wrap64 (x7_2 - 1)) = j_ := ⟨_, rfl⟩
   replace H : (if 0 ≤ (ji16) then (if (ji16) < (l2.length : Int) then (if 0 ≤ x7_2 then ((jacquardref36_Step.f k2 a0_0 l0_1 l0_2 l0_3 l0_4 l0_5 (rd l2 (ji16)) (rd l2 x7_2)).bind fun t342 => (if t342 = true then (jacquardref36_Path.l0 k2 l2 (wrap64 (x7_2 + 1)) a0_0 l0_1 l0_2 l0_3 l0_4 l0_5) else (some false))) else (none)) else (none)) else (none)) = some r := by first | (rw [hji16] at H; exact H) | (simp only [hji16] at H ⊢; exact H)
   have hji16w : (IntKind.i64.wrap (x7_2 - 1)) = ji16 := (i64_w _).trans hji16
   by_cases c17 : 0 ≤ (ji16)
   · rw [if_pos c17] at H
     have c17b0 : decide (0 ≤ (ji16)) = true := decide_eq_true c17
     clear c17
     by_cases c18 : (ji16) < (l2.length : Int)
     · rw [if_pos c18] at H
       have c18b0 : decide ((ji16) < (l2.length : Int)) = true := decide_eq_true c18
       clear c18
       by_cases c19 : 0 ≤ x7_2
       · rw [if_pos c19] at H
         have c19b0 : decide (0 ≤ x7_2) = true := decide_eq_true c19
         clear c19
         replace H := Option.bind_eq_some_iff.mp H
         obtain ⟨t342, A200, H⟩ := H
         replace H : (if t342 = true then (jacquardref36_Path.l0 k2 l2 (wrap64 (x7_2 + 1)) a0_0 l0_1 l0_2 l0_3 l0_4 l0_5) else (some false)) = some r := H
         have A20 := Aside0.mk A200
         clear A200
         by_cases c21 : t342 = true
         · subst c21
           have H1 : (jacquardref36_Path.l0 k2 l2 (wrap64 (x7_2 + 1)) a0_0 l0_1 l0_2 l0_3 l0_4 l0_5) = some r := by rw [if_pos rfl] at H; exact H
           clear H
           have H := H1
           clear H1
           have H' := Aside0.mk H
           clear H
           try go_wp2
           have n0_ := Aside0.mk (blk_drew BK338.out)
           have n1_ := Aside0.mk (below_drew1 HB.out)
           clear BK338
           clear HB
           have BK338 := n0_
           have HB := n1_
           clear n0_ n1_
           have p340 : 0 ≤ ((ji16) : Int) := of_decide_eq_true (by first | (with_reducible assumption) | assumption)
           have q340 : (ji16) < (l2.length : Int) := of_decide_eq_true (by first | (with_reducible assumption) | assumption)
           obtain ⟨ad340, e340, hx340_0⟩ := Kd.at_int HR2.out (ji16) p340 q340
           have hw340_0 := hx340_0
           cases e340
           replace hx340_0 := hc_ HB hx340_0
           replace p340 := eq_true p340
           replace q340 := eq_true q340
           have p341 : 0 ≤ (x7_2 : Int) := of_decide_eq_true (by first | (with_reducible assumption) | assumption)
           have q341 : x7_2 < (l2.length : Int) := of_decide_eq_true (by first | (with_reducible assumption) | assumption)
           obtain ⟨ad341, e341, hx341_0⟩ := Kd.at_int HR2.out x7_2 p341 q341
           have hw341_0 := hx341_0
           obtain rfl : ad340 = ad341 := (by injection e341)
           replace hx341_0 := hc_ HB hx341_0
           replace p341 := eq_true p341
           replace q341 := eq_true q341
           refine start_ (n := 12) (S := fun w' => w'.cell? ⟨gb338, 0, none⟩ = some (.string a0_0) ∧ w'.cell? ⟨gb338, 1, none⟩ = some (.slice A0_1 l0_1.length c0_1) ∧ w'.cell? ⟨gb338, 2, none⟩ = some (.slice A0_2 l0_2.length c0_2) ∧ w'.cell? ⟨gb338, 3, none⟩ = some (.slice A0_3 l0_3.length c0_3) ∧ w'.cell? ⟨gb338, 4, none⟩ = some (.slice A0_4 l0_4.length c0_4) ∧ w'.cell? ⟨gb338, 5, none⟩ = some (.slice A0_5 l0_5.length c0_5) ∧ w'.cell? (ad340.add ((ji16)).toNat) = some (.int .i64 (rd l2 (ji16))) ∧ w'.cell? (ad340.add (x7_2).toNat) = some (.int .i64 (rd l2 x7_2))) (ds := []) (bz 12 0) (by kernel_rfl) rfl rfl ⟨(blk_cell BK338.out 0).trans rfl, (blk_cell BK338.out 1).trans rfl, (blk_cell BK338.out 2).trans rfl, (blk_cell BK338.out 3).trans rfl, (blk_cell BK338.out 4).trans rfl, (blk_cell BK338.out 5).trans rfl, (hc_ HB hw340_0), (hc_ HB hw341_0)⟩ (fun hHeld => ?_); refine with_tabW jacquardref36_Path.tab6 jacquardref36_Path.bits6 (fun HT_ HW_ => ?_)
           generalize wr.drew = w22 at BK338 HB hx340_0 hx341_0 hHeld ⊢
           refine pu_ 1 38 HT_ ?_
           refine pu_ 2 39 HT_ ?_
           refine pu_ 3 40 HT_ ?_
           refine pu_ 4 41 HT_ ?_
           refine pu_ 6 43 HT_ ?_
           refine pu_ 7 44 HT_ ?_
           refine pu_ 8 45 HT_ ?_
           refine tk_ 0 37 HT_ HW_ hHeld ?_ (hy := by rintro w' ⟨s0, s1, s2, s3, s4, s5, s6, s7⟩; go_simp; with_reducible rfl)
           refine tk_ 5 42 HT_ HW_ hHeld ?_ (hy := by rintro w' ⟨s0, s1, s2, s3, s4, s5, s6, s7⟩; go_simp; with_reducible rfl)
           refine tk_ 9 46 HT_ HW_ hHeld ?_ (hy := by rintro w' ⟨s0, s1, s2, s3, s4, s5, s6, s7⟩; go_simp; with_reducible rfl)
           refine on_ 10 (some 47) HT_ (fun K hK => ?_)
           refine goes_ Try.func31 (by kernel_rfl) rfl #[.agg #[.string a0_0, .slice A0_1 l0_1.length c0_1, .slice A0_2 l0_2.length c0_2, .slice A0_3 l0_3.length c0_3, .slice A0_4 l0_4.length c0_4, .slice A0_5 l0_5.length c0_5], .int .i64 (rd l2 (ji16)), .int .i64 (rd l2 x7_2)] (by rfl) rfl rfl (by (try simp only [List.map_toArray, List.map_cons, List.map_nil]); first | done | (simp only [hji16]; rfl) | rfl | (simp only [List.length_drop, List.length_take]; rfl)) ?_
           with_reducible refine (jacquardref36_Step.calls k2 a0_0 _ _ l0_1 _ _ l0_2 _ _ l0_3 _ _ l0_4 _ _ l0_5 (rd l2 (ji16)) (rd l2 x7_2) true _ ?side1 ?side2 ?side3 ?side4 ?side5 ?side6 ?side7 ?side8 ?side9 ?side10 A20.out).mono ?_
           (case side1 => exact CB_ HR0_1)
           (case side2 => exact HC0_1.out)
           (case side3 => exact CB_ HR0_2)
           (case side4 => exact HC0_2.out)
           (case side5 => exact CB_ HR0_3)
           (case side6 => exact HC0_3.out)
           (case side7 => exact CB_ HR0_4)
           (case side8 => exact HC0_4.out)
           (case side9 => exact CB_ HR0_5)
           (case side10 => exact HC0_5.out)
           rintro e w23 ⟨rfl, hb⟩
           refine ⟨_, rfl, ?_⟩
           have n0_ := Aside0.mk (blk_below (K_ BK338) hb)
           have n1_ := Aside0.mk (below_step bl_ hb)
           clear BK338
           clear HB
           have BK338 := n0_
           have HB := n1_
           clear n0_ n1_
           (try clear hb)
           (try clear hb2)
           (try clear hk)
           (try clear hi)
           refine hK.out _ _ ⟨(blk_cell BK338.out 0).trans rfl, (blk_cell BK338.out 1).trans rfl, (blk_cell BK338.out 2).trans rfl, (blk_cell BK338.out 3).trans rfl, (blk_cell BK338.out 4).trans rfl, (blk_cell BK338.out 5).trans rfl, (hc_ HB hw340_0), (hc_ HB hw341_0)⟩ (fun hHeld => ?_)
           clear hK K
           refine no_ 47 ?_
           refine pu_ 11 48 HT_ ?_
           refine done_ (done_of HT_.out (by kernel_rfl)) ?_
           try go_wp2
           go_roundg k2
           case measure => have := HJ3.out; have := HK2.out; omega
           case rel => exact ⟨(wrap64 (x7_2 + 1)), (by first | rfl | (simp; done) | (simp [*]; done)), H', ⟨by have := HJ3.out; have := HK2.out; omega⟩, ⟨K_ BK338⟩, ⟨bl_⟩⟩
         replace c21 := Bool.eq_false_iff.mpr c21
         subst c21
         have H1 : (some false) = some r := by rw [if_neg (show ¬ (false = true) by decide)] at H; exact H
         clear H
         have H := H1
         clear H1
         obtain rfl := Option.some.inj H
         try go_wp2
         have n0_ := Aside0.mk (blk_drew BK338.out)
         have n1_ := Aside0.mk (below_drew1 HB.out)
         clear BK338
         clear HB
         have BK338 := n0_
         have HB := n1_
         clear n0_ n1_
         have p340 : 0 ≤ ((ji16) : Int) := of_decide_eq_true (by first | (with_reducible assumption) | assumption)
         have q340 : (ji16) < (l2.length : Int) := of_decide_eq_true (by first | (with_reducible assumption) | assumption)
         obtain ⟨ad340, e340, hx340_0⟩ := Kd.at_int HR2.out (ji16) p340 q340
         have hw340_0 := hx340_0
         cases e340
         replace hx340_0 := hc_ HB hx340_0
         replace p340 := eq_true p340
         replace q340 := eq_true q340
         have p341 : 0 ≤ (x7_2 : Int) := of_decide_eq_true (by first | (with_reducible assumption) | assumption)
         have q341 : x7_2 < (l2.length : Int) := of_decide_eq_true (by first | (with_reducible assumption) | assumption)
         obtain ⟨ad341, e341, hx341_0⟩ := Kd.at_int HR2.out x7_2 p341 q341
         have hw341_0 := hx341_0
         obtain rfl : ad340 = ad341 := (by injection e341)
         replace hx341_0 := hc_ HB hx341_0
         replace p341 := eq_true p341
         replace q341 := eq_true q341
         refine start_ (n := 12) (S := fun w' => w'.cell? ⟨gb338, 0, none⟩ = some (.string a0_0) ∧ w'.cell? ⟨gb338, 1, none⟩ = some (.slice A0_1 l0_1.length c0_1) ∧ w'.cell? ⟨gb338, 2, none⟩ = some (.slice A0_2 l0_2.length c0_2) ∧ w'.cell? ⟨gb338, 3, none⟩ = some (.slice A0_3 l0_3.length c0_3) ∧ w'.cell? ⟨gb338, 4, none⟩ = some (.slice A0_4 l0_4.length c0_4) ∧ w'.cell? ⟨gb338, 5, none⟩ = some (.slice A0_5 l0_5.length c0_5) ∧ w'.cell? (ad340.add ((ji16)).toNat) = some (.int .i64 (rd l2 (ji16))) ∧ w'.cell? (ad340.add (x7_2).toNat) = some (.int .i64 (rd l2 x7_2))) (ds := []) (bz 12 0) (by kernel_rfl) rfl rfl ⟨(blk_cell BK338.out 0).trans rfl, (blk_cell BK338.out 1).trans rfl, (blk_cell BK338.out 2).trans rfl, (blk_cell BK338.out 3).trans rfl, (blk_cell BK338.out 4).trans rfl, (blk_cell BK338.out 5).trans rfl, (hc_ HB hw340_0), (hc_ HB hw341_0)⟩ (fun hHeld => ?_); refine with_tabW jacquardref36_Path.tab6 jacquardref36_Path.bits6 (fun HT_ HW_ => ?_)
         generalize wr.drew = w24 at BK338 HB hx340_0 hx341_0 hHeld ⊢
         refine pu_ 1 38 HT_ ?_
         refine pu_ 2 39 HT_ ?_
         refine pu_ 3 40 HT_ ?_
         refine pu_ 4 41 HT_ ?_
         refine pu_ 6 43 HT_ ?_
         refine pu_ 7 44 HT_ ?_
         refine pu_ 8 45 HT_ ?_
         refine tk_ 0 37 HT_ HW_ hHeld ?_ (hy := by rintro w' ⟨s0, s1, s2, s3, s4, s5, s6, s7⟩; go_simp; with_reducible rfl)
         refine tk_ 5 42 HT_ HW_ hHeld ?_ (hy := by rintro w' ⟨s0, s1, s2, s3, s4, s5, s6, s7⟩; go_simp; with_reducible rfl)
         refine tk_ 9 46 HT_ HW_ hHeld ?_ (hy := by rintro w' ⟨s0, s1, s2, s3, s4, s5, s6, s7⟩; go_simp; with_reducible rfl)
         refine on_ 10 (some 47) HT_ (fun K hK => ?_)
         refine goes_ Try.func31 (by kernel_rfl) rfl #[.agg #[.string a0_0, .slice A0_1 l0_1.length c0_1, .slice A0_2 l0_2.length c0_2, .slice A0_3 l0_3.length c0_3, .slice A0_4 l0_4.length c0_4, .slice A0_5 l0_5.length c0_5], .int .i64 (rd l2 (ji16)), .int .i64 (rd l2 x7_2)] (by rfl) rfl rfl (by (try simp only [List.map_toArray, List.map_cons, List.map_nil]); first | done | (simp only [hji16]; rfl) | rfl | (simp only [List.length_drop, List.length_take]; rfl)) ?_
         with_reducible refine (jacquardref36_Step.calls k2 a0_0 _ _ l0_1 _ _ l0_2 _ _ l0_3 _ _ l0_4 _ _ l0_5 (rd l2 (ji16)) (rd l2 x7_2) false _ ?side1 ?side2 ?side3 ?side4 ?side5 ?side6 ?side7 ?side8 ?side9 ?side10 A20.out).mono ?_
         (case side1 => exact CB_ HR0_1)
         (case side2 => exact HC0_1.out)
         (case side3 => exact CB_ HR0_2)
         (case side4 => exact HC0_2.out)
         (case side5 => exact CB_ HR0_3)
         (case side6 => exact HC0_3.out)
         (case side7 => exact CB_ HR0_4)
         (case side8 => exact HC0_4.out)
         (case side9 => exact CB_ HR0_5)
         (case side10 => exact HC0_5.out)
         rintro e w25 ⟨rfl, hb⟩
         refine ⟨_, rfl, ?_⟩
         have n0_ := Aside0.mk (blk_below (K_ BK338) hb)
         have n1_ := Aside0.mk (below_step bl_ hb)
         clear BK338
         clear HB
         have BK338 := n0_
         have HB := n1_
         clear n0_ n1_
         (try clear hb)
         (try clear hb2)
         (try clear hk)
         (try clear hi)
         refine hK.out _ _ ⟨(blk_cell BK338.out 0).trans rfl, (blk_cell BK338.out 1).trans rfl, (blk_cell BK338.out 2).trans rfl, (blk_cell BK338.out 3).trans rfl, (blk_cell BK338.out 4).trans rfl, (blk_cell BK338.out 5).trans rfl, (hc_ HB hw340_0), (hc_ HB hw341_0)⟩ (fun hHeld => ?_)
         clear hK K
         refine no_ 47 ?_
         refine pu_ 11 48 HT_ ?_
         refine done_ (done_of HT_.out (by kernel_rfl)) ?_
         try go_wp2
         go_ret
         exact ⟨by first | rfl | (simp [errW_none, errW_some] <;> rfl) | (simp only [← hji16]; first | rfl | (simp [errW_none, errW_some] <;> rfl)) | (simp [*, errW_none, errW_some] <;> rfl), by repeat (first | (with_reducible first | exact HB.out | apply below_alloc | apply pw_below_drewN | apply below_drew1 | refine below_set ?_ GE338.out) | exact HB.out)⟩
       rw [if_neg c19] at H
       exact absurd H (by simp)
     rw [if_neg c18] at H
     exact absurd H (by simp)
   rw [if_neg c17] at H
   exact absurd H (by simp)
 rw [if_neg c15] at H
 have c15b0 : decide (x7_2 < (l2.length : Int)) = false := decide_eq_false c15
 clear c15
 obtain rfl := Option.some.inj H
 go_wp2
 go_ret
 exact ⟨by first | rfl | (simp [errW_none, errW_some] <;> rfl) | (simp [*, errW_none, errW_some] <;> rfl), by repeat (first | (with_reducible first | exact HB.out | apply below_alloc | apply pw_below_drewN | apply below_drew1 | refine below_set ?_ GE338.out) | exact HB.out)⟩
end Go.Proofs.Ytmefaegcoogmiaa.PAll
