-- Written for this claim by a program of this session (wip/print2 in its repo), which runs a changed printer. Lean checks it.
import Derived.Test.YtgcgohahpgbbfaaPLifetimeSpansx0
import Derived.Test.YtgcgohahpgbbfaaPLifetimeSpansx3
namespace Go.Proofs.Ytgcgohahpgbbfaa.PLifetimeSpans
open Go.RowKit Go.Proofs.YtgcgohahpgbbfaaW.PrintWords Go.Proofs.YtgcgohahpgbbfaaW.PrintLast Go.Proofs.YtgcgohahpgbbfaaW.PrintMore
attribute [local go_sem] max2_int min2_int max_two min_two max_three min_three max_four min_four   -- for this text's walks alone
set_option linter.unusedVariables false
set_option linter.unusedSimpArgs false

/-! ### jacquardref37_Pressure: function 16 -/
mutual
def jacquardref37_Pressure.j1 : Nat → Int → List (S32) → Int → Int → Option (Int)
  | 0, _, _, _, _ => none
  | k + 1, x1, x5, x6, x7 => jacquardref37_Pressure.l1 k x1 x5 x6 x7 0
def jacquardref37_Pressure.l1 : Nat → Int → List (S32) → Int → Int → Int → Option (Int)
  | 0, _, _, _, _, _ => none
  | k + 1, x1, x5, x6, x7, x9 => if x9 < x7 then (jacquardref37_Pressure.l2 k x1 x5 x6 x7 x9 0 0) else (some x6)
def jacquardref37_Pressure.l2 : Nat → Int → List (S32) → Int → Int → Int → Int → Int → Option (Int)
  | 0, _, _, _, _, _, _, _ => none
  | k + 1, x1, x5, x6, x7, x9, x10, x11 => if x11 < (x5.length : Int) then (jacquardref37_Pressure.l3 k x1 x5 x6 x7 x9 x10 x11 0) else (jacquardref37_Pressure.l1 k x1 x5 (mx x6 x10) x7 (wrap64 (x9 + 1)))
def jacquardref37_Pressure.l3 : Nat → Int → List (S32) → Int → Int → Int → Int → Int → Int → Option (Int)
  | 0, _, _, _, _, _, _, _, _ => none
  | k + 1, x1, x5, x6, x7, x9, x10, x11, x12 => if 0 ≤ x11 then (if x11 < (x5.length : Int) then (if x12 < ((rd_T32 x5 x11).f1) then (if x1 > 0 then (if x1 = 0 then (none) else (if (Int.tmod (wrap64 (((rd_T32 x5 x11).f0) + x12)) x1) = x9 then (jacquardref37_Pressure.l2 k x1 x5 x6 x7 x9 (wrap64 (x10 + 1)) (wrap64 (x11 + 1))) else (if (wrap64 (((rd_T32 x5 x11).f0) + x12)) = x9 then (jacquardref37_Pressure.l3 k x1 x5 x6 x7 x9 x10 x11 (wrap64 (x12 + 1))) else (jacquardref37_Pressure.l3 k x1 x5 x6 x7 x9 x10 x11 (wrap64 (x12 + 1)))))) else (if (wrap64 (((rd_T32 x5 x11).f0) + x12)) = x9 then (if x1 = 0 then (jacquardref37_Pressure.l2 k x1 x5 x6 x7 x9 (wrap64 (x10 + 1)) (wrap64 (x11 + 1))) else (jacquardref37_Pressure.l3 k x1 x5 x6 x7 x9 x10 x11 (wrap64 (x12 + 1)))) else (jacquardref37_Pressure.l3 k x1 x5 x6 x7 x9 x10 x11 (wrap64 (x12 + 1))))) else (jacquardref37_Pressure.l2 k x1 x5 x6 x7 x9 x10 (wrap64 (x11 + 1)))) else (none)) else (none)
def jacquardref37_Pressure.l0 : Nat → Int → List (S32) → Int → Int → Int → Option (Int)
  | 0, _, _, _, _, _ => none
  | k + 1, x1, x5, x6, x7, x8 => if x8 < (x5.length : Int) then (if x1 = 0 then (if 0 ≤ x8 then (jacquardref37_Pressure.l0 k x1 x5 x6 (mx x7 (wrap64 (((rd_T32 x5 x8).f0) + ((rd_T32 x5 x8).f1)))) (wrap64 (x8 + 1))) else (none)) else (jacquardref37_Pressure.j1 k x1 x5 x6 x7)) else (jacquardref37_Pressure.j1 k x1 x5 x6 x7)
end
def jacquardref37_Pressure.f (k : Nat) (l0 : List (S28)) (a1 : Int) : Option (Int) := (jacquardref37_Spans.f k l0 a1).bind fun t137 => (jacquardref37_Pressure.l0 k a1 t137 0 a1 0)
theorem jacquardref37_Pressure.mono_l : ∀ k, (∀ y0 y1 y2 y3, LeO (jacquardref37_Pressure.j1 k y0 y1 y2 y3) (jacquardref37_Pressure.j1 (k + 1) y0 y1 y2 y3)) ∧ (∀ y0 y1 y2 y3 y4, LeO (jacquardref37_Pressure.l1 k y0 y1 y2 y3 y4) (jacquardref37_Pressure.l1 (k + 1) y0 y1 y2 y3 y4)) ∧ (∀ y0 y1 y2 y3 y4 y5 y6, LeO (jacquardref37_Pressure.l2 k y0 y1 y2 y3 y4 y5 y6) (jacquardref37_Pressure.l2 (k + 1) y0 y1 y2 y3 y4 y5 y6)) ∧ (∀ y0 y1 y2 y3 y4 y5 y6 y7, LeO (jacquardref37_Pressure.l3 k y0 y1 y2 y3 y4 y5 y6 y7) (jacquardref37_Pressure.l3 (k + 1) y0 y1 y2 y3 y4 y5 y6 y7)) ∧ (∀ y0 y1 y2 y3 y4, LeO (jacquardref37_Pressure.l0 k y0 y1 y2 y3 y4) (jacquardref37_Pressure.l0 (k + 1) y0 y1 y2 y3 y4))
  | 0 => ⟨fun _ _ _ _ r h => by simp [jacquardref37_Pressure.j1] at h, fun _ _ _ _ _ r h => by simp [jacquardref37_Pressure.l1] at h, fun _ _ _ _ _ _ _ r h => by simp [jacquardref37_Pressure.l2] at h, fun _ _ _ _ _ _ _ _ r h => by simp [jacquardref37_Pressure.l3] at h, fun _ _ _ _ _ r h => by simp [jacquardref37_Pressure.l0] at h⟩
  | k + 1 => by
    obtain ⟨ih0, ih1, ih2, ih3, ih4⟩ := jacquardref37_Pressure.mono_l k
    refine ⟨?_, ?_, ?_, ?_, ?_⟩
    · intro y0 y1 y2 y3
      unfold jacquardref37_Pressure.j1
      repeat' first
      | (with_reducible exact ih0 _ _ _ _)
      | (with_reducible exact ih1 _ _ _ _ _)
      | (with_reducible exact ih2 _ _ _ _ _ _ _)
      | (with_reducible exact ih3 _ _ _ _ _ _ _ _)
      | (with_reducible exact ih4 _ _ _ _ _)
      | (with_reducible exact jacquardref37_Spans.mono _ _ _)
      | (with_reducible exact LeO.refl _)
      | (with_reducible exact LeO.none _)
      | (with_reducible refine LeO.ite ?_ ?_)
      | (with_reducible refine LeO.bind ?_ (fun _ => ?_))
      | exact ih0 _ _ _ _
      | exact ih1 _ _ _ _ _
      | exact ih2 _ _ _ _ _ _ _
      | exact ih3 _ _ _ _ _ _ _ _
      | exact ih4 _ _ _ _ _
      | exact jacquardref37_Spans.mono _ _ _
      | exact LeO.none _
      | refine LeO.ite ?_ ?_
      | refine LeO.bind ?_ (fun _ => ?_)
    · intro y0 y1 y2 y3 y4
      unfold jacquardref37_Pressure.l1
      repeat' first
      | (with_reducible exact ih0 _ _ _ _)
      | (with_reducible exact ih1 _ _ _ _ _)
      | (with_reducible exact ih2 _ _ _ _ _ _ _)
      | (with_reducible exact ih3 _ _ _ _ _ _ _ _)
      | (with_reducible exact ih4 _ _ _ _ _)
      | (with_reducible exact jacquardref37_Spans.mono _ _ _)
      | (with_reducible exact LeO.refl _)
      | (with_reducible exact LeO.none _)
      | (with_reducible refine LeO.ite ?_ ?_)
      | (with_reducible refine LeO.bind ?_ (fun _ => ?_))
      | exact ih0 _ _ _ _
      | exact ih1 _ _ _ _ _
      | exact ih2 _ _ _ _ _ _ _
      | exact ih3 _ _ _ _ _ _ _ _
      | exact ih4 _ _ _ _ _
      | exact jacquardref37_Spans.mono _ _ _
      | exact LeO.none _
      | refine LeO.ite ?_ ?_
      | refine LeO.bind ?_ (fun _ => ?_)
    · intro y0 y1 y2 y3 y4 y5 y6
      unfold jacquardref37_Pressure.l2
      repeat' first
      | (with_reducible exact ih0 _ _ _ _)
      | (with_reducible exact ih1 _ _ _ _ _)
      | (with_reducible exact ih2 _ _ _ _ _ _ _)
      | (with_reducible exact ih3 _ _ _ _ _ _ _ _)
      | (with_reducible exact ih4 _ _ _ _ _)
      | (with_reducible exact jacquardref37_Spans.mono _ _ _)
      | (with_reducible exact LeO.refl _)
      | (with_reducible exact LeO.none _)
      | (with_reducible refine LeO.ite ?_ ?_)
      | (with_reducible refine LeO.bind ?_ (fun _ => ?_))
      | exact ih0 _ _ _ _
      | exact ih1 _ _ _ _ _
      | exact ih2 _ _ _ _ _ _ _
      | exact ih3 _ _ _ _ _ _ _ _
      | exact ih4 _ _ _ _ _
      | exact jacquardref37_Spans.mono _ _ _
      | exact LeO.none _
      | refine LeO.ite ?_ ?_
      | refine LeO.bind ?_ (fun _ => ?_)
    · intro y0 y1 y2 y3 y4 y5 y6 y7
      unfold jacquardref37_Pressure.l3
      repeat' first
      | (with_reducible exact ih0 _ _ _ _)
      | (with_reducible exact ih1 _ _ _ _ _)
      | (with_reducible exact ih2 _ _ _ _ _ _ _)
      | (with_reducible exact ih3 _ _ _ _ _ _ _ _)
      | (with_reducible exact ih4 _ _ _ _ _)
      | (with_reducible exact jacquardref37_Spans.mono _ _ _)
      | (with_reducible exact LeO.refl _)
      | (with_reducible exact LeO.none _)
      | (with_reducible refine LeO.ite ?_ ?_)
      | (with_reducible refine LeO.bind ?_ (fun _ => ?_))
      | exact ih0 _ _ _ _
      | exact ih1 _ _ _ _ _
      | exact ih2 _ _ _ _ _ _ _
      | exact ih3 _ _ _ _ _ _ _ _
      | exact ih4 _ _ _ _ _
      | exact jacquardref37_Spans.mono _ _ _
      | exact LeO.none _
      | refine LeO.ite ?_ ?_
      | refine LeO.bind ?_ (fun _ => ?_)
    · intro y0 y1 y2 y3 y4
      unfold jacquardref37_Pressure.l0
      repeat' first
      | (with_reducible exact ih0 _ _ _ _)
      | (with_reducible exact ih1 _ _ _ _ _)
      | (with_reducible exact ih2 _ _ _ _ _ _ _)
      | (with_reducible exact ih3 _ _ _ _ _ _ _ _)
      | (with_reducible exact ih4 _ _ _ _ _)
      | (with_reducible exact jacquardref37_Spans.mono _ _ _)
      | (with_reducible exact LeO.refl _)
      | (with_reducible exact LeO.none _)
      | (with_reducible refine LeO.ite ?_ ?_)
      | (with_reducible refine LeO.bind ?_ (fun _ => ?_))
      | exact ih0 _ _ _ _
      | exact ih1 _ _ _ _ _
      | exact ih2 _ _ _ _ _ _ _
      | exact ih3 _ _ _ _ _ _ _ _
      | exact ih4 _ _ _ _ _
      | exact jacquardref37_Spans.mono _ _ _
      | exact LeO.none _
      | refine LeO.ite ?_ ?_
      | refine LeO.bind ?_ (fun _ => ?_)
theorem jacquardref37_Pressure.mono : ∀ a0 a1 k, LeO (jacquardref37_Pressure.f k a0 a1) (jacquardref37_Pressure.f (k + 1) a0 a1) := by
  intro a0 a1 k
  obtain ⟨ih0, ih1, ih2, ih3, ih4⟩ := jacquardref37_Pressure.mono_l k
  unfold jacquardref37_Pressure.f
  repeat' first
      | (with_reducible exact ih0 _ _ _ _)
      | (with_reducible exact ih1 _ _ _ _ _)
      | (with_reducible exact ih2 _ _ _ _ _ _ _)
      | (with_reducible exact ih3 _ _ _ _ _ _ _ _)
      | (with_reducible exact ih4 _ _ _ _ _)
      | (with_reducible exact jacquardref37_Spans.mono _ _ _)
      | (with_reducible exact LeO.refl _)
      | (with_reducible exact LeO.none _)
      | (with_reducible refine LeO.ite ?_ ?_)
      | (with_reducible refine LeO.bind ?_ (fun _ => ?_))
      | exact ih0 _ _ _ _
      | exact ih1 _ _ _ _ _
      | exact ih2 _ _ _ _ _ _ _
      | exact ih3 _ _ _ _ _ _ _ _
      | exact ih4 _ _ _ _ _
      | exact jacquardref37_Spans.mono _ _ _
      | exact LeO.none _
      | refine LeO.ite ?_ ?_
      | refine LeO.bind ?_ (fun _ => ?_)
set_option maxHeartbeats 8000000 in
set_option maxRecDepth 100000 in
theorem jacquardref37_Pressure.calls (k : Nat) (A0 : Option Addr) (c0 : Nat) (l0 : List (S28)) (a1 : Int) (r : Int) (w : World) (hr0 : Kd.C k28 w A0 l0.length l0) (hc0 : l0.length ≤ c0) (h : jacquardref37_Pressure.f k l0 a1 = some r) :
    Calls Try.prog 16 #[.slice A0 l0.length c0, .int .i64 a1] w fun e w' => e = .returned (.int .i64 r) ∧ Below w.heap.size w w' := by
  have HR0 := Aside0.mk hr0
  have HC0 := Aside0.mk hc0
  clear hr0 hc0
  have HB := Aside0.mk (Below.refl w.heap.size w)
  have H : ((jacquardref37_Spans.f k l0 a1).bind fun t137 => (jacquardref37_Pressure.l0 k a1 t137 0 a1 0)) = some r := h
  clear h
  replace H := Option.bind_eq_some_iff.mp H
  obtain ⟨t137, A30, H⟩ := H
  replace H : (jacquardref37_Pressure.l0 k a1 t137 0 a1 0) = some r := H
  have A3 := Aside0.mk A30
  clear A30
  have HC4 := Aside0.mk H
  clear H
  go_enter Try.func16, Try.ntmps16
  go_upto_block 0 with (first | (go_at_call 14; (with_reducible refine (jacquardref37_Spans.calls k _ _ l0 a1 t137 _ ?side1 ?side2 A3.out).mono ?_); (case side1 => repeat (first | exact HR0.out | (with_reducible refine Kd.C_alloc ?_ _) | (with_reducible refine Kd.C_drewN ?_ _) | (with_reducible refine Kd.C_drew ?_))); (case side2 => exact HC0.out); rintro e w5 ⟨v138, rfl, ho0, hb⟩; have n0_ := Aside0.mk (Kd.R_lower ho0 (below_size (by repeat (first | (with_reducible first | exact HB.out | apply below_alloc | apply pw_below_drewN | apply below_drew1) | exact HB.out)))); have n1_ := Aside0.mk (below_step (by repeat (first | (with_reducible first | exact HB.out | apply below_alloc | apply pw_below_drewN | apply below_drew1) | exact HB.out)) hb); clear HB; have HO139 := n0_; have HB := n1_; clear n0_ n1_; (try clear hb); (try clear hb2); (try clear hk); (try clear hi); (try clear ho0)))
  repeat (go_quiet (first | (go_at_call 14; (with_reducible refine (jacquardref37_Spans.calls k _ _ l0 a1 t137 _ ?side1 ?side2 A3.out).mono ?_); (case side1 => repeat (first | exact HR0.out | (with_reducible refine Kd.C_alloc ?_ _) | (with_reducible refine Kd.C_drewN ?_ _) | (with_reducible refine Kd.C_drew ?_))); (case side2 => exact HC0.out); rintro e w5 ⟨v138, rfl, ho0, hb⟩; have n0_ := Aside0.mk (Kd.R_lower ho0 (below_size (by repeat (first | (with_reducible first | exact HB.out | apply below_alloc | apply pw_below_drewN | apply below_drew1) | exact HB.out)))); have n1_ := Aside0.mk (below_step (by repeat (first | (with_reducible first | exact HB.out | apply below_alloc | apply pw_below_drewN | apply below_drew1) | exact HB.out)) hb); clear HB; have HO139 := n0_; have HB := n1_; clear n0_ n1_; (try clear hb); (try clear hb2); (try clear hk); (try clear hi); (try clear ho0))); go_upto_block 0 with (first | (go_at_call 14; (with_reducible refine (jacquardref37_Spans.calls k _ _ l0 a1 t137 _ ?side1 ?side2 A3.out).mono ?_); (case side1 => repeat (first | exact HR0.out | (with_reducible refine Kd.C_alloc ?_ _) | (with_reducible refine Kd.C_drewN ?_ _) | (with_reducible refine Kd.C_drew ?_))); (case side2 => exact HC0.out); rintro e w5 ⟨v138, rfl, ho0, hb⟩; have n0_ := Aside0.mk (Kd.R_lower ho0 (below_size (by repeat (first | (with_reducible first | exact HB.out | apply below_alloc | apply pw_below_drewN | apply below_drew1) | exact HB.out)))); have n1_ := Aside0.mk (below_step (by repeat (first | (with_reducible first | exact HB.out | apply below_alloc | apply pw_below_drewN | apply below_drew1) | exact HB.out)) hb); clear HB; have HO139 := n0_; have HB := n1_; clear n0_ n1_; (try clear hb); (try clear hb2); (try clear hk); (try clear hi); (try clear ho0))))
  (try simp only [Act.put, List.setIfInBounds_toArray, List.set_cons_zero, List.set_cons_succ])
  go_cut [7] (fun v7 wc => ∃ (kq : Nat) (x7_3 : Int), v7 = .int .i64 x7_3 ∧ Aside0 (jacquardref37_Pressure.j1 kq a1 t137 0 x7_3 = some r) ∧ Aside0 (kq ≤ k) ∧ Aside0 (Kd.R k32 32 wc w.heap.size (fun _ => True) v138 t137) ∧ Aside0 (Below w.heap.size w wc))
  case first =>
    have H := HC4.out
    clear HC4
    have H' := Aside0.mk H
    clear H
    go_wp2
    repeat (go_quiet (fail); try go_wp2)
    go_loopg [7, 8] k (fun kq v7 v8 w' => ∃ (x7_1 : Int) (x8_1 : Int), v7 = .int .i64 x7_1 ∧ v8 = .int .i64 x8_1 ∧ Aside0 (jacquardref37_Pressure.l0 kq a1 t137 0 x7_1 x8_1 = some r) ∧ Aside0 (kq ≤ k) ∧ Aside0 (Kd.R k32 32 w' w.heap.size (fun _ => True) v138 t137) ∧ Aside0 (Below w.heap.size w w'))
    case atStart => exact ⟨(a1), (0), (by first | rfl | (simp; done) | (simp [*]; done)), (by first | rfl | (simp; done) | (simp [*]; done)), H', ⟨Nat.le_refl _⟩, ⟨by (with_reducible repeat (first | apply Kd.R_alloc | apply Kd.R_drewN | apply Kd.R_drew)); exact HO139.out⟩, ⟨by repeat (first | (with_reducible first | exact HB.out | apply below_alloc | apply pw_below_drewN | apply below_drew1) | exact HB.out)⟩⟩
    case round =>
      clear H'
      try clear c1
      try clear p2
      obtain ⟨x7_1, x8_1, rfl, rfl, HA, HK1, HO_5, HB⟩ := hrel
      cases gk with
      | zero => exact absurd HA.out (by simp [jacquardref37_Pressure.l0])
      | succ k1 =>
        have H := HA.out
        clear HA
        simp only [jacquardref37_Pressure.l0] at H
        by_cases c6 : x8_1 < (t137.length : Int)
        · rw [if_pos c6] at H
          have c6b0 : decide (x8_1 < (t137.length : Int)) = true := decide_eq_true c6
          clear c6
          (first | rw [c6b0] | (simp only [i64_w, i32_w]; rw [c6b0]) | skip)
          by_cases c7 : a1 = 0
          · rw [if_pos c7] at H
            have c7b0 : (a1 == 0) = true := beq_iff_eq.mpr c7
            have c7b1 : (a1 != 0) = false := bne_eq_false_iff_eq.mpr c7
            clear c7
            by_cases c8 : 0 ≤ x8_1
            · rw [if_pos c8] at H
              have c8b0 : decide (0 ≤ x8_1) = true := decide_eq_true c8
              clear c8
              obtain ⟨ji9, hji9⟩ : ∃ j_ : Int, (mx x7_1 (wrap64 (((rd_T32 t137 x8_1).f0) + ((rd_T32 t137 x8_1).f1)))) = j_ := ⟨_, rfl⟩
              replace H : (jacquardref37_Pressure.l0 k1 a1 t137 0 ji9 (wrap64 (x8_1 + 1))) = some r := by first | (rw [hji9] at H; exact H) | (simp only [hji9] at H ⊢; exact H)
              have hji9_ : (if x7_1 < (wrap64 (((rd_T32 t137 x8_1).f0) + ((rd_T32 t137 x8_1).f1))) then (wrap64 (((rd_T32 t137 x8_1).f0) + ((rd_T32 t137 x8_1).f1))) else x7_1) = ji9 := hji9
              have H' := Aside0.mk H
              clear H
              obtain ⟨Ao10, co10, eo10⟩ := Kd.R_slice HO_5.out
              subst eo10
              have p140 : 0 ≤ (x8_1 : Int) := of_decide_eq_true (by first | (with_reducible assumption) | assumption)
              have q140 : x8_1 < (t137.length : Int) := of_decide_eq_true (by first | (with_reducible assumption) | assumption)
              obtain ⟨ad140, e140, hx140_0, hx140_1⟩ := at_T32 (Kd.R_reads' HO_5.out).2.2 x8_1 p140 q140
              cases e140
              replace p140 := eq_true p140
              replace q140 := eq_true q140
              have p141 : 0 ≤ (x8_1 : Int) := of_decide_eq_true (by first | (with_reducible assumption) | assumption)
              have q141 : x8_1 < (t137.length : Int) := of_decide_eq_true (by first | (with_reducible assumption) | assumption)
              obtain ⟨ad141, e141, hx141_0, hx141_1⟩ := at_T32 (Kd.R_reads' HO_5.out).2.2 x8_1 p141 q141
              obtain rfl : ad140 = ad141 := (by injection e141)
              replace p141 := eq_true p141
              replace q141 := eq_true q141
              go_wp2
              repeat (go_quiet (fail); try go_wp2)
              go_roundg k1
              case measure => have := HK1.out; omega
              case rel => exact ⟨(ji9), (wrap64 (x8_1 + 1)), (by first | rfl | (simp; done) | (simp only [← hji9] <;> (first | rfl | simp)) | (simp [*]; done)), (by first | rfl | (simp; done) | (simp [*]; done)), H', ⟨by have := HK1.out; omega⟩, ⟨by (with_reducible repeat (first | apply Kd.R_alloc | apply Kd.R_drewN | apply Kd.R_drew)); exact HO_5.out⟩, ⟨by repeat (first | (with_reducible first | exact HB.out | apply below_alloc | apply pw_below_drewN | apply below_drew1) | exact HB.out)⟩⟩
            · rw [if_neg c8] at H
              exact absurd H (by simp)
          · rw [if_neg c7] at H
            have c7b0 : (a1 == 0) = false := beq_eq_false_iff_ne.mpr c7
            have c7b1 : (a1 != 0) = true := bne_iff_ne.mpr c7
            have H' := Aside0.mk H
            clear H
            obtain ⟨Ao11, co11, eo11⟩ := Kd.R_slice HO_5.out
            subst eo11
            go_wp2
            repeat (go_quiet (fail); try go_wp2)
            go_meet
            case rel => exact ⟨_, (x7_1), (by first | rfl | (simp; done) | (simp [*]; done)), H', ⟨by have := HK1.out; first | omega | exact Nat.le_refl _⟩, ⟨by (with_reducible repeat (first | apply Kd.R_alloc | apply Kd.R_drewN | apply Kd.R_drew)); exact HO_5.out⟩, ⟨by repeat (first | (with_reducible first | exact HB.out | apply below_alloc | apply pw_below_drewN | apply below_drew1) | exact HB.out)⟩⟩
        · rw [if_neg c6] at H
          have c6b0 : decide (x8_1 < (t137.length : Int)) = false := decide_eq_false c6
          clear c6
          (first | rw [c6b0] | (simp only [i64_w, i32_w]; rw [c6b0]) | skip)
          have H' := Aside0.mk H
          clear H
          obtain ⟨Ao12, co12, eo12⟩ := Kd.R_slice HO_5.out
          subst eo12
          go_wp2
          repeat (go_quiet (fail); try go_wp2)
          go_meet
          case rel => exact ⟨_, (x7_1), (by first | rfl | (simp; done) | (simp [*]; done)), H', ⟨by have := HK1.out; first | omega | exact Nat.le_refl _⟩, ⟨by (with_reducible repeat (first | apply Kd.R_alloc | apply Kd.R_drewN | apply Kd.R_drew)); exact HO_5.out⟩, ⟨by repeat (first | (with_reducible first | exact HB.out | apply below_alloc | apply pw_below_drewN | apply below_drew1) | exact HB.out)⟩⟩
  case rest =>
    clear HC4
    try clear c1
    try clear p1
    try clear q1
    try clear hx1
    try clear p2
    try clear c6
    try clear c6b0
    try clear p6
    try clear c7
    try clear c7b0
    try clear c7b1
    try clear c8
    try clear c8b0
    try clear hx140_0
    try clear hx140_1
    try clear hx141_0
    try clear hx141_1
    try clear p140
    try clear p141
    try clear p2
    try clear q140
    try clear q141
    obtain ⟨kq, x7_3, rfl, HA, HJ3, HO_5, HB⟩ := hcut
    cases kq with
    | zero => exact absurd HA.out (by simp [jacquardref37_Pressure.j1])
    | succ kj3 =>
      have H := HA.out
      clear HA
      simp only [jacquardref37_Pressure.j1] at H
      have H' := Aside0.mk H
      clear H
      go_wp2
      repeat (go_quiet (fail); try go_wp2)
      go_loopg [6, 9] kj3 (fun kq v6 v9 w' => ∃ (x6_2 : Int) (x9_2 : Int), v6 = .int .i64 x6_2 ∧ v9 = .int .i64 x9_2 ∧ Aside0 (jacquardref37_Pressure.l1 kq a1 t137 x6_2 x7_3 x9_2 = some r) ∧ Aside0 (kq ≤ kj3) ∧ Aside0 (Kd.R k32 32 w' w.heap.size (fun _ => True) v138 t137) ∧ Aside0 (Below w.heap.size w w'))
      case atStart => exact ⟨(0), (0), (by first | rfl | (simp; done) | (simp [*]; done)), (by first | rfl | (simp; done) | (simp [*]; done)), H', ⟨Nat.le_refl _⟩, ⟨by (with_reducible repeat (first | apply Kd.R_alloc | apply Kd.R_drewN | apply Kd.R_drew)); exact HO_5.out⟩, ⟨by repeat (first | (with_reducible first | exact HB.out | apply below_alloc | apply pw_below_drewN | apply below_drew1) | exact HB.out)⟩⟩
      case round =>
        clear H'
        try clear c1
        try clear p1
        try clear q1
        try clear hx1
        try clear p2
        try clear c6
        try clear c6b0
        try clear p6
        try clear c7
        try clear c7b0
        try clear c7b1
        try clear c8
        try clear c8b0
        try clear hx140_0
        try clear hx140_1
        try clear hx141_0
        try clear hx141_1
        try clear p1
        try clear p140
        try clear p141
        try clear p2
        try clear p6
        try clear q1
        try clear q140
        try clear q141
        obtain ⟨x6_2, x9_2, rfl, rfl, HA, HK2, HO_5, HB⟩ := hrel
        cases gk with
        | zero => exact absurd HA.out (by simp [jacquardref37_Pressure.l1])
        | succ k2 =>
          have H := HA.out
          clear HA
          simp only [jacquardref37_Pressure.l1] at H
          by_cases c13 : x9_2 < x7_3
          · rw [if_pos c13] at H
            have c13b0 : decide (x9_2 < x7_3) = true := decide_eq_true c13
            clear c13
            have H' := Aside0.mk H
            clear H
            go_wp2
            repeat (go_quiet (fail); try go_wp2)
            go_loopg [10, 11] k2 (fun kq v10 v11 w' => ∃ (x10_3 : Int) (x11_3 : Int), v10 = .int .i64 x10_3 ∧ v11 = .int .i64 x11_3 ∧ Aside0 (jacquardref37_Pressure.l2 kq a1 t137 x6_2 x7_3 x9_2 x10_3 x11_3 = some r) ∧ Aside0 (kq ≤ k2) ∧ Aside0 (Kd.R k32 32 w' w.heap.size (fun _ => True) v138 t137) ∧ Aside0 (Below w.heap.size w w'))
            case atStart => exact ⟨(0), (0), (by first | rfl | (simp; done) | (simp [*]; done)), (by first | rfl | (simp; done) | (simp [*]; done)), H', ⟨Nat.le_refl _⟩, ⟨by (with_reducible repeat (first | apply Kd.R_alloc | apply Kd.R_drewN | apply Kd.R_drew)); exact HO_5.out⟩, ⟨by repeat (first | (with_reducible first | exact HB.out | apply below_alloc | apply pw_below_drewN | apply below_drew1) | exact HB.out)⟩⟩
            case round =>
              clear H'
              try clear c1
              try clear p1
              try clear q1
              try clear hx1
              try clear p2
              try clear c6
              try clear c6b0
              try clear p6
              try clear c7
              try clear c7b0
              try clear c7b1
              try clear c8
              try clear c8b0
              try clear c13
              try clear c13b0
              try clear hx140_0
              try clear hx140_1
              try clear hx141_0
              try clear hx141_1
              try clear p1
              try clear p140
              try clear p141
              try clear p2
              try clear p6
              try clear q1
              try clear q140
              try clear q141
              obtain ⟨x10_3, x11_3, rfl, rfl, HA, HK3, HO_5, HB⟩ := hrel
              cases gk with
              | zero => exact absurd HA.out (by simp [jacquardref37_Pressure.l2])
              | succ k3 =>
                have H := HA.out
                clear HA
                simp only [jacquardref37_Pressure.l2] at H
                by_cases c14 : x11_3 < (t137.length : Int)
                · rw [if_pos c14] at H
                  have c14b0 : decide (x11_3 < (t137.length : Int)) = true := decide_eq_true c14
                  clear c14
                  have H' := Aside0.mk H
                  clear H
                  obtain ⟨Ao15, co15, eo15⟩ := Kd.R_slice HO_5.out
                  subst eo15
                  go_wp2
                  repeat (go_quiet (fail); try go_wp2)
                  go_loopg [10, 12] k3 (fun kq v10 v12 w' => ∃ (x10_4 : Int) (x12_4 : Int), v10 = .int .i64 x10_4 ∧ v12 = .int .i64 x12_4 ∧ Aside0 (jacquardref37_Pressure.l3 kq a1 t137 x6_2 x7_3 x9_2 x10_4 x11_3 x12_4 = some r) ∧ Aside0 (kq ≤ k3) ∧ Aside0 (Kd.R k32 32 w' w.heap.size (fun _ => True) (.slice Ao15 t137.length co15) t137) ∧ Aside0 (Below w.heap.size w w'))
                  case atStart => exact ⟨(x10_3), (0), (by first | rfl | (simp; done) | (simp [*]; done)), (by first | rfl | (simp; done) | (simp [*]; done)), H', ⟨Nat.le_refl _⟩, ⟨by (with_reducible repeat (first | apply Kd.R_alloc | apply Kd.R_drewN | apply Kd.R_drew)); exact HO_5.out⟩, ⟨by repeat (first | (with_reducible first | exact HB.out | apply below_alloc | apply pw_below_drewN | apply below_drew1) | exact HB.out)⟩⟩
                  case round =>
                    clear H'
                    try clear c1
                    try clear p1
                    try clear q1
                    try clear hx1
                    try clear p2
                    try clear c6
                    try clear c6b0
                    try clear p6
                    try clear c7
                    try clear c7b0
                    try clear c7b1
                    try clear c8
                    try clear c8b0
                    try clear c13
                    try clear c13b0
                    try clear c14
                    try clear c14b0
                    try clear p14
                    try clear q14
                    try clear hx14
                    try clear hx140_0
                    try clear hx140_1
                    try clear hx141_0
                    try clear hx141_1
                    try clear p1
                    try clear p140
                    try clear p141
                    try clear p2
                    try clear p6
                    try clear q1
                    try clear q140
                    try clear q141
                    obtain ⟨x10_4, x12_4, rfl, rfl, HA, HK4, HO_5, HB⟩ := hrel
                    cases gk with
                    | zero => exact absurd HA.out (by simp [jacquardref37_Pressure.l3])
                    | succ k4 =>
                      have H := HA.out
                      clear HA
                      simp only [jacquardref37_Pressure.l3] at H
                      by_cases c16 : 0 ≤ x11_3
                      · rw [if_pos c16] at H
                        have c16b0 : decide (0 ≤ x11_3) = true := decide_eq_true c16
                        clear c16
                        by_cases c17 : x11_3 < (t137.length : Int)
                        · rw [if_pos c17] at H
                          have c17b0 : decide (x11_3 < (t137.length : Int)) = true := decide_eq_true c17
                          clear c17
                          by_cases c18 : x12_4 < ((rd_T32 t137 x11_3).f1)
                          · rw [if_pos c18] at H
                            have c18b0 : decide (x12_4 < ((rd_T32 t137 x11_3).f1)) = true := decide_eq_true c18
                            clear c18
                            by_cases c19 : a1 > 0
                            · rw [if_pos c19] at H
                              have c19b0 : decide (0 < a1) = true := decide_eq_true c19
                              clear c19
                              by_cases c20 : a1 = 0
                              · rw [if_pos c20] at H
                                exact absurd H (by simp)
                              · rw [if_neg c20] at H
                                have c20b0 : (a1 == 0) = false := beq_eq_false_iff_ne.mpr c20
                                have c20b1 : (a1 != 0) = true := bne_iff_ne.mpr c20
                                by_cases c21 : (Int.tmod (wrap64 (((rd_T32 t137 x11_3).f0) + x12_4)) a1) = x9_2
                                · rw [if_pos c21] at H
                                  have c21b0 : ((Int.tmod (wrap64 (((rd_T32 t137 x11_3).f0) + x12_4)) a1) == x9_2) = true := beq_iff_eq.mpr c21
                                  have c21b1 : ((Int.tmod (wrap64 (((rd_T32 t137 x11_3).f0) + x12_4)) a1) != x9_2) = false := bne_eq_false_iff_eq.mpr c21
                                  clear c21
                                  have H' := Aside0.mk H
                                  clear H
                                  have p142 : 0 ≤ (x11_3 : Int) := of_decide_eq_true (by first | (with_reducible assumption) | assumption)
                                  have q142 : x11_3 < (t137.length : Int) := of_decide_eq_true (by first | (with_reducible assumption) | assumption)
                                  obtain ⟨ad142, e142, hx142_0, hx142_1⟩ := at_T32 (Kd.R_reads' HO_5.out).2.2 x11_3 p142 q142
                                  cases e142
                                  replace p142 := eq_true p142
                                  replace q142 := eq_true q142
                                  have p143 : 0 ≤ (x11_3 : Int) := of_decide_eq_true (by first | (with_reducible assumption) | assumption)
                                  have q143 : x11_3 < (t137.length : Int) := of_decide_eq_true (by first | (with_reducible assumption) | assumption)
                                  obtain ⟨ad143, e143, hx143_0, hx143_1⟩ := at_T32 (Kd.R_reads' HO_5.out).2.2 x11_3 p143 q143
                                  obtain rfl : ad142 = ad143 := (by injection e143)
                                  replace p143 := eq_true p143
                                  replace q143 := eq_true q143
                                  go_wp2
                                  repeat (go_quiet (fail); try go_wp2)
                                  go_roundg k4
                                  case measure => have := HJ3.out; have := HK2.out; have := HK3.out; have := HK4.out; omega
                                  case rel => exact ⟨(wrap64 (x10_4 + 1)), (wrap64 (x11_3 + 1)), (by first | rfl | (simp; done) | (simp [*]; done)), (by first | rfl | (simp; done) | (simp [*]; done)), H', ⟨by have := HJ3.out; have := HK2.out; have := HK3.out; have := HK4.out; omega⟩, ⟨by (with_reducible repeat (first | apply Kd.R_alloc | apply Kd.R_drewN | apply Kd.R_drew)); exact HO_5.out⟩, ⟨by repeat (first | (with_reducible first | exact HB.out | apply below_alloc | apply pw_below_drewN | apply below_drew1) | exact HB.out)⟩⟩
                                · rw [if_neg c21] at H
                                  have c21b0 : ((Int.tmod (wrap64 (((rd_T32 t137 x11_3).f0) + x12_4)) a1) == x9_2) = false := beq_eq_false_iff_ne.mpr c21
                                  have c21b1 : ((Int.tmod (wrap64 (((rd_T32 t137 x11_3).f0) + x12_4)) a1) != x9_2) = true := bne_iff_ne.mpr c21
                                  by_cases c22 : (wrap64 (((rd_T32 t137 x11_3).f0) + x12_4)) = x9_2
                                  · rw [if_pos c22] at H
                                    have c22b0 : ((wrap64 (((rd_T32 t137 x11_3).f0) + x12_4)) == x9_2) = true := beq_iff_eq.mpr c22
                                    have c22b1 : ((wrap64 (((rd_T32 t137 x11_3).f0) + x12_4)) != x9_2) = false := bne_eq_false_iff_eq.mpr c22
                                    clear c22
                                    have H' := Aside0.mk H
                                    clear H
                                    have p142 : 0 ≤ (x11_3 : Int) := of_decide_eq_true (by first | (with_reducible assumption) | assumption)
                                    have q142 : x11_3 < (t137.length : Int) := of_decide_eq_true (by first | (with_reducible assumption) | assumption)
                                    obtain ⟨ad142, e142, hx142_0, hx142_1⟩ := at_T32 (Kd.R_reads' HO_5.out).2.2 x11_3 p142 q142
                                    cases e142
                                    replace p142 := eq_true p142
                                    replace q142 := eq_true q142
                                    have p143 : 0 ≤ (x11_3 : Int) := of_decide_eq_true (by first | (with_reducible assumption) | assumption)
                                    have q143 : x11_3 < (t137.length : Int) := of_decide_eq_true (by first | (with_reducible assumption) | assumption)
                                    obtain ⟨ad143, e143, hx143_0, hx143_1⟩ := at_T32 (Kd.R_reads' HO_5.out).2.2 x11_3 p143 q143
                                    obtain rfl : ad142 = ad143 := (by injection e143)
                                    replace p143 := eq_true p143
                                    replace q143 := eq_true q143
                                    go_wp2
                                    repeat (go_quiet (fail); try go_wp2)
                                    go_roundg k4
                                    case measure => have := HJ3.out; have := HK2.out; have := HK3.out; have := HK4.out; omega
                                    case rel => exact ⟨(x10_4), (wrap64 (x12_4 + 1)), (by first | rfl | (simp; done) | (simp [*]; done)), (by first | rfl | (simp; done) | (simp [*]; done)), H', ⟨by have := HJ3.out; have := HK2.out; have := HK3.out; have := HK4.out; omega⟩, ⟨by (with_reducible repeat (first | apply Kd.R_alloc | apply Kd.R_drewN | apply Kd.R_drew)); exact HO_5.out⟩, ⟨by repeat (first | (with_reducible first | exact HB.out | apply below_alloc | apply pw_below_drewN | apply below_drew1) | exact HB.out)⟩⟩
                                  · rw [if_neg c22] at H
                                    have c22b0 : ((wrap64 (((rd_T32 t137 x11_3).f0) + x12_4)) == x9_2) = false := beq_eq_false_iff_ne.mpr c22
                                    have c22b1 : ((wrap64 (((rd_T32 t137 x11_3).f0) + x12_4)) != x9_2) = true := bne_iff_ne.mpr c22
                                    have H' := Aside0.mk H
                                    clear H
                                    have p142 : 0 ≤ (x11_3 : Int) := of_decide_eq_true (by first | (with_reducible assumption) | assumption)
                                    have q142 : x11_3 < (t137.length : Int) := of_decide_eq_true (by first | (with_reducible assumption) | assumption)
                                    obtain ⟨ad142, e142, hx142_0, hx142_1⟩ := at_T32 (Kd.R_reads' HO_5.out).2.2 x11_3 p142 q142
                                    cases e142
                                    replace p142 := eq_true p142
                                    replace q142 := eq_true q142
                                    have p143 : 0 ≤ (x11_3 : Int) := of_decide_eq_true (by first | (with_reducible assumption) | assumption)
                                    have q143 : x11_3 < (t137.length : Int) := of_decide_eq_true (by first | (with_reducible assumption) | assumption)
                                    obtain ⟨ad143, e143, hx143_0, hx143_1⟩ := at_T32 (Kd.R_reads' HO_5.out).2.2 x11_3 p143 q143
                                    obtain rfl : ad142 = ad143 := (by injection e143)
                                    replace p143 := eq_true p143
                                    replace q143 := eq_true q143
                                    go_wp2
                                    repeat (go_quiet (fail); try go_wp2)
                                    go_roundg k4
                                    case measure => have := HJ3.out; have := HK2.out; have := HK3.out; have := HK4.out; omega
                                    case rel => exact ⟨(x10_4), (wrap64 (x12_4 + 1)), (by first | rfl | (simp; done) | (simp [*]; done)), (by first | rfl | (simp; done) | (simp [*]; done)), H', ⟨by have := HJ3.out; have := HK2.out; have := HK3.out; have := HK4.out; omega⟩, ⟨by (with_reducible repeat (first | apply Kd.R_alloc | apply Kd.R_drewN | apply Kd.R_drew)); exact HO_5.out⟩, ⟨by repeat (first | (with_reducible first | exact HB.out | apply below_alloc | apply pw_below_drewN | apply below_drew1) | exact HB.out)⟩⟩
                            · rw [if_neg c19] at H
                              have c19b0 : decide (0 < a1) = false := decide_eq_false c19
                              clear c19
                              by_cases c23 : (wrap64 (((rd_T32 t137 x11_3).f0) + x12_4)) = x9_2
                              · rw [if_pos c23] at H
                                have c23b0 : ((wrap64 (((rd_T32 t137 x11_3).f0) + x12_4)) == x9_2) = true := beq_iff_eq.mpr c23
                                have c23b1 : ((wrap64 (((rd_T32 t137 x11_3).f0) + x12_4)) != x9_2) = false := bne_eq_false_iff_eq.mpr c23
                                clear c23
                                by_cases c24 : a1 = 0
                                · rw [if_pos c24] at H
                                  have c24b0 : (a1 == 0) = true := beq_iff_eq.mpr c24
                                  have c24b1 : (a1 != 0) = false := bne_eq_false_iff_eq.mpr c24
                                  clear c24
                                  have H' := Aside0.mk H
                                  clear H
                                  have p142 : 0 ≤ (x11_3 : Int) := of_decide_eq_true (by first | (with_reducible assumption) | assumption)
                                  have q142 : x11_3 < (t137.length : Int) := of_decide_eq_true (by first | (with_reducible assumption) | assumption)
                                  obtain ⟨ad142, e142, hx142_0, hx142_1⟩ := at_T32 (Kd.R_reads' HO_5.out).2.2 x11_3 p142 q142
                                  cases e142
                                  replace p142 := eq_true p142
                                  replace q142 := eq_true q142
                                  have p143 : 0 ≤ (x11_3 : Int) := of_decide_eq_true (by first | (with_reducible assumption) | assumption)
                                  have q143 : x11_3 < (t137.length : Int) := of_decide_eq_true (by first | (with_reducible assumption) | assumption)
                                  obtain ⟨ad143, e143, hx143_0, hx143_1⟩ := at_T32 (Kd.R_reads' HO_5.out).2.2 x11_3 p143 q143
                                  obtain rfl : ad142 = ad143 := (by injection e143)
                                  replace p143 := eq_true p143
                                  replace q143 := eq_true q143
                                  go_wp2
                                  repeat (go_quiet (fail); try go_wp2)
                                  go_roundg k4
                                  case measure => have := HJ3.out; have := HK2.out; have := HK3.out; have := HK4.out; omega
                                  case rel => exact ⟨(wrap64 (x10_4 + 1)), (wrap64 (x11_3 + 1)), (by first | rfl | (simp; done) | (simp [*]; done)), (by first | rfl | (simp; done) | (simp [*]; done)), H', ⟨by have := HJ3.out; have := HK2.out; have := HK3.out; have := HK4.out; omega⟩, ⟨by (with_reducible repeat (first | apply Kd.R_alloc | apply Kd.R_drewN | apply Kd.R_drew)); exact HO_5.out⟩, ⟨by repeat (first | (with_reducible first | exact HB.out | apply below_alloc | apply pw_below_drewN | apply below_drew1) | exact HB.out)⟩⟩
                                · rw [if_neg c24] at H
                                  have c24b0 : (a1 == 0) = false := beq_eq_false_iff_ne.mpr c24
                                  have c24b1 : (a1 != 0) = true := bne_iff_ne.mpr c24
                                  have H' := Aside0.mk H
                                  clear H
                                  have p142 : 0 ≤ (x11_3 : Int) := of_decide_eq_true (by first | (with_reducible assumption) | assumption)
                                  have q142 : x11_3 < (t137.length : Int) := of_decide_eq_true (by first | (with_reducible assumption) | assumption)
                                  obtain ⟨ad142, e142, hx142_0, hx142_1⟩ := at_T32 (Kd.R_reads' HO_5.out).2.2 x11_3 p142 q142
                                  cases e142
                                  replace p142 := eq_true p142
                                  replace q142 := eq_true q142
                                  have p143 : 0 ≤ (x11_3 : Int) := of_decide_eq_true (by first | (with_reducible assumption) | assumption)
                                  have q143 : x11_3 < (t137.length : Int) := of_decide_eq_true (by first | (with_reducible assumption) | assumption)
                                  obtain ⟨ad143, e143, hx143_0, hx143_1⟩ := at_T32 (Kd.R_reads' HO_5.out).2.2 x11_3 p143 q143
                                  obtain rfl : ad142 = ad143 := (by injection e143)
                                  replace p143 := eq_true p143
                                  replace q143 := eq_true q143
                                  go_wp2
                                  repeat (go_quiet (fail); try go_wp2)
                                  go_roundg k4
                                  case measure => have := HJ3.out; have := HK2.out; have := HK3.out; have := HK4.out; omega
                                  case rel => exact ⟨(x10_4), (wrap64 (x12_4 + 1)), (by first | rfl | (simp; done) | (simp [*]; done)), (by first | rfl | (simp; done) | (simp [*]; done)), H', ⟨by have := HJ3.out; have := HK2.out; have := HK3.out; have := HK4.out; omega⟩, ⟨by (with_reducible repeat (first | apply Kd.R_alloc | apply Kd.R_drewN | apply Kd.R_drew)); exact HO_5.out⟩, ⟨by repeat (first | (with_reducible first | exact HB.out | apply below_alloc | apply pw_below_drewN | apply below_drew1) | exact HB.out)⟩⟩
                              · rw [if_neg c23] at H
                                have c23b0 : ((wrap64 (((rd_T32 t137 x11_3).f0) + x12_4)) == x9_2) = false := beq_eq_false_iff_ne.mpr c23
                                have c23b1 : ((wrap64 (((rd_T32 t137 x11_3).f0) + x12_4)) != x9_2) = true := bne_iff_ne.mpr c23
                                have H' := Aside0.mk H
                                clear H
                                have p142 : 0 ≤ (x11_3 : Int) := of_decide_eq_true (by first | (with_reducible assumption) | assumption)
                                have q142 : x11_3 < (t137.length : Int) := of_decide_eq_true (by first | (with_reducible assumption) | assumption)
                                obtain ⟨ad142, e142, hx142_0, hx142_1⟩ := at_T32 (Kd.R_reads' HO_5.out).2.2 x11_3 p142 q142
                                cases e142
                                replace p142 := eq_true p142
                                replace q142 := eq_true q142
                                have p143 : 0 ≤ (x11_3 : Int) := of_decide_eq_true (by first | (with_reducible assumption) | assumption)
                                have q143 : x11_3 < (t137.length : Int) := of_decide_eq_true (by first | (with_reducible assumption) | assumption)
                                obtain ⟨ad143, e143, hx143_0, hx143_1⟩ := at_T32 (Kd.R_reads' HO_5.out).2.2 x11_3 p143 q143
                                obtain rfl : ad142 = ad143 := (by injection e143)
                                replace p143 := eq_true p143
                                replace q143 := eq_true q143
                                go_wp2
                                repeat (go_quiet (fail); try go_wp2)
                                go_roundg k4
                                case measure => have := HJ3.out; have := HK2.out; have := HK3.out; have := HK4.out; omega
                                case rel => exact ⟨(x10_4), (wrap64 (x12_4 + 1)), (by first | rfl | (simp; done) | (simp [*]; done)), (by first | rfl | (simp; done) | (simp [*]; done)), H', ⟨by have := HJ3.out; have := HK2.out; have := HK3.out; have := HK4.out; omega⟩, ⟨by (with_reducible repeat (first | apply Kd.R_alloc | apply Kd.R_drewN | apply Kd.R_drew)); exact HO_5.out⟩, ⟨by repeat (first | (with_reducible first | exact HB.out | apply below_alloc | apply pw_below_drewN | apply below_drew1) | exact HB.out)⟩⟩
                          · rw [if_neg c18] at H
                            have c18b0 : decide (x12_4 < ((rd_T32 t137 x11_3).f1)) = false := decide_eq_false c18
                            clear c18
                            have H' := Aside0.mk H
                            clear H
                            have p142 : 0 ≤ (x11_3 : Int) := of_decide_eq_true (by first | (with_reducible assumption) | assumption)
                            have q142 : x11_3 < (t137.length : Int) := of_decide_eq_true (by first | (with_reducible assumption) | assumption)
                            obtain ⟨ad142, e142, hx142_0, hx142_1⟩ := at_T32 (Kd.R_reads' HO_5.out).2.2 x11_3 p142 q142
                            cases e142
                            replace p142 := eq_true p142
                            replace q142 := eq_true q142
                            go_wp2
                            repeat (go_quiet (fail); try go_wp2)
                            go_roundg k4
                            case measure => have := HJ3.out; have := HK2.out; have := HK3.out; have := HK4.out; omega
                            case rel => exact ⟨(x10_4), (wrap64 (x11_3 + 1)), (by first | rfl | (simp; done) | (simp [*]; done)), (by first | rfl | (simp; done) | (simp [*]; done)), H', ⟨by have := HJ3.out; have := HK2.out; have := HK3.out; have := HK4.out; omega⟩, ⟨by (with_reducible repeat (first | apply Kd.R_alloc | apply Kd.R_drewN | apply Kd.R_drew)); exact HO_5.out⟩, ⟨by repeat (first | (with_reducible first | exact HB.out | apply below_alloc | apply pw_below_drewN | apply below_drew1) | exact HB.out)⟩⟩
                        · rw [if_neg c17] at H
                          exact absurd H (by simp)
                      · rw [if_neg c16] at H
                        exact absurd H (by simp)
                · rw [if_neg c14] at H
                  have c14b0 : decide (x11_3 < (t137.length : Int)) = false := decide_eq_false c14
                  clear c14
                  obtain ⟨ji25, hji25⟩ : ∃ j_ : Int, (mx x6_2 x10_3) = j_ := ⟨_, rfl⟩
                  replace H : (jacquardref37_Pressure.l1 k3 a1 t137 ji25 x7_3 (wrap64 (x9_2 + 1))) = some r := by first | (rw [hji25] at H; exact H) | (simp only [hji25] at H ⊢; exact H)
                  have hji25_ : (if x6_2 < x10_3 then x10_3 else x6_2) = ji25 := hji25
                  have H' := Aside0.mk H
                  clear H
                  obtain ⟨Ao26, co26, eo26⟩ := Kd.R_slice HO_5.out
                  subst eo26
                  go_wp2
                  repeat (go_quiet (fail); try go_wp2)
                  go_roundg k3
                  case measure => have := HJ3.out; have := HK2.out; have := HK3.out; omega
                  case rel => exact ⟨(ji25), (wrap64 (x9_2 + 1)), (by first | rfl | (simp; done) | (simp only [← hji25] <;> (first | rfl | simp)) | (simp [*]; done)), (by first | rfl | (simp; done) | (simp [*]; done)), H', ⟨by have := HJ3.out; have := HK2.out; have := HK3.out; omega⟩, ⟨by (with_reducible repeat (first | apply Kd.R_alloc | apply Kd.R_drewN | apply Kd.R_drew)); exact HO_5.out⟩, ⟨by repeat (first | (with_reducible first | exact HB.out | apply below_alloc | apply pw_below_drewN | apply below_drew1) | exact HB.out)⟩⟩
          · rw [if_neg c13] at H
            have c13b0 : decide (x9_2 < x7_3) = false := decide_eq_false c13
            clear c13
            obtain rfl := Option.some.inj H
            go_wp2
            repeat (go_quiet (fail); try go_wp2)
            go_ret
            exact ⟨by first | rfl | (simp [errW_none, errW_some] <;> rfl) | (simp [*, errW_none, errW_some] <;> rfl), by repeat (first | (with_reducible first | exact HB.out | apply below_alloc | apply pw_below_drewN | apply below_drew1) | exact HB.out)⟩

end Go.Proofs.Ytgcgohahpgbbfaa.PLifetimeSpans
