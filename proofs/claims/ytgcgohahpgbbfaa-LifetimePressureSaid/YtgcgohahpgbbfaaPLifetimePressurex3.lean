-- Written for this claim by a program of this session (wip/print2 in its repo), which runs a changed printer. Lean checks it.
import Derived.Test.YtgcgohahpgbbfaaPLifetimePressurex0
import Derived.Test.YtgcgohahpgbbfaaPLifetimePressurex1
import Derived.Test.YtgcgohahpgbbfaaPLifetimePressurex2
namespace Go.Proofs.Ytgcgohahpgbbfaa.PLifetimePressure
open Go.RowKit Go.Proofs.YtgcgohahpgbbfaaW.PrintWords Go.Proofs.YtgcgohahpgbbfaaW.PrintLast Go.Proofs.YtgcgohahpgbbfaaW.PrintMore
attribute [local go_sem] max2_int min2_int max_two min_two max_three min_three max_four min_four   -- for this text's walks alone
set_option linter.unusedVariables false
set_option linter.unusedSimpArgs false

/-! ### jacquardlaw37_LifetimePressure: function 4 -/
mutual
def jacquardlaw37_LifetimePressure.j0 : Nat → List (S83) → Int → Bool → Option (Bool)
  | 0, _, _, _ => none
  | k + 1, x0, x1, x18 => if x18 = true then ((jacquardlaw37_awake.f).bind fun t127 => (some t127)) else ((jacquardlaw37_lives.f k x0).bind fun t128 => (jacquardlaw37_LifetimePressure.l0 k x0 t128 (wrap64 (Int.tmod x1 21)) 0 (t128.length : Int) 0))
def jacquardlaw37_LifetimePressure.l0 : Nat → List (S83) → List (S28) → Int → Int → Int → Int → Option (Bool)
  | 0, _, _, _, _, _, _ => none
  | k + 1, x0, x5, x6, x7, x26, x27 => if x27 < x26 then (if 0 ≤ x27 then (if x27 ≤ (x5.length : Int) then ((lifetime_Pressure.f k (x5.take (x27 : Int).toNat) x6).bind fun t135 => (if 0 ≤ (wrap64 (x27 + 1)) then (if (wrap64 (x27 + 1)) ≤ (x5.length : Int) then ((lifetime_Pressure.f k (x5.take ((wrap64 (x27 + 1)) : Int).toNat) x6).bind fun t140 => (if t135 > t140 then (some false) else (if x27 < (x5.length : Int) then ((lifetime_Length.f ((rd_T28 x5 x27).f0) ((rd_T28 x5 x27).f1) ((rd_T28 x5 x27).f2) x6).bind fun t142 => (if t140 > (wrap64 (t135 + t142)) then (some false) else ((lifetime_Length.f ((rd_T28 x5 x27).f0) ((rd_T28 x5 x27).f1) ((rd_T28 x5 x27).f2) x6).bind fun t144 => (jacquardlaw37_LifetimePressure.l0 k x0 x5 x6 (wrap64 (x7 + t144)) x26 (wrap64 (x27 + 1)))))) else (none)))) else (none)) else (none))) else (none)) else (none)) else (jacquardlaw37_LifetimePressure.l1 k x0 x5 x6 x7 (x5.length : Int) 0)
def jacquardlaw37_LifetimePressure.l1 : Nat → List (S83) → List (S28) → Int → Int → Int → Int → Option (Bool)
  | 0, _, _, _, _, _, _ => none
  | k + 1, x0, x5, x6, x7, x66, x67 => if x67 < x66 then (if 0 ≤ x67 then (if x67 < (x5.length : Int) then ((some (x5.set (x67 : Int).toNat (⟨(rd_T28 x5 x67).f0, 5, (rd_T28 x5 x67).f2⟩ : S28) : List (S28))).bind fun y145 => (jacquardlaw37_LifetimePressure.l1 k x0 (y145.set (x67 : Int).toNat (⟨(rd_T28 y145 x67).f0, (rd_T28 y145 x67).f1, 5⟩ : S28)) x6 x7 x66 (wrap64 (x67 + 1)))) else (none)) else (none)) else ((jacquardlaw37_lives.f k x0).bind fun t147 => ((lifetime_Pressure.f k t147 x6).bind fun t150 => (if t150 ≤ x7 then ((lifetime_Pressure.f k x5 x6).bind fun t151 => (some (t151 == (x5.length : Int)))) else (some false))))
end
def jacquardlaw37_LifetimePressure.f (k : Nat) (l0 : List (S83)) (a1 : Int) : Option (Bool) := (jacquardlaw37_awake.f).bind fun t126 => (if t126 = true then (jacquardlaw37_LifetimePressure.j0 k l0 a1 (decide ((l0.length : Int) > 30))) else (jacquardlaw37_LifetimePressure.j0 k l0 a1 true))
theorem jacquardlaw37_LifetimePressure.mono_l : ∀ k, (∀ y0 y1 y2, LeO (jacquardlaw37_LifetimePressure.j0 k y0 y1 y2) (jacquardlaw37_LifetimePressure.j0 (k + 1) y0 y1 y2)) ∧ (∀ y0 y1 y2 y3 y4 y5, LeO (jacquardlaw37_LifetimePressure.l0 k y0 y1 y2 y3 y4 y5) (jacquardlaw37_LifetimePressure.l0 (k + 1) y0 y1 y2 y3 y4 y5)) ∧ (∀ y0 y1 y2 y3 y4 y5, LeO (jacquardlaw37_LifetimePressure.l1 k y0 y1 y2 y3 y4 y5) (jacquardlaw37_LifetimePressure.l1 (k + 1) y0 y1 y2 y3 y4 y5))
  | 0 => ⟨fun _ _ _ r h => by simp [jacquardlaw37_LifetimePressure.j0] at h, fun _ _ _ _ _ _ r h => by simp [jacquardlaw37_LifetimePressure.l0] at h, fun _ _ _ _ _ _ r h => by simp [jacquardlaw37_LifetimePressure.l1] at h⟩
  | k + 1 => by
    obtain ⟨ih0, ih1, ih2⟩ := jacquardlaw37_LifetimePressure.mono_l k
    refine ⟨?_, ?_, ?_⟩
    · intro y0 y1 y2
      unfold jacquardlaw37_LifetimePressure.j0
      repeat' first
      | (with_reducible exact ih0 _ _ _)
      | (with_reducible exact ih1 _ _ _ _ _ _)
      | (with_reducible exact ih2 _ _ _ _ _ _)
      | (with_reducible exact jacquardlaw37_lives.mono _ _)
      | (with_reducible exact lifetime_Pressure.mono _ _ _)
      | (with_reducible exact LeO.refl _)
      | (with_reducible exact LeO.none _)
      | (with_reducible refine LeO.ite ?_ ?_)
      | (with_reducible refine LeO.bind ?_ (fun _ => ?_))
      | exact ih0 _ _ _
      | exact ih1 _ _ _ _ _ _
      | exact ih2 _ _ _ _ _ _
      | exact jacquardlaw37_lives.mono _ _
      | exact lifetime_Pressure.mono _ _ _
      | exact LeO.none _
      | refine LeO.ite ?_ ?_
      | refine LeO.bind ?_ (fun _ => ?_)
    · intro y0 y1 y2 y3 y4 y5
      unfold jacquardlaw37_LifetimePressure.l0
      repeat' first
      | (with_reducible exact ih0 _ _ _)
      | (with_reducible exact ih1 _ _ _ _ _ _)
      | (with_reducible exact ih2 _ _ _ _ _ _)
      | (with_reducible exact jacquardlaw37_lives.mono _ _)
      | (with_reducible exact lifetime_Pressure.mono _ _ _)
      | (with_reducible exact LeO.refl _)
      | (with_reducible exact LeO.none _)
      | (with_reducible refine LeO.ite ?_ ?_)
      | (with_reducible refine LeO.bind ?_ (fun _ => ?_))
      | exact ih0 _ _ _
      | exact ih1 _ _ _ _ _ _
      | exact ih2 _ _ _ _ _ _
      | exact jacquardlaw37_lives.mono _ _
      | exact lifetime_Pressure.mono _ _ _
      | exact LeO.none _
      | refine LeO.ite ?_ ?_
      | refine LeO.bind ?_ (fun _ => ?_)
    · intro y0 y1 y2 y3 y4 y5
      unfold jacquardlaw37_LifetimePressure.l1
      repeat' first
      | (with_reducible exact ih0 _ _ _)
      | (with_reducible exact ih1 _ _ _ _ _ _)
      | (with_reducible exact ih2 _ _ _ _ _ _)
      | (with_reducible exact jacquardlaw37_lives.mono _ _)
      | (with_reducible exact lifetime_Pressure.mono _ _ _)
      | (with_reducible exact LeO.refl _)
      | (with_reducible exact LeO.none _)
      | (with_reducible refine LeO.ite ?_ ?_)
      | (with_reducible refine LeO.bind ?_ (fun _ => ?_))
      | exact ih0 _ _ _
      | exact ih1 _ _ _ _ _ _
      | exact ih2 _ _ _ _ _ _
      | exact jacquardlaw37_lives.mono _ _
      | exact lifetime_Pressure.mono _ _ _
      | exact LeO.none _
      | refine LeO.ite ?_ ?_
      | refine LeO.bind ?_ (fun _ => ?_)
theorem jacquardlaw37_LifetimePressure.mono : ∀ a0 a1 k, LeO (jacquardlaw37_LifetimePressure.f k a0 a1) (jacquardlaw37_LifetimePressure.f (k + 1) a0 a1) := by
  intro a0 a1 k
  obtain ⟨ih0, ih1, ih2⟩ := jacquardlaw37_LifetimePressure.mono_l k
  unfold jacquardlaw37_LifetimePressure.f
  repeat' first
      | (with_reducible exact ih0 _ _ _)
      | (with_reducible exact ih1 _ _ _ _ _ _)
      | (with_reducible exact ih2 _ _ _ _ _ _)
      | (with_reducible exact jacquardlaw37_lives.mono _ _)
      | (with_reducible exact lifetime_Pressure.mono _ _ _)
      | (with_reducible exact LeO.refl _)
      | (with_reducible exact LeO.none _)
      | (with_reducible refine LeO.ite ?_ ?_)
      | (with_reducible refine LeO.bind ?_ (fun _ => ?_))
      | exact ih0 _ _ _
      | exact ih1 _ _ _ _ _ _
      | exact ih2 _ _ _ _ _ _
      | exact jacquardlaw37_lives.mono _ _
      | exact lifetime_Pressure.mono _ _ _
      | exact LeO.none _
      | refine LeO.ite ?_ ?_
      | refine LeO.bind ?_ (fun _ => ?_)
def jacquardlaw37_LifetimePressure.T8 : Bool × List (List Nat × List Nat) := (true, [([], []), ([], []), ([0, 1], [0, 1]), ([], []), ([2, 3], [2, 3]), ([], []), ([], []), ([6], [6]), ([5, 7], [5, 7]), ([], []), ([8, 9, 4], [8, 9]), ([4, 10, 0, 1, 2, 3, 4], [4]), ([10, 11, 0, 1, 2, 3, 4, 5, 6, 7, 8, 9, 10, 11], [10])])
def jacquardlaw37_LifetimePressure.B8 : List Nat := [0, 0, 3, 0, 15, 0, 0, 64, 224, 0, 1023, 2047, 4095]
theorem jacquardlaw37_LifetimePressure.tab8 : rtab .any (opsOf Try.f4 8) = jacquardlaw37_LifetimePressure.T8 := by kernel_rfl
theorem jacquardlaw37_LifetimePressure.bits8 : waitsOk jacquardlaw37_LifetimePressure.T8.2 jacquardlaw37_LifetimePressure.B8 = true := by kernel_rfl
set_option maxHeartbeats 8000000 in
set_option maxRecDepth 100000 in
theorem jacquardlaw37_LifetimePressure.calls (k : Nat) (A0 : Option Addr) (c0 : Nat) (l0 : List (S83)) (a1 : Int) (r : Bool) (w : World) (hr0 : Kd.C k83 w A0 l0.length l0) (hc0 : l0.length ≤ c0) (h : jacquardlaw37_LifetimePressure.f k l0 a1 = some r) (hr_ : r = true) :
    Calls Try.prog 4 #[.slice A0 l0.length c0, .int .u8 a1] w fun e w' => e = .returned (.bool r) ∧ Below w.heap.size w w' := by
  have hu28 := Try.underlying28
  have HR0 := Aside0.mk hr0
  have HC0 := Aside0.mk hc0
  clear hr0 hc0
  have HB := Aside0.mk (Below.refl w.heap.size w)
  have HRT_ := Aside0.mk hr_
  clear hr_
  have H : ((jacquardlaw37_awake.f).bind fun t126 => (if t126 = true then (jacquardlaw37_LifetimePressure.j0 k l0 a1 (decide ((l0.length : Int) > 30))) else (jacquardlaw37_LifetimePressure.j0 k l0 a1 true))) = some r := h
  clear h
  have HC3 := Aside0.mk H
  clear H
  go_enter Try.func4, Try.ntmps4
  go_upto_region 1 with (fail)
  go_cut [18] (fun v18 wc => ∃ (kq : Nat) (x18_2 : Bool), v18 = .bool x18_2 ∧ Aside0 (jacquardlaw37_LifetimePressure.j0 kq l0 a1 x18_2 = some r) ∧ Aside0 (kq ≤ k) ∧ Aside0 (Below w.heap.size w wc))
  case first =>
    have H := HC3.out
    clear HC3
    replace H := Option.bind_eq_some_iff.mp H
    obtain ⟨t126, A40, H⟩ := H
    replace H : (if t126 = true then (jacquardlaw37_LifetimePressure.j0 k l0 a1 (decide ((l0.length : Int) > 30))) else (jacquardlaw37_LifetimePressure.j0 k l0 a1 true)) = some r := H
    have A4 := Aside0.mk A40
    clear A40
    by_cases c5 : t126 = true
    · subst c5
      have H1 : (jacquardlaw37_LifetimePressure.j0 k l0 a1 (decide ((l0.length : Int) > 30))) = some r := by rw [if_pos rfl] at H; exact H
      clear H
      have H := H1
      clear H1
      have H' := Aside0.mk H
      clear H
      go_wp2_with (first | ((with_reducible refine gate_callee (f := 9) rfl ?_); refine goesL_ (some 12) rfl rfl Try.func9 (by kernel_rfl) rfl #[] rfl (by (try simp only [List.map_toArray, List.map_cons, List.map_nil]); first | done | rfl | (simp only [List.length_drop, List.length_take]; rfl)) ?_; (with_reducible refine (jacquardlaw37_awake.calls  true _ A4.out).mono ?_); rintro e w6 ⟨rfl, hb⟩; refine ⟨_, rfl, ?_⟩; have n0_ := Aside0.mk (below_step (by repeat (first | (with_reducible first | exact HB.out | apply below_alloc | apply pw_below_drewN | apply below_drew1) | exact HB.out)) hb); clear HB; have HB := n0_; clear n0_; (try clear hb); (try clear hb2); (try clear hk); (try clear hi)))
      go_meet
      case rel => exact ⟨_, (decide ((l0.length : Int) > 30)), (by first | rfl | (simp; done) | (simp [*]; done)), H', ⟨by first | omega | exact Nat.le_refl _⟩, ⟨by repeat (first | (with_reducible first | exact HB.out | apply below_alloc | apply pw_below_drewN | apply below_drew1) | exact HB.out)⟩⟩
    · replace c5 := Bool.eq_false_iff.mpr c5
      subst c5
      have H1 : (jacquardlaw37_LifetimePressure.j0 k l0 a1 true) = some r := by rw [if_neg (show ¬ (false = true) by decide)] at H; exact H
      clear H
      have H := H1
      clear H1
      have H' := Aside0.mk H
      clear H
      go_wp2_with (first | ((with_reducible refine gate_callee (f := 9) rfl ?_); refine goesL_ (some 12) rfl rfl Try.func9 (by kernel_rfl) rfl #[] rfl (by (try simp only [List.map_toArray, List.map_cons, List.map_nil]); first | done | rfl | (simp only [List.length_drop, List.length_take]; rfl)) ?_; (with_reducible refine (jacquardlaw37_awake.calls  false _ A4.out).mono ?_); rintro e w7 ⟨rfl, hb⟩; refine ⟨_, rfl, ?_⟩; have n0_ := Aside0.mk (below_step (by repeat (first | (with_reducible first | exact HB.out | apply below_alloc | apply pw_below_drewN | apply below_drew1) | exact HB.out)) hb); clear HB; have HB := n0_; clear n0_; (try clear hb); (try clear hb2); (try clear hk); (try clear hi)))
      go_meet
      case rel => exact ⟨_, (true), (by first | rfl | (simp; done) | (simp [*]; done)), H', ⟨by first | omega | exact Nat.le_refl _⟩, ⟨by repeat (first | (with_reducible first | exact HB.out | apply below_alloc | apply pw_below_drewN | apply below_drew1) | exact HB.out)⟩⟩
  case rest =>
    clear HC3
    try clear p2
    try clear c4
    try clear c5
    obtain ⟨kq, x18_2, rfl, HA, HJ2, HB⟩ := hcut
    cases kq with
    | zero => exact absurd HA.out (by simp [jacquardlaw37_LifetimePressure.j0])
    | succ kj2 =>
      have H := HA.out
      clear HA
      simp only [jacquardlaw37_LifetimePressure.j0] at H
      by_cases c8 : x18_2 = true
      · subst c8
        have H1 : ((jacquardlaw37_awake.f).bind fun t127 => (some t127)) = some r := by rw [if_pos rfl] at H; exact H
        clear H
        have H := H1
        clear H1
        replace H := Option.bind_eq_some_iff.mp H
        obtain ⟨t127, A90, H⟩ := H
        replace H : (some t127) = some r := H
        have A9 := Aside0.mk A90
        clear A90
        obtain rfl := Option.some.inj H
        go_wp2_with (first | ((with_reducible refine gate_callee (f := 9) rfl ?_); refine goesL_ (some 19) rfl rfl Try.func9 (by kernel_rfl) rfl #[] rfl (by (try simp only [List.map_toArray, List.map_cons, List.map_nil]); first | done | rfl | (simp only [List.length_drop, List.length_take]; rfl)) ?_; (with_reducible refine (jacquardlaw37_awake.calls  t127 _ A9.out).mono ?_); rintro e w10 ⟨rfl, hb⟩; refine ⟨_, rfl, ?_⟩; have n0_ := Aside0.mk (below_step (by repeat (first | (with_reducible first | exact HB.out | apply below_alloc | apply pw_below_drewN | apply below_drew1) | exact HB.out)) hb); clear HB; have HB := n0_; clear n0_; (try clear hb); (try clear hb2); (try clear hk); (try clear hi)))
        go_ret
        exact ⟨by first | rfl | (simp [errW_none, errW_some] <;> rfl) | (simp [*, errW_none, errW_some] <;> rfl), by repeat (first | (with_reducible first | exact HB.out | apply below_alloc | apply pw_below_drewN | apply below_drew1) | exact HB.out)⟩
      · replace c8 := Bool.eq_false_iff.mpr c8
        subst c8
        have H1 : ((jacquardlaw37_lives.f kj2 l0).bind fun t128 => (jacquardlaw37_LifetimePressure.l0 kj2 l0 t128 (wrap64 (Int.tmod a1 21)) 0 (t128.length : Int) 0)) = some r := by rw [if_neg (show ¬ (false = true) by decide)] at H; exact H
        clear H
        have H := H1
        clear H1
        replace H := Option.bind_eq_some_iff.mp H
        obtain ⟨t128, A110, H⟩ := H
        replace H : (jacquardlaw37_LifetimePressure.l0 kj2 l0 t128 (wrap64 (Int.tmod a1 21)) 0 (t128.length : Int) 0) = some r := H
        have A11 := Aside0.mk A110
        clear A110
        have H' := Aside0.mk H
        clear H
        go_wp2_with (first | ((with_reducible refine gate_callee (f := 10) rfl ?_); refine goesL_ (some 21) rfl rfl Try.func10 (by kernel_rfl) rfl #[.slice A0 l0.length c0] rfl (by (try simp only [List.map_toArray, List.map_cons, List.map_nil]); first | done | rfl | (simp only [List.length_drop, List.length_take]; rfl)) ?_; (with_reducible refine (jacquardlaw37_lives.calls kj2 _ _ l0 t128 _ ?side1 ?side2 A11.out).mono ?_); (case side1 => repeat (first | exact (Kd.C_below HR0.out HB.out) | (with_reducible refine Kd.C_alloc ?_ _) | (with_reducible refine Kd.C_drewN ?_ _) | (with_reducible refine Kd.C_drew ?_))); (case side2 => exact HC0.out); rintro e w12 ⟨v129, rfl, ho0, hb⟩; refine ⟨_, rfl, ?_⟩; have n0_ := Aside0.mk (Kd.R_lower ho0 (below_size (by repeat (first | (with_reducible first | exact HB.out | apply below_alloc | apply pw_below_drewN | apply below_drew1) | exact HB.out)))); have n1_ := Aside0.mk (below_step (by repeat (first | (with_reducible first | exact HB.out | apply below_alloc | apply pw_below_drewN | apply below_drew1) | exact HB.out)) hb); clear HB; have HO130 := n0_; have HB := n1_; clear n0_ n1_; (try clear hb); (try clear hb2); (try clear hk); (try clear hi); (try clear ho0); obtain ⟨Ao13, co13, eo13⟩ := Kd.R_slice HO130.out; subst eo13))
        go_loopg [7, 27] kj2 (fun kq v7 v27 w' => ∃ (x7_2 : Int) (x27_2 : Int), v7 = .int .i64 x7_2 ∧ v27 = .int .i64 x27_2 ∧ Aside0 (jacquardlaw37_LifetimePressure.l0 kq l0 t128 (wrap64 (Int.tmod a1 21)) x7_2 (t128.length : Int) x27_2 = some r) ∧ Aside0 (kq ≤ kj2) ∧ Aside0 (Kd.R k28 28 w' w.heap.size (fun _ => True) (.slice Ao13 t128.length co13) t128) ∧ Aside0 (Below w.heap.size w w'))
        case atStart => exact ⟨(0), (0), (by first | rfl | (simp; done) | (simp [*]; done)), (by first | rfl | (simp; done) | (simp [*]; done)), H', ⟨Nat.le_refl _⟩, ⟨by (with_reducible repeat (first | apply Kd.R_alloc | apply Kd.R_drewN | apply Kd.R_drew)); exact HO130.out⟩, ⟨by repeat (first | (with_reducible first | exact HB.out | apply below_alloc | apply pw_below_drewN | apply below_drew1) | exact HB.out)⟩⟩
        case round =>
          clear H'
          try clear c1
          try clear p2
          try clear c4
          try clear c5
          try clear p6
          try clear c8
          try clear c9
          try clear c10
          try clear p2
          obtain ⟨x7_2, x27_2, rfl, rfl, HA, HK2, HO_5, HB⟩ := hrel
          cases gk with
          | zero => exact absurd HA.out (by simp [jacquardlaw37_LifetimePressure.l0])
          | succ k2 =>
            have H := HA.out
            clear HA
            simp only [jacquardlaw37_LifetimePressure.l0] at H
            by_cases c14 : x27_2 < (t128.length : Int)
            · rw [if_pos c14] at H
              have c14b0 : decide (x27_2 < (t128.length : Int)) = true := decide_eq_true c14
              clear c14
              by_cases c15 : 0 ≤ x27_2
              · rw [if_pos c15] at H
                have c15b0 := eq_true c15
                have c15b1 : decide (0 ≤ x27_2) = true := decide_eq_true c15
                clear c15
                by_cases c16 : x27_2 ≤ (t128.length : Int)
                · rw [if_pos c16] at H
                  have c16b0 := eq_true c16
                  have c16b1 : decide (x27_2 ≤ (t128.length : Int)) = true := decide_eq_true c16
                  clear c16
                  obtain ⟨y131, hy131⟩ : ∃ y_ : List (S28), y_ = (t128.take (x27_2 : Int).toNat) := ⟨_, rfl⟩
                  replace H : ((lifetime_Pressure.f k2 y131 (wrap64 (Int.tmod a1 21))).bind fun t135 => (if 0 ≤ (wrap64 (x27_2 + 1)) then (if (wrap64 (x27_2 + 1)) ≤ (t128.length : Int) then ((lifetime_Pressure.f k2 (t128.take ((wrap64 (x27_2 + 1)) : Int).toNat) (wrap64 (Int.tmod a1 21))).bind fun t140 => (if t135 > t140 then (some false) else (if x27_2 < (t128.length : Int) then ((lifetime_Length.f ((rd_T28 t128 x27_2).f0) ((rd_T28 t128 x27_2).f1) ((rd_T28 t128 x27_2).f2) (wrap64 (Int.tmod a1 21))).bind fun t142 => (if t140 > (wrap64 (t135 + t142)) then (some false) else ((lifetime_Length.f ((rd_T28 t128 x27_2).f0) ((rd_T28 t128 x27_2).f1) ((rd_T28 t128 x27_2).f2) (wrap64 (Int.tmod a1 21))).bind fun t144 => (jacquardlaw37_LifetimePressure.l0 k2 l0 t128 (wrap64 (Int.tmod a1 21)) (wrap64 (x7_2 + t144)) (t128.length : Int) (wrap64 (x27_2 + 1)))))) else (none)))) else (none)) else (none))) = some r := by first | (rw [hy131]; with_reducible exact H) | (have H2_ := (Option.bind_some _ _).symm.trans H; rw [hy131]; with_reducible exact H2_) | (have H2_ := (Option.bind_some _ _).symm.trans H; with_reducible exact H2_) | with_reducible exact H | (rw [hy131]; exact H) | exact H
                  have Ny131 := Aside0.mk hy131
                  clear hy131
                  replace H := Option.bind_eq_some_iff.mp H
                  obtain ⟨t135, A170, H⟩ := H
                  replace H : (if 0 ≤ (wrap64 (x27_2 + 1)) then (if (wrap64 (x27_2 + 1)) ≤ (t128.length : Int) then ((lifetime_Pressure.f k2 (t128.take ((wrap64 (x27_2 + 1)) : Int).toNat) (wrap64 (Int.tmod a1 21))).bind fun t140 => (if t135 > t140 then (some false) else (if x27_2 < (t128.length : Int) then ((lifetime_Length.f ((rd_T28 t128 x27_2).f0) ((rd_T28 t128 x27_2).f1) ((rd_T28 t128 x27_2).f2) (wrap64 (Int.tmod a1 21))).bind fun t142 => (if t140 > (wrap64 (t135 + t142)) then (some false) else ((lifetime_Length.f ((rd_T28 t128 x27_2).f0) ((rd_T28 t128 x27_2).f1) ((rd_T28 t128 x27_2).f2) (wrap64 (Int.tmod a1 21))).bind fun t144 => (jacquardlaw37_LifetimePressure.l0 k2 l0 t128 (wrap64 (Int.tmod a1 21)) (wrap64 (x7_2 + t144)) (t128.length : Int) (wrap64 (x27_2 + 1)))))) else (none)))) else (none)) else (none)) = some r := H
                  have A17 := Aside0.mk A170
                  clear A170
                  obtain ⟨ji18, hji18⟩ : ∃ j_ : Int, (wrap64 (x27_2 + 1)) = j_ := ⟨_, rfl⟩
                  replace H : (if 0 ≤ (ji18) then (if (ji18) ≤ (t128.length : Int) then ((lifetime_Pressure.f k2 (t128.take ((ji18) : Int).toNat) (wrap64 (Int.tmod a1 21))).bind fun t140 => (if t135 > t140 then (some false) else (if x27_2 < (t128.length : Int) then ((lifetime_Length.f ((rd_T28 t128 x27_2).f0) ((rd_T28 t128 x27_2).f1) ((rd_T28 t128 x27_2).f2) (wrap64 (Int.tmod a1 21))).bind fun t142 => (if t140 > (wrap64 (t135 + t142)) then (some false) else ((lifetime_Length.f ((rd_T28 t128 x27_2).f0) ((rd_T28 t128 x27_2).f1) ((rd_T28 t128 x27_2).f2) (wrap64 (Int.tmod a1 21))).bind fun t144 => (jacquardlaw37_LifetimePressure.l0 k2 l0 t128 (wrap64 (Int.tmod a1 21)) (wrap64 (x7_2 + t144)) (t128.length : Int) ji18)))) else (none)))) else (none)) else (none)) = some r := by first | (rw [hji18] at H; exact H) | (simp only [hji18] at H ⊢; exact H)
                  (try rw [hji18] at A17)
                  have hji18w : (IntKind.i64.wrap (x27_2 + 1)) = ji18 := (i64_w _).trans hji18
                  by_cases c19 : 0 ≤ (ji18)
                  · rw [if_pos c19] at H
                    have c19b0 := eq_true c19
                    have c19b1 : decide (0 ≤ (ji18)) = true := decide_eq_true c19
                    clear c19
                    by_cases c20 : (ji18) ≤ (t128.length : Int)
                    · rw [if_pos c20] at H
                      have c20b0 := eq_true c20
                      have c20b1 : decide ((ji18) ≤ (t128.length : Int)) = true := decide_eq_true c20
                      clear c20
                      obtain ⟨y136, hy136⟩ : ∃ y_ : List (S28), y_ = (t128.take ((ji18) : Int).toNat) := ⟨_, rfl⟩
                      replace H : ((lifetime_Pressure.f k2 y136 (wrap64 (Int.tmod a1 21))).bind fun t140 => (if t135 > t140 then (some false) else (if x27_2 < (t128.length : Int) then ((lifetime_Length.f ((rd_T28 t128 x27_2).f0) ((rd_T28 t128 x27_2).f1) ((rd_T28 t128 x27_2).f2) (wrap64 (Int.tmod a1 21))).bind fun t142 => (if t140 > (wrap64 (t135 + t142)) then (some false) else ((lifetime_Length.f ((rd_T28 t128 x27_2).f0) ((rd_T28 t128 x27_2).f1) ((rd_T28 t128 x27_2).f2) (wrap64 (Int.tmod a1 21))).bind fun t144 => (jacquardlaw37_LifetimePressure.l0 k2 l0 t128 (wrap64 (Int.tmod a1 21)) (wrap64 (x7_2 + t144)) (t128.length : Int) ji18)))) else (none)))) = some r := by first | (rw [hy136]; with_reducible exact H) | (have H2_ := (Option.bind_some _ _).symm.trans H; rw [hy136]; with_reducible exact H2_) | (have H2_ := (Option.bind_some _ _).symm.trans H; with_reducible exact H2_) | with_reducible exact H | (rw [hy136]; exact H) | exact H
                      have Ny136 := Aside0.mk hy136
                      clear hy136
                      replace H := Option.bind_eq_some_iff.mp H
                      obtain ⟨t140, A210, H⟩ := H
                      replace H : (if t135 > t140 then (some false) else (if x27_2 < (t128.length : Int) then ((lifetime_Length.f ((rd_T28 t128 x27_2).f0) ((rd_T28 t128 x27_2).f1) ((rd_T28 t128 x27_2).f2) (wrap64 (Int.tmod a1 21))).bind fun t142 => (if t140 > (wrap64 (t135 + t142)) then (some false) else ((lifetime_Length.f ((rd_T28 t128 x27_2).f0) ((rd_T28 t128 x27_2).f1) ((rd_T28 t128 x27_2).f2) (wrap64 (Int.tmod a1 21))).bind fun t144 => (jacquardlaw37_LifetimePressure.l0 k2 l0 t128 (wrap64 (Int.tmod a1 21)) (wrap64 (x7_2 + t144)) (t128.length : Int) ji18)))) else (none))) = some r := H
                      have A21 := Aside0.mk A210
                      clear A210
                      by_cases c22 : t135 > t140
                      · rw [if_pos c22] at H
                        have c22b0 : decide (t140 < t135) = true := decide_eq_true c22
                        clear c22
                        exact absurd ((Option.some.inj H).trans HRT_.out) Bool.false_ne_true
                      · rw [if_neg c22] at H
                        have c22b0 : decide (t140 < t135) = false := decide_eq_false c22
                        clear c22
                        by_cases c23 : x27_2 < (t128.length : Int)
                        · rw [if_pos c23] at H
                          have c23b0 : decide (x27_2 < (t128.length : Int)) = true := decide_eq_true c23
                          clear c23
                          replace H := Option.bind_eq_some_iff.mp H
                          obtain ⟨t142, A240, H⟩ := H
                          replace H : (if t140 > (wrap64 (t135 + t142)) then (some false) else ((lifetime_Length.f ((rd_T28 t128 x27_2).f0) ((rd_T28 t128 x27_2).f1) ((rd_T28 t128 x27_2).f2) (wrap64 (Int.tmod a1 21))).bind fun t144 => (jacquardlaw37_LifetimePressure.l0 k2 l0 t128 (wrap64 (Int.tmod a1 21)) (wrap64 (x7_2 + t144)) (t128.length : Int) ji18))) = some r := H
                          have A24 := Aside0.mk A240
                          clear A240
                          by_cases c25 : t140 > (wrap64 (t135 + t142))
                          · rw [if_pos c25] at H
                            have c25b0 : decide ((wrap64 (t135 + t142)) < t140) = true := decide_eq_true c25
                            clear c25
                            exact absurd ((Option.some.inj H).trans HRT_.out) Bool.false_ne_true
                          · rw [if_neg c25] at H
                            have c25b0 : decide ((wrap64 (t135 + t142)) < t140) = false := decide_eq_false c25
                            clear c25
                            replace H := Option.bind_eq_some_iff.mp H
                            obtain ⟨t144, A260, H⟩ := H
                            replace H : (jacquardlaw37_LifetimePressure.l0 k2 l0 t128 (wrap64 (Int.tmod a1 21)) (wrap64 (x7_2 + t144)) (t128.length : Int) ji18) = some r := H
                            have A26 := Aside0.mk A260
                            clear A260
                            have H' := Aside0.mk H
                            clear H
                            try go_wp2
                            have n0_ := Aside0.mk (Kd.R_drew HO_5.out)
                            have n1_ := Aside0.mk (below_drew1 HB.out)
                            clear HO_5
                            clear HB
                            have HO_5 := n0_
                            have HB := n1_
                            clear n0_ n1_
                            have q28 : (x27_2 : Int) ≤ ((t128.length : Int) : Int) := of_decide_eq_true (by first | (with_reducible assumption) | assumption)
                            obtain ⟨i028, hi028, _, hsz28, _⟩ := info_parts info28
                            have hroom28 : t128.length ≤ co13 := (Kd.R_reads' HO_5.out).2.1
                            have hC28 : Kd.C k28 _ Ao13 t128.length t128 := (Kd.R_reads' HO_5.out).2.2
                            have hcut28 := cut_to (P := Try.prog) 24 28 .i64 Try.underlying24 hi028 Ao13 t128.length co13 x27_2 (of_decide_eq_true (by first | (with_reducible assumption) | assumption)) q28 hroom28
                            have hr28 := Kd.C_take (m := (x27_2 : Int).toNat) hC28 (by omega)
                            have hy28 : y131.length = (x27_2 : Int).toNat := (by rw [Ny131.out, List.length_take]; omega)
                            rw [← Ny131.out] at hr28
                            rw [← hy28] at hcut28
                            have HR134 := Aside0.mk hr28
                            have HC134 := Aside0.mk (show y131.length ≤ co13 from by omega)
                            clear hr28 hC28 hroom28 hi028 hsz28
                            have KY28 := Aside0.mk hy28
                            clear hy28
                            have KL28 := Aside0.mk (show (x27_2 : Int).toNat ≤ t128.length from by omega)
                            replace q28 := eq_true q28
                            have q29 : ((ji18) : Int) ≤ ((t128.length : Int) : Int) := of_decide_eq_true (by first | (with_reducible assumption) | assumption)
                            obtain ⟨i029, hi029, _, hsz29, _⟩ := info_parts info28
                            have hroom29 : t128.length ≤ co13 := (Kd.R_reads' HO_5.out).2.1
                            have hC29 : Kd.C k28 _ Ao13 t128.length t128 := (Kd.R_reads' HO_5.out).2.2
                            have hcut29 := cut_to (P := Try.prog) 24 28 .i64 Try.underlying24 hi029 Ao13 t128.length co13 (ji18) (of_decide_eq_true (by first | (with_reducible assumption) | assumption)) q29 hroom29
                            have hr29 := Kd.C_take (m := ((ji18) : Int).toNat) hC29 (by omega)
                            have hy29 : y136.length = ((ji18) : Int).toNat := (by rw [Ny136.out, List.length_take]; omega)
                            rw [← Ny136.out] at hr29
                            rw [← hy29] at hcut29
                            have HR139 := Aside0.mk hr29
                            have HC139 := Aside0.mk (show y136.length ≤ co13 from by omega)
                            clear hr29 hC29 hroom29 hi029 hsz29
                            have KY29 := Aside0.mk hy29
                            clear hy29
                            have KL29 := Aside0.mk (show ((ji18) : Int).toNat ≤ t128.length from by omega)
                            replace q29 := eq_true q29
                            refine start_ (n := 13) (S := fun w' => True) (ds := []) #[false, false, false, false, false, false, false, false, false, false, false, false, false] (by kernel_rfl) rfl rfl trivial (fun hHeld => ?_); refine with_tabW jacquardlaw37_LifetimePressure.tab8 jacquardlaw37_LifetimePressure.bits8 (fun HT_ HW_ => ?_)
                            generalize wr.drew = w27 at HO_5 HB HR134 HR139 hHeld ⊢
                            refine pure_ (i := 0) (N := some 30) (v := ?_) (a' := ?_) #[true, false, false, false, false, false, false, false, false, false, false, false, false] rfl rfl (any_of HT_.out (by kernel_rfl)) (fun _ _ _ h => h) (Or.inl ⟨by rfl, ?_⟩) ?_ ?_
                            rotate_left
                            · intro w'
                              go_simp
                              with_reducible rfl
                            rotate_left
                            · simp only [Act.put, List.setIfInBounds_toArray, List.set_cons_zero, List.set_cons_succ, i64_w, i32_w]
                              rfl
                            refine pure_ (i := 1) (N := some 31) (v := ?_) (a' := ?_) #[true, true, false, false, false, false, false, false, false, false, false, false, false] rfl rfl (any_of HT_.out (by kernel_rfl)) (fun _ _ _ h => h) (Or.inl ⟨by rfl, ?_⟩) ?_ ?_
                            rotate_left
                            · intro w'
                              go_simp
                              with_reducible rfl
                            rotate_left
                            · simp only [Act.put, List.setIfInBounds_toArray, List.set_cons_zero, List.set_cons_succ, i64_w, i32_w]
                              rfl
                            refine pure_ (i := 2) (N := some 32) (v := ?_) (a' := ?_) #[true, true, true, false, false, false, false, false, false, false, false, false, false] rfl rfl (any_of HT_.out (by kernel_rfl)) (fun _ _ _ h => h) (Or.inl ⟨by rfl, ?_⟩) ?_ ?_
                            rotate_left
                            · intro w'
                              go_simp
                              with_reducible rfl
                            rotate_left
                            · simp only [Act.put, List.setIfInBounds_toArray, List.set_cons_zero, List.set_cons_succ, i64_w, i32_w]
                              rfl
                            refine pure_ (i := 3) (N := some 33) (v := ?_) (a' := ?_) #[true, true, true, true, false, false, false, false, false, false, false, false, false] rfl rfl (any_of HT_.out (by kernel_rfl)) (fun _ _ _ h => h) (Or.inl ⟨by rfl, ?_⟩) ?_ ?_
                            rotate_left
                            · intro w'
                              go_simp
                              with_reducible rfl
                            rotate_left
                            · simp only [Act.put, List.setIfInBounds_toArray, List.set_cons_zero, List.set_cons_succ, i64_w, i32_w]
                              rfl
                            refine pure_ (i := 5) (N := some 35) (v := ?_) (a' := ?_) #[true, true, true, true, false, true, false, false, false, false, false, false, false] rfl rfl (any_of HT_.out (by kernel_rfl)) (fun _ _ _ h => h) (Or.inl ⟨by rfl, ?_⟩) ?_ ?_
                            rotate_left
                            · intro w'
                              go_simp
                              with_reducible rfl
                            rotate_left
                            · simp only [Act.put, List.setIfInBounds_toArray, List.set_cons_zero, List.set_cons_succ, i64_w, i32_w]
                              rfl
                            refine pure_ (i := 6) (N := some 36) (v := ?_) (a' := ?_) #[true, true, true, true, false, true, true, false, false, false, false, false, false] rfl rfl (any_of HT_.out (by kernel_rfl)) (fun _ _ _ h => h) (Or.inl ⟨by rfl, ?_⟩) ?_ ?_
                            rotate_left
                            · intro w'
                              go_simp
                              with_reducible rfl
                            rotate_left
                            · simp only [Act.put, List.setIfInBounds_toArray, List.set_cons_zero, List.set_cons_succ, i64_w, i32_w]
                              rfl
                            refine pure_ (i := 7) (N := some 37) (v := ?_) (a' := ?_) #[true, true, true, true, false, true, true, true, false, false, false, false, false] rfl rfl (any_of HT_.out (by kernel_rfl)) (fun _ _ _ h => h) (Or.inl ⟨by rfl, ?_⟩) ?_ ?_
                            rotate_left
                            · intro w'
                              go_simp
                              with_reducible rfl
                            rotate_left
                            · simp only [Act.put, List.setIfInBounds_toArray, List.set_cons_zero, List.set_cons_succ, i64_w, i32_w]
                              rfl
                            refine pure_ (i := 8) (N := some 38) (v := ?_) (a' := ?_) #[true, true, true, true, false, true, true, true, true, false, false, false, false] rfl rfl (any_of HT_.out (by kernel_rfl)) (fun _ _ _ h => h) (Or.inl ⟨by rfl, ?_⟩) ?_ ?_
                            rotate_left
                            · intro w'
                              go_simp
                              with_reducible rfl
                            rotate_left
                            · simp only [Act.put, List.setIfInBounds_toArray, List.set_cons_zero, List.set_cons_succ, i64_w, i32_w]
                              rfl
                            refine pure_ (i := 9) (N := some 39) (v := ?_) (a' := ?_) #[true, true, true, true, false, true, true, true, true, true, false, false, false] rfl rfl (any_of HT_.out (by kernel_rfl)) (fun _ _ _ h => h) (Or.inl ⟨by rfl, ?_⟩) ?_ ?_
                            rotate_left
                            · intro w'
                              go_simp
                              with_reducible rfl
                            rotate_left
                            · simp only [Act.put, List.setIfInBounds_toArray, List.set_cons_zero, List.set_cons_succ, i64_w, i32_w]
                              rfl
                            refine one_ (i := 4) (N := some 34) #[true, true, true, true, true, true, true, true, true, true, false, false, false] rfl rfl (one_of HT_.out (by kernel_rfl)) (by decide) (fun K hK => ?_)
                            refine goes_ Try.func15 (by kernel_rfl) rfl #[.slice Ao13 y131.length co13, .int .i64 (wrap64 (Int.tmod a1 21))] (by rfl) rfl rfl (by (try simp only [List.map_toArray, List.map_cons, List.map_nil]); first | done | rfl | (simp only [List.length_drop, List.length_take]; rfl)) ?_
                            with_reducible refine (lifetime_Pressure.calls k2 _ _ y131 (wrap64 (Int.tmod a1 21)) t135 _ ?side1 ?side2 A17.out).mono ?_
                            (case side1 => repeat (first | exact (by repeat (first | (with_reducible exact HR134.out) | (with_reducible refine Kd.C_alloc ?_ _) | (with_reducible refine Kd.C_drewN ?_ _) | (with_reducible refine Kd.C_drew ?_) | exact HR134.out)) | (with_reducible refine Kd.C_alloc ?_ _) | (with_reducible refine Kd.C_drewN ?_ _) | (with_reducible refine Kd.C_drew ?_)))
                            (case side2 => exact HC134.out)
                            rintro e w30 ⟨rfl, hb⟩
                            refine ⟨_, rfl, ?_⟩
                            have n0_ := Aside0.mk (Kd.R_below (by (with_reducible repeat (first | apply Kd.R_alloc | apply Kd.R_drewN | apply Kd.R_drew)); exact HO_5.out) hb)
                            have n1_ := Aside0.mk (Kd.C_below (by repeat (first | (with_reducible exact HR134.out) | (with_reducible refine Kd.C_alloc ?_ _) | (with_reducible refine Kd.C_drewN ?_ _) | (with_reducible refine Kd.C_drew ?_) | exact HR134.out)) hb)
                            have n2_ := Aside0.mk (Kd.C_below (by repeat (first | (with_reducible exact HR139.out) | (with_reducible refine Kd.C_alloc ?_ _) | (with_reducible refine Kd.C_drewN ?_ _) | (with_reducible refine Kd.C_drew ?_) | exact HR139.out)) hb)
                            have n3_ := Aside0.mk (below_step (by repeat (first | (with_reducible first | exact HB.out | apply below_alloc | apply pw_below_drewN | apply below_drew1) | exact HB.out)) hb)
                            clear HO_5
                            clear HR134
                            clear HR139
                            clear HB
                            have HO_5 := n0_
                            have HR134 := n1_
                            have HR139 := n2_
                            have HB := n3_
                            clear n0_ n1_ n2_ n3_
                            (try clear hb)
                            (try clear hb2)
                            (try clear hk)
                            (try clear hi)
                            refine hK.out _ _ trivial (fun hHeld => ?_)
                            clear hK K
                            refine norm_ (a' := ?_) ?_ ?_
                            rotate_left
                            · show Act.put _ (some 34) _ = _
                              simp only [Act.put, List.setIfInBounds_toArray, List.set_cons_zero, List.set_cons_succ, i64_w, i32_w]
                              rfl
                            refine one_ (i := 10) (N := some 40) #[true, true, true, true, true, true, true, true, true, true, true, false, false] rfl rfl (one_of HT_.out (by kernel_rfl)) (by decide) (fun K hK => ?_)
                            refine goes_ Try.func15 (by kernel_rfl) rfl #[.slice Ao13 y136.length co13, .int .i64 (wrap64 (Int.tmod a1 21))] (by rfl) rfl rfl (by (try simp only [List.map_toArray, List.map_cons, List.map_nil]); first | done | rfl | (simp only [List.length_drop, List.length_take]; rfl)) ?_
                            with_reducible refine (lifetime_Pressure.calls k2 _ _ y136 (wrap64 (Int.tmod a1 21)) t140 _ ?side1 ?side2 A21.out).mono ?_
                            (case side1 => repeat (first | exact (by repeat (first | (with_reducible exact HR139.out) | (with_reducible refine Kd.C_alloc ?_ _) | (with_reducible refine Kd.C_drewN ?_ _) | (with_reducible refine Kd.C_drew ?_) | exact HR139.out)) | (with_reducible refine Kd.C_alloc ?_ _) | (with_reducible refine Kd.C_drewN ?_ _) | (with_reducible refine Kd.C_drew ?_)))
                            (case side2 => exact HC139.out)
                            rintro e w31 ⟨rfl, hb⟩
                            refine ⟨_, rfl, ?_⟩
                            have n0_ := Aside0.mk (Kd.R_below (by (with_reducible repeat (first | apply Kd.R_alloc | apply Kd.R_drewN | apply Kd.R_drew)); exact HO_5.out) hb)
                            have n1_ := Aside0.mk (Kd.C_below (by repeat (first | (with_reducible exact HR134.out) | (with_reducible refine Kd.C_alloc ?_ _) | (with_reducible refine Kd.C_drewN ?_ _) | (with_reducible refine Kd.C_drew ?_) | exact HR134.out)) hb)
                            have n2_ := Aside0.mk (Kd.C_below (by repeat (first | (with_reducible exact HR139.out) | (with_reducible refine Kd.C_alloc ?_ _) | (with_reducible refine Kd.C_drewN ?_ _) | (with_reducible refine Kd.C_drew ?_) | exact HR139.out)) hb)
                            have n3_ := Aside0.mk (below_step (by repeat (first | (with_reducible first | exact HB.out | apply below_alloc | apply pw_below_drewN | apply below_drew1) | exact HB.out)) hb)
                            clear HO_5
                            clear HR134
                            clear HR139
                            clear HB
                            have HO_5 := n0_
                            have HR134 := n1_
                            have HR139 := n2_
                            have HB := n3_
                            clear n0_ n1_ n2_ n3_
                            (try clear hb)
                            (try clear hb2)
                            (try clear hk)
                            (try clear hi)
                            refine hK.out _ _ trivial (fun hHeld => ?_)
                            clear hK K
                            refine norm_ (a' := ?_) ?_ ?_
                            rotate_left
                            · show Act.put _ (some 40) _ = _
                              simp only [Act.put, List.setIfInBounds_toArray, List.set_cons_zero, List.set_cons_succ, i64_w, i32_w]
                              rfl
                            refine pure_ (i := 11) (N := some 9) (v := ?_) (a' := ?_) #[true, true, true, true, true, true, true, true, true, true, true, true, false] rfl rfl (any_of HT_.out (by kernel_rfl)) (fun _ _ _ h => h) (Or.inl ⟨by rfl, ?_⟩) ?_ ?_
                            rotate_left
                            · intro w'
                              go_simp
                              with_reducible rfl
                            rotate_left
                            · simp only [Act.put, List.setIfInBounds_toArray, List.set_cons_zero, List.set_cons_succ, i64_w, i32_w]
                              rfl
                            refine pure_ (i := 12) (N := some 10) (v := ?_) (a' := ?_) #[true, true, true, true, true, true, true, true, true, true, true, true, true] rfl rfl (any_of HT_.out (by kernel_rfl)) (fun _ _ _ h => h) (Or.inl ⟨by rfl, ?_⟩) ?_ ?_
                            rotate_left
                            · intro w'
                              go_simp
                              with_reducible rfl
                            rotate_left
                            · simp only [Act.put, List.setIfInBounds_toArray, List.set_cons_zero, List.set_cons_succ, i64_w, i32_w]
                              rfl
                            refine done_ (done_of HT_.out (by kernel_rfl)) ?_
                            have p141 : 0 ≤ (x27_2 : Int) := of_decide_eq_true (by first | (with_reducible assumption) | assumption)
                            have q141 : x27_2 < (t128.length : Int) := of_decide_eq_true (by first | (with_reducible assumption) | assumption)
                            obtain ⟨ad141, e141, hx141_0, hx141_1, hx141_2⟩ := at_T28 (Kd.R_reads' HO_5.out).2.2 x27_2 p141 q141
                            cases e141
                            replace p141 := eq_true p141
                            replace q141 := eq_true q141
                            try go_wp2_with (first | (go_at_call 11; (with_reducible refine (lifetime_Length.calls ((rd_T28 t128 x27_2).f0) ((rd_T28 t128 x27_2).f1) ((rd_T28 t128 x27_2).f2) (wrap64 (Int.tmod a1 21)) t142 _ A24.out).mono ?_); rintro e w32 ⟨rfl, hb⟩; have n0_ := Aside0.mk (Kd.R_below (by (with_reducible repeat (first | apply Kd.R_alloc | apply Kd.R_drewN | apply Kd.R_drew)); exact HO_5.out) hb); have n1_ := Aside0.mk (Kd.C_below (by repeat (first | (with_reducible exact HR134.out) | (with_reducible refine Kd.C_alloc ?_ _) | (with_reducible refine Kd.C_drewN ?_ _) | (with_reducible refine Kd.C_drew ?_) | exact HR134.out)) hb); have n2_ := Aside0.mk (Kd.C_below (by repeat (first | (with_reducible exact HR139.out) | (with_reducible refine Kd.C_alloc ?_ _) | (with_reducible refine Kd.C_drewN ?_ _) | (with_reducible refine Kd.C_drew ?_) | exact HR139.out)) hb); have n3_ := Aside0.mk (below_step (by repeat (first | (with_reducible first | exact HB.out | apply below_alloc | apply pw_below_drewN | apply below_drew1) | exact HB.out)) hb); clear HO_5; clear HR134; clear HR139; clear HB; have HO_5 := n0_; have HR134 := n1_; have HR139 := n2_; have HB := n3_; clear n0_ n1_ n2_ n3_; (try clear hb); (try clear hb2); (try clear hk); (try clear hi); have p143 : 0 ≤ (x27_2 : Int) := of_decide_eq_true (by first | (with_reducible assumption) | assumption); have q143 : x27_2 < (t128.length : Int) := of_decide_eq_true (by first | (with_reducible assumption) | assumption); obtain ⟨ad143, e143, hx143_0, hx143_1, hx143_2⟩ := at_T28 (Kd.R_reads' HO_5.out).2.2 x27_2 p143 q143; obtain rfl : ad141 = ad143 := (by injection e143); replace p143 := eq_true p143; replace q143 := eq_true q143) | ((with_reducible refine gate_callee (f := 11) rfl ?_); refine goesL_ (some 62) rfl rfl Try.func11 (by kernel_rfl) rfl #[.agg #[.int .i64 ((rd_T28 t128 x27_2).f0), .int .i64 ((rd_T28 t128 x27_2).f1), .int .i64 ((rd_T28 t128 x27_2).f2)], .int .i64 (wrap64 (Int.tmod a1 21))] rfl (by (try simp only [List.map_toArray, List.map_cons, List.map_nil]); first | done | rfl | (simp only [List.length_drop, List.length_take]; rfl)) ?_; (with_reducible refine (lifetime_Length.calls ((rd_T28 t128 x27_2).f0) ((rd_T28 t128 x27_2).f1) ((rd_T28 t128 x27_2).f2) (wrap64 (Int.tmod a1 21)) t144 _ A26.out).mono ?_); rintro e w33 ⟨rfl, hb⟩; refine ⟨_, rfl, ?_⟩; have n0_ := Aside0.mk (Kd.R_below (by (with_reducible repeat (first | apply Kd.R_alloc | apply Kd.R_drewN | apply Kd.R_drew)); exact HO_5.out) hb); have n1_ := Aside0.mk (Kd.C_below (by repeat (first | (with_reducible exact HR134.out) | (with_reducible refine Kd.C_alloc ?_ _) | (with_reducible refine Kd.C_drewN ?_ _) | (with_reducible refine Kd.C_drew ?_) | exact HR134.out)) hb); have n2_ := Aside0.mk (Kd.C_below (by repeat (first | (with_reducible exact HR139.out) | (with_reducible refine Kd.C_alloc ?_ _) | (with_reducible refine Kd.C_drewN ?_ _) | (with_reducible refine Kd.C_drew ?_) | exact HR139.out)) hb); have n3_ := Aside0.mk (below_step (by repeat (first | (with_reducible first | exact HB.out | apply below_alloc | apply pw_below_drewN | apply below_drew1) | exact HB.out)) hb); clear HO_5; clear HR134; clear HR139; clear HB; have HO_5 := n0_; have HR134 := n1_; have HR139 := n2_; have HB := n3_; clear n0_ n1_ n2_ n3_; (try clear hb); (try clear hb2); (try clear hk); (try clear hi)))
                            go_roundg k2
                            case measure => have := HJ2.out; have := HK2.out; omega
                            case rel => exact ⟨(wrap64 (x7_2 + t144)), (ji18), (by first | rfl | (simp; done) | (simp [*]; done)), (by first | rfl | (simp; done) | (simp only [← hji18] <;> (first | rfl | simp)) | (simp [*]; done)), H', ⟨by have := HJ2.out; have := HK2.out; omega⟩, ⟨by (with_reducible repeat (first | apply Kd.R_alloc | apply Kd.R_drewN | apply Kd.R_drew)); exact HO_5.out⟩, ⟨by repeat (first | (with_reducible first | exact HB.out | apply below_alloc | apply pw_below_drewN | apply below_drew1) | exact HB.out)⟩⟩
                        · rw [if_neg c23] at H
                          exact absurd H (by simp)
                    · rw [if_neg c20] at H
                      exact absurd H (by simp)
                  · rw [if_neg c19] at H
                    exact absurd H (by simp)
                · rw [if_neg c16] at H
                  exact absurd H (by simp)
              · rw [if_neg c15] at H
                exact absurd H (by simp)
            · rw [if_neg c14] at H
              have c14b0 : decide (x27_2 < (t128.length : Int)) = false := decide_eq_false c14
              clear c14
              have H' := Aside0.mk H
              clear H
              go_wp2
              go_loopg [67] k2 (fun kq v67 w' => ∃ (x5_3 : List (S28)) (x67_3 : Int), v67 = .int .i64 x67_3 ∧ Aside0 (jacquardlaw37_LifetimePressure.l1 kq l0 x5_3 (wrap64 (Int.tmod a1 21)) x7_2 (t128.length : Int) x67_3 = some r) ∧ Aside0 (kq ≤ k2) ∧ Aside0 (Kd.R k28 28 w' w.heap.size (fun _ => True) (.slice Ao13 t128.length co13) x5_3) ∧ Aside0 (Below w.heap.size w w'))
              case atStart => exact ⟨(t128), (0), (by first | rfl | (simp; done) | (simp [*]; done)), H', ⟨Nat.le_refl _⟩, ⟨by (with_reducible repeat (first | apply Kd.R_alloc | apply Kd.R_drewN | apply Kd.R_drew)); exact HO_5.out⟩, ⟨by repeat (first | (with_reducible first | exact HB.out | apply below_alloc | apply pw_below_drewN | apply below_drew1) | exact HB.out)⟩⟩
              case round =>
                clear H'
                try clear c1
                try clear p1
                try clear q1
                try clear hx1
                try clear c2
                try clear p2
                try clear q2
                try clear c4
                try clear c5
                try clear p6
                try clear c8
                try clear c9
                try clear c10
                try clear c11
                try clear c14
                try clear c14b0
                try clear p14
                try clear q14
                try clear hx14
                try clear c15
                try clear c15b0
                try clear c15b1
                try clear c16
                try clear c16b0
                try clear c16b1
                try clear c19
                try clear c19b0
                try clear c19b1
                try clear c20
                try clear c20b0
                try clear c20b1
                try clear c22
                try clear c22b0
                try clear c23
                try clear c23b0
                try clear c25
                try clear c25b0
                try clear q28
                try clear q29
                try clear hx141_0
                try clear hx141_1
                try clear hx141_2
                try clear hx143_0
                try clear hx143_1
                try clear hx143_2
                try clear p141
                try clear p143
                try clear p2
                try clear p6
                try clear q141
                try clear q143
                try clear q28
                try clear q29
                obtain ⟨x5_3, x67_3, rfl, HA, HK3, HO_5, HB⟩ := hrel
                have hl5_3 := (Kd.R_reads' HO_5.out).1
                rw [hl5_3] at HO_5
                (try simp only [hl5_3])
                cases gk with
                | zero => exact absurd HA.out (by simp [jacquardlaw37_LifetimePressure.l1])
                | succ k3 =>
                  have H := HA.out
                  clear HA
                  simp only [jacquardlaw37_LifetimePressure.l1] at H
                  by_cases c34 : x67_3 < (t128.length : Int)
                  · rw [if_pos c34] at H
                    have c34b0 : decide (x67_3 < (t128.length : Int)) = true := decide_eq_true c34
                    clear c34
                    by_cases c35 : 0 ≤ x67_3
                    · rw [if_pos c35] at H
                      have c35b0 : decide (0 ≤ x67_3) = true := decide_eq_true c35
                      clear c35
                      by_cases c36 : x67_3 < (x5_3.length : Int)
                      · rw [if_pos c36] at H
                        have c36b0 : decide (x67_3 < (x5_3.length : Int)) = true := decide_eq_true c36
                        clear c36
                        obtain ⟨y145, hy145⟩ : ∃ y_ : List (S28), y_ = (x5_3.set (x67_3 : Int).toNat (⟨(rd_T28 x5_3 x67_3).f0, 5, (rd_T28 x5_3 x67_3).f2⟩ : S28)) := ⟨_, rfl⟩
                        replace H : (jacquardlaw37_LifetimePressure.l1 k3 l0 (y145.set (x67_3 : Int).toNat (⟨(rd_T28 y145 x67_3).f0, (rd_T28 y145 x67_3).f1, 5⟩ : S28)) (wrap64 (Int.tmod a1 21)) x7_2 (t128.length : Int) (wrap64 (x67_3 + 1))) = some r := by first | (rw [hy145]; with_reducible exact H) | (have H2_ := (Option.bind_some _ _).symm.trans H; rw [hy145]; with_reducible exact H2_) | (have H2_ := (Option.bind_some _ _).symm.trans H; with_reducible exact H2_) | with_reducible exact H | (rw [hy145]; exact H) | exact H
                        have Ny145 := Aside0.mk hy145
                        clear hy145
                        obtain ⟨y146, hy146⟩ : ∃ y_ : List (S28), y_ = (y145.set (x67_3 : Int).toNat (⟨(rd_T28 y145 x67_3).f0, (rd_T28 y145 x67_3).f1, 5⟩ : S28)) := ⟨_, rfl⟩
                        replace H : (jacquardlaw37_LifetimePressure.l1 k3 l0 y146 (wrap64 (Int.tmod a1 21)) x7_2 (t128.length : Int) (wrap64 (x67_3 + 1))) = some r := by first | (rw [hy146]; with_reducible exact H) | (have H2_ := (Option.bind_some _ _).symm.trans H; rw [hy146]; with_reducible exact H2_) | (have H2_ := (Option.bind_some _ _).symm.trans H; with_reducible exact H2_) | with_reducible exact H | (rw [hy146]; exact H) | exact H
                        have Ny146 := Aside0.mk hy146
                        clear hy146
                        have H' := Aside0.mk H
                        clear H
                        have p37 : 0 ≤ (x67_3 : Int) := of_decide_eq_true (by first | (with_reducible assumption) | assumption)
                        have q37 : (x67_3 : Int) < ((x5_3.length : Int) : Int) := of_decide_eq_true (by first | (with_reducible assumption) | assumption)
                        obtain ⟨go37, co37, eo37, gb37, gl37, cl37, HG37⟩ := Kd.R_form HO_5.out (by omega)
                        (first | cases eo37 | (injection eo37 with ea_ en_ ec_; (first | subst ea_ | (injection ea_ with ea_; subst ea_)); subst ec_; clear en_))
                        have GB37 := Aside0.mk gb37
                        have GG37 := Aside0.mk HG37
                        clear gb37 gl37 HG37
                        obtain ⟨ce37, hcl37, hM37, hcc37, hfr37⟩ := Kd.R_elem HO_5.out z28 (x67_3 : Int) p37 q37
                        obtain rfl := k28_openM hM37
                        have hx37_0 : wr.cell? ⟨go37, (x67_3 : Int).toNat * 3, none⟩ = some (.int .i64 ((rd_T28 x5_3 x67_3).f0)) := hcc37 0 _ rfl
                        have hx37_1 : wr.cell? ⟨go37, (x67_3 : Int).toNat * 3 + 1, none⟩ = some (.int .i64 ((rd_T28 x5_3 x67_3).f1)) := hcc37 1 _ rfl
                        have hx37_2 : wr.cell? ⟨go37, (x67_3 : Int).toNat * 3 + 2, none⟩ = some (.int .i64 ((rd_T28 x5_3 x67_3).f2)) := hcc37 2 _ rfl
                        have hf37_0 : wr.frozen? ⟨go37, (x67_3 : Int).toNat * 3, none⟩ = false := hfr37 0
                        have hf37_1 : wr.frozen? ⟨go37, (x67_3 : Int).toNat * 3 + 1, none⟩ = false := hfr37 1
                        have hf37_2 : wr.frozen? ⟨go37, (x67_3 : Int).toNat * 3 + 2, none⟩ = false := hfr37 2
                        clear hcl37 hcc37 hfr37 hM37
                        replace p37 := eq_true p37
                        replace q37 := eq_true q37
                        have HX39 := Aside0.mk (show Kd.R k28 28 wr w.heap.size (fun _ => True) (.slice (some ⟨go37, 0, none⟩) x5_3.length co13) x5_3 from (by (with_reducible repeat (first | apply Kd.R_alloc | apply Kd.R_drewN | apply Kd.R_drew)); exact HO_5.out))
                        obtain ⟨ce39, hcl39, hM39, hcc39, hfr39⟩ := Kd.R_elem HX39.out z28 (x67_3 : Int) (of_decide_eq_true (by first | (with_reducible assumption) | assumption)) (by have h_ : (x67_3 : Int) < ((x5_3.length : Int) : Int) := of_decide_eq_true (by first | (with_reducible assumption) | assumption); first | exact h_ | (have e_ := (Kd.R_reads' HO_5.out).1; omega) | simpa using h_)
                        obtain rfl := k28_openM hM39
                        have HP39 := Kd.R_seg HX39.out (x67_3 : Int) (of_decide_eq_true (by first | (with_reducible assumption) | assumption)) (by have h_ : (x67_3 : Int) < ((x5_3.length : Int) : Int) := of_decide_eq_true (by first | (with_reducible assumption) | assumption); first | exact h_ | (have e_ := (Kd.R_reads' HO_5.out).1; omega) | simpa using h_) (seg := [.int .i64 5]) (j := 1) hcl39 hcc39 (show 2 ≤ 3 from by decide) (x' := (⟨(rd_T28 x5_3 x67_3).f0, 5, (rd_T28 x5_3 x67_3).f2⟩ : S28)) (k28_mkM _ _ _ (⟨(rd_T28 x5_3 x67_3).f0, 5, (rd_T28 x5_3 x67_3).f2⟩ : S28) ) (fun _ hk => hk)
                        have hx39_1 := hcc39 1 _ rfl
                        (try simp only [show (k28).sz = 3 from rfl, Nat.mul_one, Nat.add_zero] at hx39_1)
                        have hf39_1 := hfr39 1
                        (try simp only [show (k28).sz = 3 from rfl, Nat.mul_one, Nat.add_zero] at hf39_1)
                        clear hcl39 hcc39 hfr39 hM39
                        go_wp2_with (first | ((with_reducible refine gate_store (t := 3) (p := 73) rfl ?_); refine store_event (t := 3) (p := 73) (v := ?vo_w40) (w1 := (wr.setCell ⟨go37, (x67_3 : Int).toNat * 3 + 1, none⟩ (.int .i64 5))) ?hg ?ho ?hn ?hr ?_; (case ho => rfl); (case hg => rfl); (case hn => rfl); (case hr => first | (go_simp; done) | (go_simp; rfl)); intro w40 hw; have hg : wr.grownBy w40 (some go37) := (by rw [hw]; exact HP39.2); have hp_ : Kd.R k28 28 w40 w.heap.size (fun _ => True) (.slice (some ⟨go37, 0, none⟩) x5_3.length co13) y145 := (by rw [hw, Ny145.out]; exact HP39.1); clear HP39; have n0_ := Aside0.mk (hp_); have n1_ := Aside0.mk ((by rw [hw]; exact below_set (HB.out) GB37.out : Below w.heap.size w w40)); clear HO_5; clear HB; have HO_5 := n0_; have HB := n1_; clear n0_ n1_; clear hg hw hp_; have p38 : 0 ≤ (x67_3 : Int) := of_decide_eq_true (by first | (with_reducible assumption) | assumption); have q38 : (x67_3 : Int) < ((x5_3.length : Int) : Int) := of_decide_eq_true (by first | (with_reducible assumption) | assumption); obtain ⟨ce38, hcl38, hM38, hcc38, hfr38⟩ := Kd.R_elem HO_5.out z28 (x67_3 : Int) p38 q38; obtain rfl := k28_openM hM38; have hx38_0 : w40.cell? ⟨go37, (x67_3 : Int).toNat * 3, none⟩ = some (.int .i64 ((rd_T28 y145 x67_3).f0)) := hcc38 0 _ rfl; have hx38_1 : w40.cell? ⟨go37, (x67_3 : Int).toNat * 3 + 1, none⟩ = some (.int .i64 ((rd_T28 y145 x67_3).f1)) := hcc38 1 _ rfl; have hx38_2 : w40.cell? ⟨go37, (x67_3 : Int).toNat * 3 + 2, none⟩ = some (.int .i64 ((rd_T28 y145 x67_3).f2)) := hcc38 2 _ rfl; have hf38_0 : w40.frozen? ⟨go37, (x67_3 : Int).toNat * 3, none⟩ = false := hfr38 0; have hf38_1 : w40.frozen? ⟨go37, (x67_3 : Int).toNat * 3 + 1, none⟩ = false := hfr38 1; have hf38_2 : w40.frozen? ⟨go37, (x67_3 : Int).toNat * 3 + 2, none⟩ = false := hfr38 2; clear hcl38 hcc38 hfr38 hM38; replace p38 := eq_true p38; replace q38 := eq_true q38; have HX41 := Aside0.mk (show Kd.R k28 28 w40 w.heap.size (fun _ => True) (.slice (some ⟨go37, 0, none⟩) x5_3.length co13) y145 from (by (with_reducible repeat (first | apply Kd.R_alloc | apply Kd.R_drewN | apply Kd.R_drew)); exact HO_5.out)); obtain ⟨ce41, hcl41, hM41, hcc41, hfr41⟩ := Kd.R_elem HX41.out z28 (x67_3 : Int) (of_decide_eq_true (by first | (with_reducible assumption) | assumption)) (by have h_ : (x67_3 : Int) < ((x5_3.length : Int) : Int) := of_decide_eq_true (by first | (with_reducible assumption) | assumption); first | exact h_ | (have e_ := (Kd.R_reads' HO_5.out).1; omega) | simpa using h_); obtain rfl := k28_openM hM41; have HP41 := Kd.R_seg HX41.out (x67_3 : Int) (of_decide_eq_true (by first | (with_reducible assumption) | assumption)) (by have h_ : (x67_3 : Int) < ((x5_3.length : Int) : Int) := of_decide_eq_true (by first | (with_reducible assumption) | assumption); first | exact h_ | (have e_ := (Kd.R_reads' HO_5.out).1; omega) | simpa using h_) (seg := [.int .i64 5]) (j := 2) hcl41 hcc41 (show 3 ≤ 3 from by decide) (x' := (⟨(rd_T28 y145 x67_3).f0, (rd_T28 y145 x67_3).f1, 5⟩ : S28)) (k28_mkM _ _ _ (⟨(rd_T28 y145 x67_3).f0, (rd_T28 y145 x67_3).f1, 5⟩ : S28) ) (fun _ hk => hk); have hx41_2 := hcc41 2 _ rfl; (try simp only [show (k28).sz = 3 from rfl, Nat.mul_one, Nat.add_zero] at hx41_2); have hf41_2 := hfr41 2; (try simp only [show (k28).sz = 3 from rfl, Nat.mul_one, Nat.add_zero] at hf41_2); clear hcl41 hcc41 hfr41 hM41) | ((with_reducible refine gate_store (t := 3) (p := 77) rfl ?_); refine store_event (t := 3) (p := 77) (v := ?vo_w42) (w1 := (w40.setCell ⟨go37, (x67_3 : Int).toNat * 3 + 2, none⟩ (.int .i64 5))) ?hg ?ho ?hn ?hr ?_; (case ho => rfl); (case hg => rfl); (case hn => rfl); (case hr => first | (go_simp; done) | (go_simp; rfl)); intro w42 hw; have hg : w40.grownBy w42 (some go37) := (by rw [hw]; exact HP41.2); have hp_ : Kd.R k28 28 w42 w.heap.size (fun _ => True) (.slice (some ⟨go37, 0, none⟩) x5_3.length co13) y146 := (by rw [hw, Ny146.out]; exact HP41.1); clear HP41; have n0_ := Aside0.mk (hp_); have n1_ := Aside0.mk ((by rw [hw]; exact below_set (HB.out) GB37.out : Below w.heap.size w w42)); clear HO_5; clear HB; have HO_5 := n0_; have HB := n1_; clear n0_ n1_; clear hg hw hp_))
                        (try simp only [← hl5_3])
                        go_roundg k3
                        case measure => have := HJ2.out; have := HK2.out; have := HK3.out; omega
                        case rel => exact ⟨(y146), (wrap64 (x67_3 + 1)), (by first | rfl | (simp; done) | (simp [*]; done)), H', ⟨by have := HJ2.out; have := HK2.out; have := HK3.out; omega⟩, ⟨by (try simp only [hl5_3]); (with_reducible repeat (first | apply Kd.R_alloc | apply Kd.R_drewN | apply Kd.R_drew)); exact HO_5.out⟩, ⟨by repeat (first | (with_reducible first | exact HB.out | apply below_alloc | apply pw_below_drewN | apply below_drew1) | exact HB.out)⟩⟩
                      · rw [if_neg c36] at H
                        exact absurd H (by simp)
                    · rw [if_neg c35] at H
                      exact absurd H (by simp)
                  · rw [if_neg c34] at H
                    have c34b0 : decide (x67_3 < (t128.length : Int)) = false := decide_eq_false c34
                    (try simp only [hl5_3] at c34b0)
                    clear c34
                    replace H := Option.bind_eq_some_iff.mp H
                    obtain ⟨t147, A430, H⟩ := H
                    replace H : ((lifetime_Pressure.f k3 t147 (wrap64 (Int.tmod a1 21))).bind fun t150 => (if t150 ≤ x7_2 then ((lifetime_Pressure.f k3 x5_3 (wrap64 (Int.tmod a1 21))).bind fun t151 => (some (t151 == (x5_3.length : Int)))) else (some false))) = some r := H
                    have A43 := Aside0.mk A430
                    clear A430
                    replace H := Option.bind_eq_some_iff.mp H
                    obtain ⟨t150, A440, H⟩ := H
                    replace H : (if t150 ≤ x7_2 then ((lifetime_Pressure.f k3 x5_3 (wrap64 (Int.tmod a1 21))).bind fun t151 => (some (t151 == (x5_3.length : Int)))) else (some false)) = some r := H
                    have A44 := Aside0.mk A440
                    clear A440
                    by_cases c45 : t150 ≤ x7_2
                    · rw [if_pos c45] at H
                      have c45b0 : decide (t150 ≤ x7_2) = true := decide_eq_true c45
                      clear c45
                      replace H := Option.bind_eq_some_iff.mp H
                      obtain ⟨t151, A460, H⟩ := H
                      replace H : (some (t151 == (x5_3.length : Int))) = some r := H
                      have A46 := Aside0.mk A460
                      clear A460
                      obtain rfl := Option.some.inj H
                      go_wp2_with (first | ((with_reducible refine gate_callee (f := 10) rfl ?_); refine goesL_ (some 80) rfl rfl Try.func10 (by kernel_rfl) rfl #[.slice A0 l0.length c0] rfl (by (try simp only [List.map_toArray, List.map_cons, List.map_nil]); first | done | rfl | (simp only [List.length_drop, List.length_take]; rfl)) ?_; (with_reducible refine (jacquardlaw37_lives.calls k3 _ _ l0 t147 _ ?side1 ?side2 A43.out).mono ?_); (case side1 => repeat (first | exact (Kd.C_below HR0.out HB.out) | (with_reducible refine Kd.C_alloc ?_ _) | (with_reducible refine Kd.C_drewN ?_ _) | (with_reducible refine Kd.C_drew ?_))); (case side2 => exact HC0.out); rintro e w47 ⟨v148, rfl, ho0, hb⟩; refine ⟨_, rfl, ?_⟩; have n0_ := Aside0.mk (Kd.R_elder' (by (with_reducible repeat (first | apply Kd.R_alloc | apply Kd.R_drewN | apply Kd.R_drew)); exact HO_5.out) (Kd.R_base ho0) hb); have n1_ := Aside0.mk (Kd.R_lower (Kd.R_new' ho0 (Kd.R_lt (by (with_reducible repeat (first | apply Kd.R_alloc | apply Kd.R_drewN | apply Kd.R_drew)); exact HO_5.out))) (below_size (by repeat (first | (with_reducible first | exact HB.out | apply below_alloc | apply pw_below_drewN | apply below_drew1) | exact HB.out)))); have n2_ := Aside0.mk (below_step (by repeat (first | (with_reducible first | exact HB.out | apply below_alloc | apply pw_below_drewN | apply below_drew1) | exact HB.out)) hb); clear HO_5; clear HB; have HO_5 := n0_; have HO149 := n1_; have HB := n2_; clear n0_ n1_ n2_; (try clear hb); (try clear hb2); (try clear hk); (try clear hi); (try clear ho0); obtain ⟨Ao48, co48, eo48⟩ := Kd.R_slice HO149.out; subst eo48) | ((with_reducible refine gate_callee (f := 15) rfl ?_); refine goesL_ (some 82) rfl rfl Try.func15 (by kernel_rfl) rfl #[.slice Ao48 t147.length co48, .int .i64 (wrap64 (Int.tmod a1 21))] rfl (by (try simp only [List.map_toArray, List.map_cons, List.map_nil]); first | done | rfl | (simp only [List.length_drop, List.length_take]; rfl)) ?_; (with_reducible refine (lifetime_Pressure.calls k3 _ _ t147 (wrap64 (Int.tmod a1 21)) t150 _ ?side1 ?side2 A44.out).mono ?_); (case side1 => repeat (first | exact (Kd.R_reads' HO149.out).2.2 | (with_reducible refine Kd.C_alloc ?_ _) | (with_reducible refine Kd.C_drewN ?_ _) | (with_reducible refine Kd.C_drew ?_))); (case side2 => exact (Kd.R_reads' HO149.out).2.1); rintro e w49 ⟨rfl, hb⟩; refine ⟨_, rfl, ?_⟩; have n0_ := Aside0.mk (Kd.R_below (by (with_reducible repeat (first | apply Kd.R_alloc | apply Kd.R_drewN | apply Kd.R_drew)); exact HO_5.out) hb); have n1_ := Aside0.mk (Kd.R_below (by (with_reducible repeat (first | apply Kd.R_alloc | apply Kd.R_drewN | apply Kd.R_drew)); exact HO149.out) hb); have n2_ := Aside0.mk (below_step (by repeat (first | (with_reducible first | exact HB.out | apply below_alloc | apply pw_below_drewN | apply below_drew1) | exact HB.out)) hb); clear HO_5; clear HO149; clear HB; have HO_5 := n0_; have HO149 := n1_; have HB := n2_; clear n0_ n1_ n2_; (try clear hb); (try clear hb2); (try clear hk); (try clear hi)) | (go_at_call 15; (with_reducible refine (lifetime_Pressure.calls k3 _ _ x5_3 (wrap64 (Int.tmod a1 21)) t151 _ ?side1 ?side2 A46.out).mono ?_); (case side1 => repeat (first | exact (Kd.R_reads' HO_5.out).2.2 | (with_reducible refine Kd.C_alloc ?_ _) | (with_reducible refine Kd.C_drewN ?_ _) | (with_reducible refine Kd.C_drew ?_))); (case side2 => exact (Kd.R_reads' HO_5.out).2.1); rintro e w50 ⟨rfl, hb⟩; have n0_ := Aside0.mk (Kd.R_below (by (with_reducible repeat (first | apply Kd.R_alloc | apply Kd.R_drewN | apply Kd.R_drew)); exact HO_5.out) hb); have n1_ := Aside0.mk (Kd.R_below (by (with_reducible repeat (first | apply Kd.R_alloc | apply Kd.R_drewN | apply Kd.R_drew)); exact HO149.out) hb); have n2_ := Aside0.mk (below_step (by repeat (first | (with_reducible first | exact HB.out | apply below_alloc | apply pw_below_drewN | apply below_drew1) | exact HB.out)) hb); clear HO_5; clear HO149; clear HB; have HO_5 := n0_; have HO149 := n1_; have HB := n2_; clear n0_ n1_ n2_; (try clear hb); (try clear hb2); (try clear hk); (try clear hi)))
                      go_ret
                      exact ⟨by first | rfl | (simp [errW_none, errW_some] <;> rfl) | (simp [*, errW_none, errW_some] <;> rfl), by repeat (first | (with_reducible first | exact HB.out | apply below_alloc | apply pw_below_drewN | apply below_drew1) | exact HB.out)⟩
                    · rw [if_neg c45] at H
                      have c45b0 : decide (t150 ≤ x7_2) = false := decide_eq_false c45
                      clear c45
                      exact absurd ((Option.some.inj H).trans HRT_.out) Bool.false_ne_true

end Go.Proofs.Ytgcgohahpgbbfaa.PLifetimePressure
