-- Written for this claim by programs of this session (wip/print2 in its repo: a changed printer, a shortener, a packer). Lean checks it.
import Derived.Test.YtpmlbbglekaidaaP0
namespace Go.Proofs.Ytpmlbbglekaidaa.PAll
open Go.RowKit Go.Proofs.YtpmlbbglekaidaaW.PrintWords Go.Proofs.YtpmlbbglekaidaaW.PrintLast Go.Proofs.YtpmlbbglekaidaaW.PrintMore
attribute [local go_sem] max2_int min2_int max_two min_two max_three min_three max_four min_four   -- for this text's walks alone
set_option linter.unusedVariables false
set_option linter.unusedSimpArgs false

/-! ### jacquardref34_Few: function 16 -/
mutual
def jacquardref34_Few.l0 : Nat → List (S54) → Int → Int → Int → Option (Bool)
  | 0, _, _, _, _ => none
  | k + 1, x0, x1, x7, x8 => if x8 < x7 then (if 0 ≤ x8 then (if x8 < (x0.length : Int) then (if (((rd_T54 x0 x8).f2).length : Int) > 100 then (jacquardref34_Few.j1 k x0 x1 x7 x8 true) else (jacquardref34_Few.j1 k x0 x1 x7 x8 (decide ((((rd_T54 x0 x8).f3).length : Int) > 40)))) else (none)) else (none)) else (some (decide ((x0.length : Int) ≤ x1)))
def jacquardref34_Few.j1 : Nat → List (S54) → Int → Int → Int → Bool → Option (Bool)
  | 0, _, _, _, _, _ => none
  | k + 1, x0, x1, x7, x8, x26 => if x26 = true then (some false) else (jacquardref34_Few.l0 k x0 x1 x7 (wrap64 (x8 + 1)))
end
def jacquardref34_Few.f (k : Nat) (l0 : List (S54)) (a1 : Int) : Option (Bool) := jacquardref34_Few.l0 k l0 a1 (l0.length : Int) 0
theorem jacquardref34_Few.mono_l : ∀ k, (∀ y0 y1 y2 y3, LeO (jacquardref34_Few.l0 k y0 y1 y2 y3) (jacquardref34_Few.l0 (k + 1) y0 y1 y2 y3)) ∧ (∀ y0 y1 y2 y3 y4, LeO (jacquardref34_Few.j1 k y0 y1 y2 y3 y4) (jacquardref34_Few.j1 (k + 1) y0 y1 y2 y3 y4))
  | 0 => by refine ⟨?_, ?_⟩ <;> intros <;> intro r h <;> simp [jacquardref34_Few.l0, jacquardref34_Few.j1] at h
  | k + 1 => by
    obtain ⟨ih0, ih1⟩ := jacquardref34_Few.mono_l k
    refine ⟨?_, ?_⟩ <;> intros <;> (first | unfold jacquardref34_Few.l0 | unfold jacquardref34_Few.j1) <;> repeat' first | (with_reducible first | apply ih0 | apply ih1 | exact LeO.refl _ | exact LeO.none _ | refine LeO.ite ?_ ?_ | refine LeO.bind ?_ (fun _ => ?_)) | apply ih0 | apply ih1 | exact LeO.none _ | refine LeO.ite ?_ ?_ | refine LeO.bind ?_ (fun _ => ?_)
theorem jacquardref34_Few.mono : ∀ a0 a1 k, LeO (jacquardref34_Few.f k a0 a1) (jacquardref34_Few.f (k + 1) a0 a1) := by
 intro a0 a1 k
 obtain ⟨ih0, ih1⟩ := jacquardref34_Few.mono_l k
 unfold jacquardref34_Few.f
 repeat' first | (with_reducible first | apply ih0 | apply ih1 | exact LeO.refl _ | exact LeO.none _ | refine LeO.ite ?_ ?_ | refine LeO.bind ?_ (fun _ => ?_)) | apply ih0 | apply ih1 | exact LeO.none _ | refine LeO.ite ?_ ?_ | refine LeO.bind ?_ (fun _ => ?_)
set_option maxHeartbeats 8000000 in
set_option maxRecDepth 100000 in
theorem jacquardref34_Few.calls (k : Nat) (A0 : Option Addr) (c0 : Nat) (l0 : List (S54)) (a1 : Int) (r : Bool) (w : World) (hr0 : Kd.C k54 w A0 l0.length l0) (hc0 : l0.length ≤ c0) (h : jacquardref34_Few.f k l0 a1 = some r) :
    Calls Try.prog 16 #[.slice A0 l0.length c0, .int .i64 a1] w fun e w' => e = .returned (.bool r) ∧ Drawn0 w w' := by
 have HR0 := Aside0.mk hr0
 have HC0 := Aside0.mk hc0
 clear hr0 hc0
 have H : (jacquardref34_Few.l0 k l0 a1 (l0.length : Int) 0) = some r := h
 clear h
 have H' := Aside0.mk H
 clear H
 go_enter Try.func16, Try.ntmps16
 go_wp2
 go_loopg [8] k (fun kq v8 w' => ∃ (x8_1 : Int), v8 = .int .i64 x8_1 ∧ Aside0 (jacquardref34_Few.l0 kq l0 a1 (l0.length : Int) x8_1 = some r) ∧ Aside0 (kq ≤ k) ∧ Drawn0 w w')
 case atStart => exact ⟨(0), (by first | rfl | (simp; done) | (simp [*]; done)), H', ⟨Nat.le_refl _⟩, by repeat (first | exact Drawn0.refl _ | apply Drawn0.step)⟩
 clear H'
 obtain ⟨x8_1, rfl, HA, HK1, ⟨m1, rfl⟩⟩ := hrel
 cases gk with
 | zero => exact absurd HA.out (by simp [jacquardref34_Few.l0])
 | succ k1 => ?_
 have H := HA.out
 clear HA
 simp only [jacquardref34_Few.l0] at H
 by_cases c3 : x8_1 < (l0.length : Int)
 · rw [if_pos c3] at H
   have c3b0 : decide (x8_1 < (l0.length : Int)) = true := decide_eq_true c3
   clear c3
   have HC4 := Aside0.mk H
   clear H
   go_upto_region 4 with (fail)
   go_cut [26] (fun v26 wc => ∃ (kq : Nat) (x26_3 : Bool), v26 = .bool x26_3 ∧ Aside0 (jacquardref34_Few.j1 kq l0 a1 (l0.length : Int) x8_1 x26_3 = some r) ∧ Aside0 (kq ≤ k1) ∧ Drawn0 w wc)
   case first =>
    have H := HC4.out
    clear HC4
    by_cases c5 : 0 ≤ x8_1
    · rw [if_pos c5] at H
      have c5b0 : decide (0 ≤ x8_1) = true := decide_eq_true c5
      clear c5
      (first | rw [c5b0] | (simp only [i64_w, i32_w]; rw [c5b0]) | skip)
      by_cases c6 : x8_1 < (l0.length : Int)
      · rw [if_pos c6] at H
        have c6b0 : decide (x8_1 < (l0.length : Int)) = true := decide_eq_true c6
        clear c6
        by_cases c7 : (((rd_T54 l0 x8_1).f2).length : Int) > 100
        · rw [if_pos c7] at H
          have c7b0 : decide (100 < (((rd_T54 l0 x8_1).f2).length : Int)) = true := decide_eq_true c7
          have c7b1 : decide (100 < ((rd_T54 l0 x8_1).f2).length) = true := decide_eq_true (by omega)
          clear c7
          have H' := Aside0.mk H
          clear H
          have p239 : 0 ≤ (x8_1 : Int) := of_decide_eq_true (by first | (with_reducible assumption) | assumption)
          have q239 : x8_1 < (l0.length : Int) := of_decide_eq_true (by first | (with_reducible assumption) | assumption)
          obtain ⟨ad239, A239_2, c239_2, A239_3, c239_3, e239, hx239_0, hx239_1, hx239_2, hx239_3, hx239_4, hx239_5, hx239_6, hl239_2, hi239_2, hl239_3, hi239_3⟩ := at_T54 HR0.out x8_1 p239 q239
          cases e239
          have HR239_2 := Aside0.mk hi239_2
          have HC239_2 := Aside0.mk hl239_2
          clear hi239_2 hl239_2
          have HR239_3 := Aside0.mk hi239_3
          have HC239_3 := Aside0.mk hl239_3
          clear hi239_3 hl239_3
          replace p239 := eq_true p239
          replace q239 := eq_true q239
          go_wp2
          go_meet
          case rel => exact ⟨_, (true), (by first | rfl | (simp; done) | (simp [*]; done)), H', ⟨by have := HK1.out; first | omega | exact Nat.le_refl _⟩, by repeat (first | exact Drawn0.refl _ | apply Drawn0.step)⟩
        rw [if_neg c7] at H
        have c7b0 : decide (100 < (((rd_T54 l0 x8_1).f2).length : Int)) = false := decide_eq_false c7
        have c7b1 : decide (100 < ((rd_T54 l0 x8_1).f2).length) = false := decide_eq_false (by omega)
        clear c7
        have H' := Aside0.mk H
        clear H
        have p239 : 0 ≤ (x8_1 : Int) := of_decide_eq_true (by first | (with_reducible assumption) | assumption)
        have q239 : x8_1 < (l0.length : Int) := of_decide_eq_true (by first | (with_reducible assumption) | assumption)
        obtain ⟨ad239, A239_2, c239_2, A239_3, c239_3, e239, hx239_0, hx239_1, hx239_2, hx239_3, hx239_4, hx239_5, hx239_6, hl239_2, hi239_2, hl239_3, hi239_3⟩ := at_T54 HR0.out x8_1 p239 q239
        cases e239
        have HR239_2 := Aside0.mk hi239_2
        have HC239_2 := Aside0.mk hl239_2
        clear hi239_2 hl239_2
        have HR239_3 := Aside0.mk hi239_3
        have HC239_3 := Aside0.mk hl239_3
        clear hi239_3 hl239_3
        replace p239 := eq_true p239
        replace q239 := eq_true q239
        have p240 : 0 ≤ (x8_1 : Int) := of_decide_eq_true (by first | (with_reducible assumption) | assumption)
        have q240 : x8_1 < (l0.length : Int) := of_decide_eq_true (by first | (with_reducible assumption) | assumption)
        obtain ⟨ad240, A240_2, c240_2, A240_3, c240_3, e240, hx240_0, hx240_1, hx240_2, hx240_3, hx240_4, hx240_5, hx240_6, hl240_2, hi240_2, hl240_3, hi240_3⟩ := at_T54 HR0.out x8_1 p240 q240
        obtain rfl : ad239 = ad240 := (by injection e240)
        have HR240_2 := Aside0.mk hi240_2
        have HC240_2 := Aside0.mk hl240_2
        clear hi240_2 hl240_2
        have HR240_3 := Aside0.mk hi240_3
        have HC240_3 := Aside0.mk hl240_3
        clear hi240_3 hl240_3
        replace p240 := eq_true p240
        replace q240 := eq_true q240
        have ea_ := Option.some.inj (hx239_2.symm.trans hx240_2)
        injection ea_ with ea_ en_ ec_
        subst ea_
        subst ec_
        clear en_
        have ea_ := Option.some.inj (hx239_3.symm.trans hx240_3)
        injection ea_ with ea_ en_ ec_
        subst ea_
        subst ec_
        clear en_
        go_wp2
        go_meet
        case rel => exact ⟨_, (decide ((((rd_T54 l0 x8_1).f3).length : Int) > 40)), (by first | rfl | (simp; done) | (simp [*]; done)), H', ⟨by have := HK1.out; first | omega | exact Nat.le_refl _⟩, by repeat (first | exact Drawn0.refl _ | apply Drawn0.step)⟩
      rw [if_neg c6] at H
      exact absurd H (by simp)
    rw [if_neg c5] at H
    exact absurd H (by simp)
   clear HC4
   obtain ⟨kq, x26_3, rfl, HA, HJ3, ⟨mc3, rfl⟩⟩ := hcut
   cases kq with
   | zero => exact absurd HA.out (by simp [jacquardref34_Few.j1])
   | succ kj3 => ?_
   have H := HA.out
   clear HA
   simp only [jacquardref34_Few.j1] at H
   by_cases c8 : x26_3 = true
   · subst c8
     have H1 : (some false) = some r := by rw [if_pos rfl] at H; exact H
     clear H
     have H := H1
     clear H1
     obtain rfl := Option.some.inj H
     go_wp2
     go_ret
     exact ⟨by first | rfl | (simp; done) | (simp [*]; done), by repeat (first | exact Drawn0.refl _ | apply Drawn0.step)⟩
   replace c8 := Bool.eq_false_iff.mpr c8
   subst c8
   have H1 : (jacquardref34_Few.l0 kj3 l0 a1 (l0.length : Int) (wrap64 (x8_1 + 1))) = some r := by rw [if_neg (show ¬ (false = true) by decide)] at H; exact H
   clear H
   have H := H1
   clear H1
   have H' := Aside0.mk H
   clear H
   go_wp2
   go_roundg kj3
   case measure => have := HK1.out; have := HJ3.out; omega
   case rel => exact ⟨(wrap64 (x8_1 + 1)), (by first | rfl | (simp; done) | (simp [*]; done)), H', ⟨by have := HK1.out; have := HJ3.out; omega⟩, by repeat (first | exact Drawn0.refl _ | apply Drawn0.step)⟩
 rw [if_neg c3] at H
 have c3b0 : decide (x8_1 < (l0.length : Int)) = false := decide_eq_false c3
 clear c3
 obtain rfl := Option.some.inj H
 go_wp2
 go_ret
 exact ⟨by first | rfl | (simp; done) | (simp [*]; done), by repeat (first | exact Drawn0.refl _ | apply Drawn0.step)⟩
end Go.Proofs.Ytpmlbbglekaidaa.PAll
