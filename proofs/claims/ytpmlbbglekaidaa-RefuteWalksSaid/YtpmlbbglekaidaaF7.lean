-- Written for this claim by programs of this session (wip/print2 in its repo: a changed printer, a shortener, a packer). Lean checks it.
import Derived.Test.YtpmlbbglekaidaaP0
import Derived.Test.YtpmlbbglekaidaaF15
import Derived.Test.YtpmlbbglekaidaaF16
namespace Go.Proofs.Ytpmlbbglekaidaa.PAll
open Go.RowKit Go.Proofs.YtpmlbbglekaidaaW.PrintWords Go.Proofs.YtpmlbbglekaidaaW.PrintLast Go.Proofs.YtpmlbbglekaidaaW.PrintMore
attribute [local go_sem] max2_int min2_int max_two min_two max_three min_three max_four min_four   -- for this text's walks alone
set_option linter.unusedVariables false
set_option linter.unusedSimpArgs false

/-! ### jacquardlaw34_few: function 7 -/
mutual
def jacquardlaw34_few.l0 : Nat → List (S54) → Int → Int → Int → Int → Bool → List (S48) → List (S50) → List (S52) → Option (Bool)
  | 0, _, _, _, _, _, _, _, _, _ => none
  | k + 1, x1, x8, x9, x242000, x242001, x242002, x242003, x242004, x242005 => if x9 < x8 then (if 0 ≤ x9 then (if x9 < (x242003.length : Int) then (if ((rd_T48 x242003 x9).f2) > 12 then (jacquardlaw34_few.j1 k x1 x8 x9 true x242000 x242001 x242002 x242003 x242004 x242005) else (jacquardlaw34_few.j1 k x1 x8 x9 (decide (((rd_T48 x242003 x9).f3) > 6)) x242000 x242001 x242002 x242003 x242004 x242005)) else (none)) else (none)) else ((jacquardref28_Small.f k x242000 x242001 x242002 x242003 x242004 x242005 8 4).bind fun t244 => (if t244 = true then (if (x242005.length : Int) ≤ 20 then ((jacquardref34_Few.f k x1 300).bind fun t245 => (some t245)) else (some false)) else (some false)))
def jacquardlaw34_few.j1 : Nat → List (S54) → Int → Int → Bool → Int → Int → Bool → List (S48) → List (S50) → List (S52) → Option (Bool)
  | 0, _, _, _, _, _, _, _, _, _, _ => none
  | k + 1, x1, x8, x9, x27, x242000, x242001, x242002, x242003, x242004, x242005 => if x27 = true then (some false) else (jacquardlaw34_few.l0 k x1 x8 (wrap64 (x9 + 1)) x242000 x242001 x242002 x242003 x242004 x242005)
end
def jacquardlaw34_few.f (k : Nat) (a0_0 : Int) (a0_1 : Int) (a0_2 : Bool) (l0_3 : List (S48)) (l0_4 : List (S50)) (l0_5 : List (S52)) (l1 : List (S54)) : Option (Bool) := jacquardlaw34_few.l0 k l1 (l0_3.length : Int) 0 a0_0 a0_1 a0_2 l0_3 l0_4 l0_5
theorem jacquardlaw34_few.mono_l : ∀ k, (∀ y0 y1 y2 y3 y4 y5 y6 y7 y8, LeO (jacquardlaw34_few.l0 k y0 y1 y2 y3 y4 y5 y6 y7 y8) (jacquardlaw34_few.l0 (k + 1) y0 y1 y2 y3 y4 y5 y6 y7 y8)) ∧ (∀ y0 y1 y2 y3 y4 y5 y6 y7 y8 y9, LeO (jacquardlaw34_few.j1 k y0 y1 y2 y3 y4 y5 y6 y7 y8 y9) (jacquardlaw34_few.j1 (k + 1) y0 y1 y2 y3 y4 y5 y6 y7 y8 y9))
  | 0 => by refine ⟨?_, ?_⟩ <;> intros <;> intro r h <;> simp [jacquardlaw34_few.l0, jacquardlaw34_few.j1] at h
  | k + 1 => by
    obtain ⟨ih0, ih1⟩ := jacquardlaw34_few.mono_l k
    refine ⟨?_, ?_⟩ <;> intros <;> (first | unfold jacquardlaw34_few.l0 | unfold jacquardlaw34_few.j1) <;> repeat' first | (with_reducible first | apply ih0 | apply ih1 | apply jacquardref28_Small.mono | apply jacquardref34_Few.mono | exact LeO.refl _ | exact LeO.none _ | refine LeO.ite ?_ ?_ | refine LeO.bind ?_ (fun _ => ?_)) | apply ih0 | apply ih1 | apply jacquardref28_Small.mono | apply jacquardref34_Few.mono | exact LeO.none _ | refine LeO.ite ?_ ?_ | refine LeO.bind ?_ (fun _ => ?_)
theorem jacquardlaw34_few.mono : ∀ a0 a1 a2 a3 a4 a5 a6 k, LeO (jacquardlaw34_few.f k a0 a1 a2 a3 a4 a5 a6) (jacquardlaw34_few.f (k + 1) a0 a1 a2 a3 a4 a5 a6) := by
 intro a0 a1 a2 a3 a4 a5 a6 k
 obtain ⟨ih0, ih1⟩ := jacquardlaw34_few.mono_l k
 unfold jacquardlaw34_few.f
 repeat' first | (with_reducible first | apply ih0 | apply ih1 | apply jacquardref28_Small.mono | apply jacquardref34_Few.mono | exact LeO.refl _ | exact LeO.none _ | refine LeO.ite ?_ ?_ | refine LeO.bind ?_ (fun _ => ?_)) | apply ih0 | apply ih1 | apply jacquardref28_Small.mono | apply jacquardref34_Few.mono | exact LeO.none _ | refine LeO.ite ?_ ?_ | refine LeO.bind ?_ (fun _ => ?_)
set_option maxHeartbeats 8000000 in
set_option maxRecDepth 100000 in
theorem jacquardlaw34_few.calls (k : Nat) (a0_0 : Int) (a0_1 : Int) (a0_2 : Bool) (A0_3 : Option Addr) (c0_3 : Nat) (l0_3 : List (S48)) (A0_4 : Option Addr) (c0_4 : Nat) (l0_4 : List (S50)) (A0_5 : Option Addr) (c0_5 : Nat) (l0_5 : List (S52)) (A1 : Option Addr) (c1 : Nat) (l1 : List (S54)) (r : Bool) (w : World) (hr0_3 : Kd.C k48 w A0_3 l0_3.length l0_3) (hc0_3 : l0_3.length ≤ c0_3) (hr0_4 : Kd.C k50 w A0_4 l0_4.length l0_4) (hc0_4 : l0_4.length ≤ c0_4) (hr0_5 : Kd.C k52 w A0_5 l0_5.length l0_5) (hc0_5 : l0_5.length ≤ c0_5) (hr1 : Kd.C k54 w A1 l1.length l1) (hc1 : l1.length ≤ c1) (h : jacquardlaw34_few.f k a0_0 a0_1 a0_2 l0_3 l0_4 l0_5 l1 = some r) :
    Calls Try.prog 7 #[.agg #[.int .i64 a0_0, .int .i64 a0_1, .bool a0_2, .slice A0_3 l0_3.length c0_3, .slice A0_4 l0_4.length c0_4, .slice A0_5 l0_5.length c0_5], .slice A1 l1.length c1] w fun e w' => e = .returned (.bool r) ∧ Below w.heap.size w w' := by
 have hu26 := Try.underlying26
 have HR0_3 := Aside0.mk hr0_3
 have HC0_3 := Aside0.mk hc0_3
 clear hr0_3 hc0_3
 have HR0_4 := Aside0.mk hr0_4
 have HC0_4 := Aside0.mk hc0_4
 clear hr0_4 hc0_4
 have HR0_5 := Aside0.mk hr0_5
 have HC0_5 := Aside0.mk hc0_5
 clear hr0_5 hc0_5
 have HR1 := Aside0.mk hr1
 have HC1 := Aside0.mk hc1
 clear hr1 hc1
 have HB := Aside0.mk (Below.refl w.heap.size w)
 have H : (jacquardlaw34_few.l0 k l1 (l0_3.length : Int) 0 a0_0 a0_1 a0_2 l0_3 l0_4 l0_5) = some r := h
 clear h
 have H' := Aside0.mk H
 clear H
 go_enter Try.func7, Try.ntmps7
 go_wp2_with (first | ((with_reducible refine gate_dst (N := 2) rfl ?_); (try (refine gate_guard (by rfl) ?_; dsimp only)); refine box_event ?hg (N := 2) ?hd (cs := #[.int .i64 a0_0, .int .i64 a0_1, .bool a0_2, .slice A0_3 l0_3.length c0_3, .slice A0_4 l0_4.length c0_4, .slice A0_5 l0_5.length c0_5]) (t := 26) ?hr ?_; (case hd => rfl); (case hg => rfl); (case hr => first | (go_simp; done) | (go_simp; rfl)); intro gb241 hg w3 hbox hb; have n0_ := Aside0.mk (below_step bl_ hb); have n1_ := Aside0.mk (hbox); have n2_ := Aside0.mk (gl_ (w := w) hg); have n3_ := Aside0.mk (gl_ (w := w) hg); clear HB; have HB := n0_; have BK241 := n1_; have GW241 := n2_; have GE241 := n3_; clear n0_ n1_ n2_ n3_; clear hb hbox hg; obtain ⟨hcz4_0, hcz4_1, hcz4_2, hcz4_3, hcz4_4, hcz4_5⟩ := cells6 BK241))
 go_loopg [9] k (fun kq v9 w' => ∃ (x9_1 : Int), v9 = .int .i64 x9_1 ∧ Aside0 (jacquardlaw34_few.l0 kq l1 (l0_3.length : Int) x9_1 a0_0 a0_1 a0_2 l0_3 l0_4 l0_5 = some r) ∧ Aside0 (kq ≤ k) ∧ Aside0 (w'.heap[gb241]? = some (.cells #[.int .i64 a0_0, .int .i64 a0_1, .bool a0_2, (.slice A0_3 l0_3.length c0_3), (.slice A0_4 l0_4.length c0_4), (.slice A0_5 l0_5.length c0_5)] 26 (0, 0))) ∧ Aside0 (Below w.heap.size w w'))
 case atStart => exact ⟨(0), (by first | rfl | (simp; done) | (simp [*]; done)), H', ⟨Nat.le_refl _⟩, ⟨K_ BK241⟩, ⟨bl_⟩⟩
 clear H'
 obtain ⟨x9_1, rfl, HA, HK1, BK241, HB⟩ := hrel
 cases gk with
 | zero => exact absurd HA.out (by simp [jacquardlaw34_few.l0])
 | succ k1 => ?_
 have H := HA.out
 clear HA
 simp only [jacquardlaw34_few.l0] at H
 by_cases c5 : x9_1 < (l0_3.length : Int)
 · rw [if_pos c5] at H
   have c5b0 : decide (x9_1 < (l0_3.length : Int)) = true := decide_eq_true c5
   clear c5
   have HC6 := Aside0.mk H
   clear H
   go_upto_region 4 with (fail)
   go_cut [27] (fun v27 wc => ∃ (kq : Nat) (x27_5 : Bool), v27 = .bool x27_5 ∧ Aside0 (jacquardlaw34_few.j1 kq l1 (l0_3.length : Int) x9_1 x27_5 a0_0 a0_1 a0_2 l0_3 l0_4 l0_5 = some r) ∧ Aside0 (kq ≤ k1) ∧ Aside0 (wc.heap[gb241]? = some (.cells #[.int .i64 a0_0, .int .i64 a0_1, .bool a0_2, (.slice A0_3 l0_3.length c0_3), (.slice A0_4 l0_4.length c0_4), (.slice A0_5 l0_5.length c0_5)] 26 (0, 0))) ∧ Aside0 (Below w.heap.size w wc))
   case first =>
    have H := HC6.out
    clear HC6
    by_cases c7 : 0 ≤ x9_1
    · rw [if_pos c7] at H
      have c7b0 : decide (0 ≤ x9_1) = true := decide_eq_true c7
      clear c7
      (first | rw [c7b0] | (simp only [i64_w, i32_w]; rw [c7b0]) | skip)
      by_cases c8 : x9_1 < (l0_3.length : Int)
      · rw [if_pos c8] at H
        have c8b0 : decide (x9_1 < (l0_3.length : Int)) = true := decide_eq_true c8
        clear c8
        by_cases c9 : ((rd_T48 l0_3 x9_1).f2) > 12
        · rw [if_pos c9] at H
          have c9b0 : decide (12 < ((rd_T48 l0_3 x9_1).f2)) = true := decide_eq_true c9
          clear c9
          have H' := Aside0.mk H
          clear H
          obtain ⟨hcz10_0, hcz10_1, hcz10_2, hcz10_3, hcz10_4, hcz10_5⟩ := cells6 BK241
          have p242 : 0 ≤ (x9_1 : Int) := of_decide_eq_true (by first | (with_reducible assumption) | assumption)
          have q242 : x9_1 < (l0_3.length : Int) := of_decide_eq_true (by first | (with_reducible assumption) | assumption)
          obtain ⟨ad242, e242, hx242_0, hx242_1, hx242_2, hx242_3⟩ := at_T48 HR0_3.out x9_1 p242 q242
          cases e242
          replace hx242_0 := hc_ HB hx242_0
          replace hx242_1 := hc_ HB hx242_1
          replace hx242_2 := hc_ HB hx242_2
          replace hx242_3 := hc_ HB hx242_3
          replace p242 := eq_true p242
          replace q242 := eq_true q242
          go_wp2
          go_meet
          case rel => exact ⟨_, (true), (by first | rfl | (simp; done) | (simp [*]; done)), H', ⟨by have := HK1.out; first | omega | exact Nat.le_refl _⟩, ⟨K_ BK241⟩, ⟨bl_⟩⟩
        rw [if_neg c9] at H
        have c9b0 : decide (12 < ((rd_T48 l0_3 x9_1).f2)) = false := decide_eq_false c9
        clear c9
        have H' := Aside0.mk H
        clear H
        obtain ⟨hcz11_0, hcz11_1, hcz11_2, hcz11_3, hcz11_4, hcz11_5⟩ := cells6 BK241
        have p242 : 0 ≤ (x9_1 : Int) := of_decide_eq_true (by first | (with_reducible assumption) | assumption)
        have q242 : x9_1 < (l0_3.length : Int) := of_decide_eq_true (by first | (with_reducible assumption) | assumption)
        obtain ⟨ad242, e242, hx242_0, hx242_1, hx242_2, hx242_3⟩ := at_T48 HR0_3.out x9_1 p242 q242
        cases e242
        replace hx242_0 := hc_ HB hx242_0
        replace hx242_1 := hc_ HB hx242_1
        replace hx242_2 := hc_ HB hx242_2
        replace hx242_3 := hc_ HB hx242_3
        replace p242 := eq_true p242
        replace q242 := eq_true q242
        have p243 : 0 ≤ (x9_1 : Int) := of_decide_eq_true (by first | (with_reducible assumption) | assumption)
        have q243 : x9_1 < (l0_3.length : Int) := of_decide_eq_true (by first | (with_reducible assumption) | assumption)
        obtain ⟨ad243, e243, hx243_0, hx243_1, hx243_2, hx243_3⟩ := at_T48 HR0_3.out x9_1 p243 q243
        obtain rfl : ad242 = ad243 := (by injection e243)
        replace hx243_0 := hc_ HB hx243_0
        replace hx243_1 := hc_ HB hx243_1
        replace hx243_2 := hc_ HB hx243_2
        replace hx243_3 := hc_ HB hx243_3
        replace p243 := eq_true p243
        replace q243 := eq_true q243
        go_wp2
        go_meet
        case rel => exact ⟨_, (decide (((rd_T48 l0_3 x9_1).f3) > 6)), (by first | rfl | (simp; done) | (simp [*]; done)), H', ⟨by have := HK1.out; first | omega | exact Nat.le_refl _⟩, ⟨K_ BK241⟩, ⟨bl_⟩⟩
      rw [if_neg c8] at H
      exact absurd H (by simp)
    rw [if_neg c7] at H
    exact absurd H (by simp)
   clear HC6
   obtain ⟨kq, x27_5, rfl, HA, HJ5, BK241, HB⟩ := hcut
   cases kq with
   | zero => exact absurd HA.out (by simp [jacquardlaw34_few.j1])
   | succ kj5 => ?_
   have H := HA.out
   clear HA
   simp only [jacquardlaw34_few.j1] at H
   by_cases c12 : x27_5 = true
   · subst c12
     have H1 : (some false) = some r := by rw [if_pos rfl] at H; exact H
     clear H
     have H := H1
     clear H1
     obtain rfl := Option.some.inj H
     go_wp2
     go_ret
     exact ⟨by first | rfl | (simp [errW_none, errW_some] <;> rfl) | (simp [*, errW_none, errW_some] <;> rfl), by repeat (first | (with_reducible first | exact HB.out | apply below_alloc | apply pw_below_drewN | apply below_drew1 | refine below_set ?_ GE241.out) | exact HB.out)⟩
   replace c12 := Bool.eq_false_iff.mpr c12
   subst c12
   have H1 : (jacquardlaw34_few.l0 kj5 l1 (l0_3.length : Int) (wrap64 (x9_1 + 1)) a0_0 a0_1 a0_2 l0_3 l0_4 l0_5) = some r := by rw [if_neg (show ¬ (false = true) by decide)] at H; exact H
   clear H
   have H := H1
   clear H1
   have H' := Aside0.mk H
   clear H
   go_wp2
   go_roundg kj5
   case measure => have := HK1.out; have := HJ5.out; omega
   case rel => exact ⟨(wrap64 (x9_1 + 1)), (by first | rfl | (simp; done) | (simp [*]; done)), H', ⟨by have := HK1.out; have := HJ5.out; omega⟩, ⟨K_ BK241⟩, ⟨bl_⟩⟩
 rw [if_neg c5] at H
 have c5b0 : decide (x9_1 < (l0_3.length : Int)) = false := decide_eq_false c5
 clear c5
 replace H := Option.bind_eq_some_iff.mp H
 obtain ⟨t244, A130, H⟩ := H
 replace H : (if t244 = true then (if (l0_5.length : Int) ≤ 20 then ((jacquardref34_Few.f k1 l1 300).bind fun t245 => (some t245)) else (some false)) else (some false)) = some r := H
 have A13 := Aside0.mk A130
 clear A130
 by_cases c14 : t244 = true
 · subst c14
   have H1 : (if (l0_5.length : Int) ≤ 20 then ((jacquardref34_Few.f k1 l1 300).bind fun t245 => (some t245)) else (some false)) = some r := by rw [if_pos rfl] at H; exact H
   clear H
   have H := H1
   clear H1
   by_cases c15 : (l0_5.length : Int) ≤ 20
   · rw [if_pos c15] at H
     have c15b0 : decide ((l0_5.length : Int) ≤ 20) = true := decide_eq_true c15
     have c15b1 : decide (l0_5.length ≤ 20) = true := decide_eq_true (by omega)
     clear c15
     replace H := Option.bind_eq_some_iff.mp H
     obtain ⟨t245, A160, H⟩ := H
     replace H : (some t245) = some r := H
     have A16 := Aside0.mk A160
     clear A160
     obtain rfl := Option.some.inj H
     obtain ⟨hcz17_0, hcz17_1, hcz17_2, hcz17_3, hcz17_4, hcz17_5⟩ := cells6 BK241
     go_wp2_with (first | ((with_reducible refine gate_callee (f := 15) rfl ?_); refine gL_ 30 Try.func15 #[.agg #[.int .i64 a0_0, .int .i64 a0_1, .bool a0_2, .slice A0_3 l0_3.length c0_3, .slice A0_4 l0_4.length c0_4, .slice A0_5 l0_5.length c0_5], .int .i64 8, .int .i64 4] ?_; (with_reducible refine (jacquardref28_Small.calls k1 a0_0 a0_1 a0_2 _ _ l0_3 _ _ l0_4 _ _ l0_5 8 4 true _ ?side1 ?side2 ?side3 ?side4 ?side5 ?side6 A13.out).mono ?_); (case side1 => exact CB_ HR0_3); (case side2 => exact HC0_3.out); (case side3 => exact CB_ HR0_4); (case side4 => exact HC0_4.out); (case side5 => exact CB_ HR0_5); (case side6 => exact HC0_5.out); rintro e w18 ⟨rfl, hb⟩; refine ⟨_, rfl, ?_⟩; have n0_ := Aside0.mk (blk_below (K_ BK241) hb); have n1_ := Aside0.mk (below_step bl_ hb); clear BK241; clear HB; have BK241 := n0_; have HB := n1_; clear n0_ n1_; (try clear hb); (try clear hb2); (try clear hk); (try clear hi); obtain ⟨hcz19_0, hcz19_1, hcz19_2, hcz19_3, hcz19_4, hcz19_5⟩ := cells6 BK241) | (go_at_call 16; (with_reducible refine (jacquardref34_Few.calls k1 _ _ l1 300 t245 _ ?side1 ?side2 A16.out).mono ?_); (case side1 => exact CB_ HR1); (case side2 => exact HC1.out); rintro e w' ⟨rfl, ⟨nd, rfl⟩⟩))
     go_ret
     exact ⟨by first | rfl | (simp [errW_none, errW_some] <;> rfl) | (simp [*, errW_none, errW_some] <;> rfl), by repeat (first | (with_reducible first | exact HB.out | apply below_alloc | apply pw_below_drewN | apply below_drew1 | refine below_set ?_ GE241.out) | exact HB.out)⟩
   rw [if_neg c15] at H
   have c15b0 : decide ((l0_5.length : Int) ≤ 20) = false := decide_eq_false c15
   have c15b1 : decide (l0_5.length ≤ 20) = false := decide_eq_false (by omega)
   clear c15
   obtain rfl := Option.some.inj H
   obtain ⟨hcz20_0, hcz20_1, hcz20_2, hcz20_3, hcz20_4, hcz20_5⟩ := cells6 BK241
   go_wp2_with (first | ((with_reducible refine gate_callee (f := 15) rfl ?_); refine gL_ 30 Try.func15 #[.agg #[.int .i64 a0_0, .int .i64 a0_1, .bool a0_2, .slice A0_3 l0_3.length c0_3, .slice A0_4 l0_4.length c0_4, .slice A0_5 l0_5.length c0_5], .int .i64 8, .int .i64 4] ?_; (with_reducible refine (jacquardref28_Small.calls k1 a0_0 a0_1 a0_2 _ _ l0_3 _ _ l0_4 _ _ l0_5 8 4 true _ ?side1 ?side2 ?side3 ?side4 ?side5 ?side6 A13.out).mono ?_); (case side1 => exact CB_ HR0_3); (case side2 => exact HC0_3.out); (case side3 => exact CB_ HR0_4); (case side4 => exact HC0_4.out); (case side5 => exact CB_ HR0_5); (case side6 => exact HC0_5.out); rintro e w21 ⟨rfl, hb⟩; refine ⟨_, rfl, ?_⟩; have n0_ := Aside0.mk (blk_below (K_ BK241) hb); have n1_ := Aside0.mk (below_step bl_ hb); clear BK241; clear HB; have BK241 := n0_; have HB := n1_; clear n0_ n1_; (try clear hb); (try clear hb2); (try clear hk); (try clear hi); obtain ⟨hcz22_0, hcz22_1, hcz22_2, hcz22_3, hcz22_4, hcz22_5⟩ := cells6 BK241))
   go_ret
   exact ⟨by first | rfl | (simp [errW_none, errW_some] <;> rfl) | (simp [*, errW_none, errW_some] <;> rfl), by repeat (first | (with_reducible first | exact HB.out | apply below_alloc | apply pw_below_drewN | apply below_drew1 | refine below_set ?_ GE241.out) | exact HB.out)⟩
 replace c14 := Bool.eq_false_iff.mpr c14
 subst c14
 have H1 : (some false) = some r := by rw [if_neg (show ¬ (false = true) by decide)] at H; exact H
 clear H
 have H := H1
 clear H1
 obtain rfl := Option.some.inj H
 obtain ⟨hcz23_0, hcz23_1, hcz23_2, hcz23_3, hcz23_4, hcz23_5⟩ := cells6 BK241
 go_wp2_with (first | ((with_reducible refine gate_callee (f := 15) rfl ?_); refine gL_ 30 Try.func15 #[.agg #[.int .i64 a0_0, .int .i64 a0_1, .bool a0_2, .slice A0_3 l0_3.length c0_3, .slice A0_4 l0_4.length c0_4, .slice A0_5 l0_5.length c0_5], .int .i64 8, .int .i64 4] ?_; (with_reducible refine (jacquardref28_Small.calls k1 a0_0 a0_1 a0_2 _ _ l0_3 _ _ l0_4 _ _ l0_5 8 4 false _ ?side1 ?side2 ?side3 ?side4 ?side5 ?side6 A13.out).mono ?_); (case side1 => exact CB_ HR0_3); (case side2 => exact HC0_3.out); (case side3 => exact CB_ HR0_4); (case side4 => exact HC0_4.out); (case side5 => exact CB_ HR0_5); (case side6 => exact HC0_5.out); rintro e w24 ⟨rfl, hb⟩; refine ⟨_, rfl, ?_⟩; have n0_ := Aside0.mk (blk_below (K_ BK241) hb); have n1_ := Aside0.mk (below_step bl_ hb); clear BK241; clear HB; have BK241 := n0_; have HB := n1_; clear n0_ n1_; (try clear hb); (try clear hb2); (try clear hk); (try clear hi)))
 go_ret
 exact ⟨by first | rfl | (simp [errW_none, errW_some] <;> rfl) | (simp [*, errW_none, errW_some] <;> rfl), by repeat (first | (with_reducible first | exact HB.out | apply below_alloc | apply pw_below_drewN | apply below_drew1 | refine below_set ?_ GE241.out) | exact HB.out)⟩
end Go.Proofs.Ytpmlbbglekaidaa.PAll
