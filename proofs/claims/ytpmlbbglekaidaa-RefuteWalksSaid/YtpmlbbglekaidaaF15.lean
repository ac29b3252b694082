-- Written for this claim by programs of this session (wip/print2 in its repo: a changed printer, a shortener, a packer). Lean checks it.
import Derived.Test.YtpmlbbglekaidaaP0
namespace Go.Proofs.Ytpmlbbglekaidaa.PAll
open Go.RowKit Go.Proofs.YtpmlbbglekaidaaW.PrintWords Go.Proofs.YtpmlbbglekaidaaW.PrintLast Go.Proofs.YtpmlbbglekaidaaW.PrintMore
attribute [local go_sem] max2_int min2_int max_two min_two max_three min_three max_four min_four   -- for this text's walks alone
set_option linter.unusedVariables false
set_option linter.unusedSimpArgs false

/-! ### jacquardref28_Small: function 15 -/
mutual
def jacquardref28_Small.l0 : Nat → Int → Int → Int → Int → Int → Int → Bool → List (S48) → List (S50) → List (S52) → Option (Bool)
  | 0, _, _, _, _, _, _, _, _, _, _ => none
  | k + 1, x1, x2, x11, x12, x236000, x236001, x236002, x236003, x236004, x236005 => if x12 < x11 then (if 0 ≤ x12 then (if x12 < (x236003.length : Int) then (if ((rd_T48 x236003 x12).f2) > 60 then (jacquardref28_Small.j1 k x1 x2 x11 x12 true x236000 x236001 x236002 x236003 x236004 x236005) else (jacquardref28_Small.j1 k x1 x2 x11 x12 (decide (((rd_T48 x236003 x12).f3) > 20)) x236000 x236001 x236002 x236003 x236004 x236005)) else (none)) else (none)) else (jacquardref28_Small.l1 k x1 x2 (x236005.length : Int) 0 x236000 x236001 x236002 x236003 x236004 x236005)
def jacquardref28_Small.j1 : Nat → Int → Int → Int → Int → Bool → Int → Int → Bool → List (S48) → List (S50) → List (S52) → Option (Bool)
  | 0, _, _, _, _, _, _, _, _, _, _, _ => none
  | k + 1, x1, x2, x11, x12, x30, x236000, x236001, x236002, x236003, x236004, x236005 => if x30 = true then (some false) else (jacquardref28_Small.l0 k x1 x2 x11 (wrap64 (x12 + 1)) x236000 x236001 x236002 x236003 x236004 x236005)
def jacquardref28_Small.l1 : Nat → Int → Int → Int → Int → Int → Int → Bool → List (S48) → List (S50) → List (S52) → Option (Bool)
  | 0, _, _, _, _, _, _, _, _, _, _ => none
  | k + 1, x1, x2, x34, x35, x236000, x236001, x236002, x236003, x236004, x236005 => if x35 < x34 then (if 0 ≤ x35 then (if x35 < (x236005.length : Int) then (if ((rd_T52 x236005 x35).f1) > 20 then (some false) else (jacquardref28_Small.l1 k x1 x2 x34 (wrap64 (x35 + 1)) x236000 x236001 x236002 x236003 x236004 x236005)) else (none)) else (none)) else (if x236000 ≤ x1 then (if x236001 ≤ x2 then (if (x236003.length : Int) ≤ 90 then (some (decide ((x236004.length : Int) ≤ 6))) else (some false)) else (some false)) else (some false))
end
def jacquardref28_Small.f (k : Nat) (a0_0 : Int) (a0_1 : Int) (a0_2 : Bool) (l0_3 : List (S48)) (l0_4 : List (S50)) (l0_5 : List (S52)) (a1 : Int) (a2 : Int) : Option (Bool) := jacquardref28_Small.l0 k a1 a2 (l0_3.length : Int) 0 a0_0 a0_1 a0_2 l0_3 l0_4 l0_5
theorem jacquardref28_Small.mono_l : ∀ k, (∀ y0 y1 y2 y3 y4 y5 y6 y7 y8 y9, LeO (jacquardref28_Small.l0 k y0 y1 y2 y3 y4 y5 y6 y7 y8 y9) (jacquardref28_Small.l0 (k + 1) y0 y1 y2 y3 y4 y5 y6 y7 y8 y9)) ∧ (∀ y0 y1 y2 y3 y4 y5 y6 y7 y8 y9 y10, LeO (jacquardref28_Small.j1 k y0 y1 y2 y3 y4 y5 y6 y7 y8 y9 y10) (jacquardref28_Small.j1 (k + 1) y0 y1 y2 y3 y4 y5 y6 y7 y8 y9 y10)) ∧ (∀ y0 y1 y2 y3 y4 y5 y6 y7 y8 y9, LeO (jacquardref28_Small.l1 k y0 y1 y2 y3 y4 y5 y6 y7 y8 y9) (jacquardref28_Small.l1 (k + 1) y0 y1 y2 y3 y4 y5 y6 y7 y8 y9))
  | 0 => by refine ⟨?_, ?_, ?_⟩ <;> intros <;> intro r h <;> simp [jacquardref28_Small.l0, jacquardref28_Small.j1, jacquardref28_Small.l1] at h
  | k + 1 => by
    obtain ⟨ih0, ih1, ih2⟩ := jacquardref28_Small.mono_l k
    refine ⟨?_, ?_, ?_⟩ <;> intros <;> (first | unfold jacquardref28_Small.l0 | unfold jacquardref28_Small.j1 | unfold jacquardref28_Small.l1) <;> repeat' first | (with_reducible first | apply ih0 | apply ih1 | apply ih2 | exact LeO.refl _ | exact LeO.none _ | refine LeO.ite ?_ ?_ | refine LeO.bind ?_ (fun _ => ?_)) | apply ih0 | apply ih1 | apply ih2 | exact LeO.none _ | refine LeO.ite ?_ ?_ | refine LeO.bind ?_ (fun _ => ?_)
theorem jacquardref28_Small.mono : ∀ a0 a1 a2 a3 a4 a5 a6 a7 k, LeO (jacquardref28_Small.f k a0 a1 a2 a3 a4 a5 a6 a7) (jacquardref28_Small.f (k + 1) a0 a1 a2 a3 a4 a5 a6 a7) := by
 intro a0 a1 a2 a3 a4 a5 a6 a7 k
 obtain ⟨ih0, ih1, ih2⟩ := jacquardref28_Small.mono_l k
 unfold jacquardref28_Small.f
 repeat' first | (with_reducible first | apply ih0 | apply ih1 | apply ih2 | exact LeO.refl _ | exact LeO.none _ | refine LeO.ite ?_ ?_ | refine LeO.bind ?_ (fun _ => ?_)) | apply ih0 | apply ih1 | apply ih2 | exact LeO.none _ | refine LeO.ite ?_ ?_ | refine LeO.bind ?_ (fun _ => ?_)
set_option maxHeartbeats 8000000 in
set_option maxRecDepth 100000 in
theorem jacquardref28_Small.calls (k : Nat) (a0_0 : Int) (a0_1 : Int) (a0_2 : Bool) (A0_3 : Option Addr) (c0_3 : Nat) (l0_3 : List (S48)) (A0_4 : Option Addr) (c0_4 : Nat) (l0_4 : List (S50)) (A0_5 : Option Addr) (c0_5 : Nat) (l0_5 : List (S52)) (a1 : Int) (a2 : Int) (r : Bool) (w : World) (hr0_3 : Kd.C k48 w A0_3 l0_3.length l0_3) (hc0_3 : l0_3.length ≤ c0_3) (hr0_4 : Kd.C k50 w A0_4 l0_4.length l0_4) (hc0_4 : l0_4.length ≤ c0_4) (hr0_5 : Kd.C k52 w A0_5 l0_5.length l0_5) (hc0_5 : l0_5.length ≤ c0_5) (h : jacquardref28_Small.f k a0_0 a0_1 a0_2 l0_3 l0_4 l0_5 a1 a2 = some r) :
    Calls Try.prog 15 #[.agg #[.int .i64 a0_0, .int .i64 a0_1, .bool a0_2, .slice A0_3 l0_3.length c0_3, .slice A0_4 l0_4.length c0_4, .slice A0_5 l0_5.length c0_5], .int .i64 a1, .int .i64 a2] w fun e w' => e = .returned (.bool r) ∧ Below w.heap.size w w' := by
 have hu26 := Try.underlying26
 have HR0_3 := Aside0.mk hr0_3
 have HC0_3 := Aside0.mk hc0_3
 clear hr0_3 hc0_3
 have HR0_4 := Aside0.mk hr0_4
 have HC0_4 := Aside0.mk hc0_4
 clear hr0_4 hc0_4
 have HR0_5 := Aside0.mk hr0_5
 have HC0_5 := Aside0.mk hc0_5
 clear hr0_5 hc0_5
 have HB := Aside0.mk (Below.refl w.heap.size w)
 have H : (jacquardref28_Small.l0 k a1 a2 (l0_3.length : Int) 0 a0_0 a0_1 a0_2 l0_3 l0_4 l0_5) = some r := h
 clear h
 have H' := Aside0.mk H
 clear H
 go_enter Try.func15, Try.ntmps15
 go_wp2_with (first | ((with_reducible refine gate_dst (N := 3) rfl ?_); (try (refine gate_guard (by rfl) ?_; dsimp only)); refine box_event ?hg (N := 3) ?hd (cs := #[.int .i64 a0_0, .int .i64 a0_1, .bool a0_2, .slice A0_3 l0_3.length c0_3, .slice A0_4 l0_4.length c0_4, .slice A0_5 l0_5.length c0_5]) (t := 26) ?hr ?_; (case hd => rfl); (case hg => rfl); (case hr => first | (go_simp; done) | (go_simp; rfl)); intro gb235 hg w4 hbox hb; have n0_ := Aside0.mk (below_step bl_ hb); have n1_ := Aside0.mk (hbox); have n2_ := Aside0.mk (gl_ (w := w) hg); have n3_ := Aside0.mk (gl_ (w := w) hg); clear HB; have HB := n0_; have BK235 := n1_; have GW235 := n2_; have GE235 := n3_; clear n0_ n1_ n2_ n3_; clear hb hbox hg; obtain ⟨hcz5_0, hcz5_1, hcz5_2, hcz5_3, hcz5_4, hcz5_5⟩ := cells6 BK235))
 go_loopg [12] k (fun kq v12 w' => ∃ (x12_1 : Int), v12 = .int .i64 x12_1 ∧ Aside0 (jacquardref28_Small.l0 kq a1 a2 (l0_3.length : Int) x12_1 a0_0 a0_1 a0_2 l0_3 l0_4 l0_5 = some r) ∧ Aside0 (kq ≤ k) ∧ Aside0 (w'.heap[gb235]? = some (.cells #[.int .i64 a0_0, .int .i64 a0_1, .bool a0_2, (.slice A0_3 l0_3.length c0_3), (.slice A0_4 l0_4.length c0_4), (.slice A0_5 l0_5.length c0_5)] 26 (0, 0))) ∧ Aside0 (Below w.heap.size w w'))
 case atStart => exact ⟨(0), (by first | rfl | (simp; done) | (simp [*]; done)), H', ⟨Nat.le_refl _⟩, ⟨K_ BK235⟩, ⟨bl_⟩⟩
 clear H'
 obtain ⟨x12_1, rfl, HA, HK1, BK235, HB⟩ := hrel
 cases gk with
 | zero => exact absurd HA.out (by simp [jacquardref28_Small.l0])
 | succ k1 => ?_
 have H := HA.out
 clear HA
 simp only [jacquardref28_Small.l0] at H
 by_cases c6 : x12_1 < (l0_3.length : Int)
 · rw [if_pos c6] at H
   have c6b0 : decide (x12_1 < (l0_3.length : Int)) = true := decide_eq_true c6
   clear c6
   have HC7 := Aside0.mk H
   clear H
   go_upto_region 4 with (fail)
   go_cut [30] (fun v30 wc => ∃ (kq : Nat) (x30_6 : Bool), v30 = .bool x30_6 ∧ Aside0 (jacquardref28_Small.j1 kq a1 a2 (l0_3.length : Int) x12_1 x30_6 a0_0 a0_1 a0_2 l0_3 l0_4 l0_5 = some r) ∧ Aside0 (kq ≤ k1) ∧ Aside0 (wc.heap[gb235]? = some (.cells #[.int .i64 a0_0, .int .i64 a0_1, .bool a0_2, (.slice A0_3 l0_3.length c0_3), (.slice A0_4 l0_4.length c0_4), (.slice A0_5 l0_5.length c0_5)] 26 (0, 0))) ∧ Aside0 (Below w.heap.size w wc))
   case first =>
    have H := HC7.out
    clear HC7
    by_cases c8 : 0 ≤ x12_1
    · rw [if_pos c8] at H
      have c8b0 : decide (0 ≤ x12_1) = true := decide_eq_true c8
      clear c8
      (first | rw [c8b0] | (simp only [i64_w, i32_w]; rw [c8b0]) | skip)
      by_cases c9 : x12_1 < (l0_3.length : Int)
      · rw [if_pos c9] at H
        have c9b0 : decide (x12_1 < (l0_3.length : Int)) = true := decide_eq_true c9
        clear c9
        by_cases c10 : ((rd_T48 l0_3 x12_1).f2) > 60
        · rw [if_pos c10] at H
          have c10b0 : decide (60 < ((rd_T48 l0_3 x12_1).f2)) = true := decide_eq_true c10
          clear c10
          have H' := Aside0.mk H
          clear H
          obtain ⟨hcz11_0, hcz11_1, hcz11_2, hcz11_3, hcz11_4, hcz11_5⟩ := cells6 BK235
          have p236 : 0 ≤ (x12_1 : Int) := of_decide_eq_true (by first | (with_reducible assumption) | assumption)
          have q236 : x12_1 < (l0_3.length : Int) := of_decide_eq_true (by first | (with_reducible assumption) | assumption)
          obtain ⟨ad236, e236, hx236_0, hx236_1, hx236_2, hx236_3⟩ := at_T48 HR0_3.out x12_1 p236 q236
          cases e236
          replace hx236_0 := hc_ HB hx236_0
          replace hx236_1 := hc_ HB hx236_1
          replace hx236_2 := hc_ HB hx236_2
          replace hx236_3 := hc_ HB hx236_3
          replace p236 := eq_true p236
          replace q236 := eq_true q236
          go_wp2
          go_meet
          case rel => exact ⟨_, (true), (by first | rfl | (simp; done) | (simp [*]; done)), H', ⟨by have := HK1.out; first | omega | exact Nat.le_refl _⟩, ⟨K_ BK235⟩, ⟨bl_⟩⟩
        rw [if_neg c10] at H
        have c10b0 : decide (60 < ((rd_T48 l0_3 x12_1).f2)) = false := decide_eq_false c10
        clear c10
        have H' := Aside0.mk H
        clear H
        obtain ⟨hcz12_0, hcz12_1, hcz12_2, hcz12_3, hcz12_4, hcz12_5⟩ := cells6 BK235
        have p236 : 0 ≤ (x12_1 : Int) := of_decide_eq_true (by first | (with_reducible assumption) | assumption)
        have q236 : x12_1 < (l0_3.length : Int) := of_decide_eq_true (by first | (with_reducible assumption) | assumption)
        obtain ⟨ad236, e236, hx236_0, hx236_1, hx236_2, hx236_3⟩ := at_T48 HR0_3.out x12_1 p236 q236
        cases e236
        replace hx236_0 := hc_ HB hx236_0
        replace hx236_1 := hc_ HB hx236_1
        replace hx236_2 := hc_ HB hx236_2
        replace hx236_3 := hc_ HB hx236_3
        replace p236 := eq_true p236
        replace q236 := eq_true q236
        have p237 : 0 ≤ (x12_1 : Int) := of_decide_eq_true (by first | (with_reducible assumption) | assumption)
        have q237 : x12_1 < (l0_3.length : Int) := of_decide_eq_true (by first | (with_reducible assumption) | assumption)
        obtain ⟨ad237, e237, hx237_0, hx237_1, hx237_2, hx237_3⟩ := at_T48 HR0_3.out x12_1 p237 q237
        obtain rfl : ad236 = ad237 := (by injection e237)
        replace hx237_0 := hc_ HB hx237_0
        replace hx237_1 := hc_ HB hx237_1
        replace hx237_2 := hc_ HB hx237_2
        replace hx237_3 := hc_ HB hx237_3
        replace p237 := eq_true p237
        replace q237 := eq_true q237
        go_wp2
        go_meet
        case rel => exact ⟨_, (decide (((rd_T48 l0_3 x12_1).f3) > 20)), (by first | rfl | (simp; done) | (simp [*]; done)), H', ⟨by have := HK1.out; first | omega | exact Nat.le_refl _⟩, ⟨K_ BK235⟩, ⟨bl_⟩⟩
      rw [if_neg c9] at H
      exact absurd H (by simp)
    rw [if_neg c8] at H
    exact absurd H (by simp)
   clear HC7
   obtain ⟨kq, x30_6, rfl, HA, HJ6, BK235, HB⟩ := hcut
   cases kq with
   | zero => exact absurd HA.out (by simp [jacquardref28_Small.j1])
   | succ kj6 => ?_
   have H := HA.out
   clear HA
   simp only [jacquardref28_Small.j1] at H
   by_cases c13 : x30_6 = true
   · subst c13
     have H1 : (some false) = some r := by rw [if_pos rfl] at H; exact H
     clear H
     have H := H1
     clear H1
     obtain rfl := Option.some.inj H
     go_wp2
     go_ret
     exact ⟨by first | rfl | (simp [errW_none, errW_some] <;> rfl) | (simp [*, errW_none, errW_some] <;> rfl), by repeat (first | (with_reducible first | exact HB.out | apply below_alloc | apply pw_below_drewN | apply below_drew1 | refine below_set ?_ GE235.out) | exact HB.out)⟩
   replace c13 := Bool.eq_false_iff.mpr c13
   subst c13
   have H1 : (jacquardref28_Small.l0 kj6 a1 a2 (l0_3.length : Int) (wrap64 (x12_1 + 1)) a0_0 a0_1 a0_2 l0_3 l0_4 l0_5) = some r := by rw [if_neg (show ¬ (false = true) by decide)] at H; exact H
   clear H
   have H := H1
   clear H1
   have H' := Aside0.mk H
   clear H
   go_wp2
   go_roundg kj6
   case measure => have := HK1.out; have := HJ6.out; omega
   case rel => exact ⟨(wrap64 (x12_1 + 1)), (by first | rfl | (simp; done) | (simp [*]; done)), H', ⟨by have := HK1.out; have := HJ6.out; omega⟩, ⟨K_ BK235⟩, ⟨bl_⟩⟩
 rw [if_neg c6] at H
 have c6b0 : decide (x12_1 < (l0_3.length : Int)) = false := decide_eq_false c6
 clear c6
 have H' := Aside0.mk H
 clear H
 obtain ⟨hcz14_0, hcz14_1, hcz14_2, hcz14_3, hcz14_4, hcz14_5⟩ := cells6 BK235
 go_wp2
 go_loopg [35] k1 (fun kq v35 w' => ∃ (x35_2 : Int), v35 = .int .i64 x35_2 ∧ Aside0 (jacquardref28_Small.l1 kq a1 a2 (l0_5.length : Int) x35_2 a0_0 a0_1 a0_2 l0_3 l0_4 l0_5 = some r) ∧ Aside0 (kq ≤ k1) ∧ Aside0 (w'.heap[gb235]? = some (.cells #[.int .i64 a0_0, .int .i64 a0_1, .bool a0_2, (.slice A0_3 l0_3.length c0_3), (.slice A0_4 l0_4.length c0_4), (.slice A0_5 l0_5.length c0_5)] 26 (0, 0))) ∧ Aside0 (Below w.heap.size w w'))
 case atStart => exact ⟨(0), (by first | rfl | (simp; done) | (simp [*]; done)), H', ⟨Nat.le_refl _⟩, ⟨K_ BK235⟩, ⟨bl_⟩⟩
 clear H'
 obtain ⟨x35_2, rfl, HA, HK2, BK235, HB⟩ := hrel
 cases gk with
 | zero => exact absurd HA.out (by simp [jacquardref28_Small.l1])
 | succ k2 => ?_
 have H := HA.out
 clear HA
 simp only [jacquardref28_Small.l1] at H
 by_cases c15 : x35_2 < (l0_5.length : Int)
 · rw [if_pos c15] at H
   have c15b0 : decide (x35_2 < (l0_5.length : Int)) = true := decide_eq_true c15
   clear c15
   by_cases c16 : 0 ≤ x35_2
   · rw [if_pos c16] at H
     have c16b0 : decide (0 ≤ x35_2) = true := decide_eq_true c16
     clear c16
     by_cases c17 : x35_2 < (l0_5.length : Int)
     · rw [if_pos c17] at H
       have c17b0 : decide (x35_2 < (l0_5.length : Int)) = true := decide_eq_true c17
       clear c17
       by_cases c18 : ((rd_T52 l0_5 x35_2).f1) > 20
       · rw [if_pos c18] at H
         have c18b0 : decide (20 < ((rd_T52 l0_5 x35_2).f1)) = true := decide_eq_true c18
         clear c18
         obtain rfl := Option.some.inj H
         obtain ⟨hcz19_0, hcz19_1, hcz19_2, hcz19_3, hcz19_4, hcz19_5⟩ := cells6 BK235
         have p238 : 0 ≤ (x35_2 : Int) := of_decide_eq_true (by first | (with_reducible assumption) | assumption)
         have q238 : x35_2 < (l0_5.length : Int) := of_decide_eq_true (by first | (with_reducible assumption) | assumption)
         obtain ⟨ad238, e238, hx238_0, hx238_1⟩ := at_T52 HR0_5.out x35_2 p238 q238
         cases e238
         replace hx238_0 := hc_ HB hx238_0
         replace hx238_1 := hc_ HB hx238_1
         replace p238 := eq_true p238
         replace q238 := eq_true q238
         go_wp2
         go_ret
         exact ⟨by first | rfl | (simp [errW_none, errW_some] <;> rfl) | (simp [*, errW_none, errW_some] <;> rfl), by repeat (first | (with_reducible first | exact HB.out | apply below_alloc | apply pw_below_drewN | apply below_drew1 | refine below_set ?_ GE235.out) | exact HB.out)⟩
       rw [if_neg c18] at H
       have c18b0 : decide (20 < ((rd_T52 l0_5 x35_2).f1)) = false := decide_eq_false c18
       clear c18
       have H' := Aside0.mk H
       clear H
       obtain ⟨hcz20_0, hcz20_1, hcz20_2, hcz20_3, hcz20_4, hcz20_5⟩ := cells6 BK235
       have p238 : 0 ≤ (x35_2 : Int) := of_decide_eq_true (by first | (with_reducible assumption) | assumption)
       have q238 : x35_2 < (l0_5.length : Int) := of_decide_eq_true (by first | (with_reducible assumption) | assumption)
       obtain ⟨ad238, e238, hx238_0, hx238_1⟩ := at_T52 HR0_5.out x35_2 p238 q238
       cases e238
       replace hx238_0 := hc_ HB hx238_0
       replace hx238_1 := hc_ HB hx238_1
       replace p238 := eq_true p238
       replace q238 := eq_true q238
       go_wp2
       go_roundg k2
       case measure => have := HK1.out; have := HK2.out; omega
       case rel => exact ⟨(wrap64 (x35_2 + 1)), (by first | rfl | (simp; done) | (simp [*]; done)), H', ⟨by have := HK1.out; have := HK2.out; omega⟩, ⟨K_ BK235⟩, ⟨bl_⟩⟩
     rw [if_neg c17] at H
     exact absurd H (by simp)
   rw [if_neg c16] at H
   exact absurd H (by simp)
 rw [if_neg c15] at H
 have c15b0 : decide (x35_2 < (l0_5.length : Int)) = false := decide_eq_false c15
 clear c15
 by_cases c21 : a0_0 ≤ a1
 · rw [if_pos c21] at H
   have c21b0 : decide (a0_0 ≤ a1) = true := decide_eq_true c21
   clear c21
   by_cases c22 : a0_1 ≤ a2
   · rw [if_pos c22] at H
     have c22b0 : decide (a0_1 ≤ a2) = true := decide_eq_true c22
     clear c22
     by_cases c23 : (l0_3.length : Int) ≤ 90
     · rw [if_pos c23] at H
       have c23b0 : decide ((l0_3.length : Int) ≤ 90) = true := decide_eq_true c23
       have c23b1 : decide (l0_3.length ≤ 90) = true := decide_eq_true (by omega)
       clear c23
       obtain rfl := Option.some.inj H
       obtain ⟨hcz24_0, hcz24_1, hcz24_2, hcz24_3, hcz24_4, hcz24_5⟩ := cells6 BK235
       go_wp2
       go_ret
       exact ⟨by first | rfl | (simp [errW_none, errW_some] <;> rfl) | (simp [*, errW_none, errW_some] <;> rfl), by repeat (first | (with_reducible first | exact HB.out | apply below_alloc | apply pw_below_drewN | apply below_drew1 | refine below_set ?_ GE235.out) | exact HB.out)⟩
     rw [if_neg c23] at H
     have c23b0 : decide ((l0_3.length : Int) ≤ 90) = false := decide_eq_false c23
     have c23b1 : decide (l0_3.length ≤ 90) = false := decide_eq_false (by omega)
     clear c23
     obtain rfl := Option.some.inj H
     obtain ⟨hcz25_0, hcz25_1, hcz25_2, hcz25_3, hcz25_4, hcz25_5⟩ := cells6 BK235
     go_wp2
     go_ret
     exact ⟨by first | rfl | (simp [errW_none, errW_some] <;> rfl) | (simp [*, errW_none, errW_some] <;> rfl), by repeat (first | (with_reducible first | exact HB.out | apply below_alloc | apply pw_below_drewN | apply below_drew1 | refine below_set ?_ GE235.out) | exact HB.out)⟩
   rw [if_neg c22] at H
   have c22b0 : decide (a0_1 ≤ a2) = false := decide_eq_false c22
   clear c22
   obtain rfl := Option.some.inj H
   obtain ⟨hcz26_0, hcz26_1, hcz26_2, hcz26_3, hcz26_4, hcz26_5⟩ := cells6 BK235
   go_wp2
   go_ret
   exact ⟨by first | rfl | (simp [errW_none, errW_some] <;> rfl) | (simp [*, errW_none, errW_some] <;> rfl), by repeat (first | (with_reducible first | exact HB.out | apply below_alloc | apply pw_below_drewN | apply below_drew1 | refine below_set ?_ GE235.out) | exact HB.out)⟩
 rw [if_neg c21] at H
 have c21b0 : decide (a0_0 ≤ a1) = false := decide_eq_false c21
 clear c21
 obtain rfl := Option.some.inj H
 obtain ⟨hcz27_0, hcz27_1, hcz27_2, hcz27_3, hcz27_4, hcz27_5⟩ := cells6 BK235
 go_wp2
 go_ret
 exact ⟨by first | rfl | (simp [errW_none, errW_some] <;> rfl) | (simp [*, errW_none, errW_some] <;> rfl), by repeat (first | (with_reducible first | exact HB.out | apply below_alloc | apply pw_below_drewN | apply below_drew1 | refine below_set ?_ GE235.out) | exact HB.out)⟩
end Go.Proofs.Ytpmlbbglekaidaa.PAll
