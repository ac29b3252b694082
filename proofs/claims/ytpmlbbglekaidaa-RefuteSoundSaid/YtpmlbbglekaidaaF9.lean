-- Written for this claim by programs of this session (wip/print2 in its repo: a changed printer, a shortener, a packer). Lean checks it.
import Derived.Test.YtpmlbbglekaidaaP0
namespace Go.Proofs.Ytpmlbbglekaidaa.PAll
open Go.RowKit Go.Proofs.YtpmlbbglekaidaaW.PrintWords Go.Proofs.YtpmlbbglekaidaaW.PrintLast Go.Proofs.YtpmlbbglekaidaaW.PrintMore
attribute [local go_sem] max2_int min2_int max_two min_two max_three min_three max_four min_four   -- for this text's walks alone
set_option linter.unusedVariables false
set_option linter.unusedSimpArgs false

/-! ### jacquardref33_Needy: function 9 -/
def jacquardref33_Needy.l0 : Nat → List Int → Int → Int → Int → Int → Bool → List (S48) → List (S50) → List (S52) → Option (List Int)
  | 0, _, _, _, _, _, _, _, _, _ => none
  | k + 1, x3, x7, x8, x383000, x383001, x383002, x383003, x383004, x383005 => if x8 < x7 then (if 0 ≤ x8 then (if x8 < (x383005.length : Int) then (if ((rd_T52 x383005 x8).f0) ≥ 0 then (if x3.length < 17592186044416 then (jacquardref33_Needy.l0 k (x3 ++ [x8]) x7 (wrap64 (x8 + 1)) x383000 x383001 x383002 x383003 x383004 x383005) else (none)) else (jacquardref33_Needy.l0 k x3 x7 (wrap64 (x8 + 1)) x383000 x383001 x383002 x383003 x383004 x383005)) else (none)) else (none)) else (some x3)
def jacquardref33_Needy.f (k : Nat) (a0_0 : Int) (a0_1 : Int) (a0_2 : Bool) (l0_3 : List (S48)) (l0_4 : List (S50)) (l0_5 : List (S52)) : Option (List Int) := jacquardref33_Needy.l0 k ([] : List Int) (l0_5.length : Int) 0 a0_0 a0_1 a0_2 l0_3 l0_4 l0_5
theorem jacquardref33_Needy.mono_l : ∀ k, (∀ y0 y1 y2 y3 y4 y5 y6 y7 y8, LeO (jacquardref33_Needy.l0 k y0 y1 y2 y3 y4 y5 y6 y7 y8) (jacquardref33_Needy.l0 (k + 1) y0 y1 y2 y3 y4 y5 y6 y7 y8))
  | 0 => fun _ _ _ _ _ _ _ _ _ r h => by simp [jacquardref33_Needy.l0] at h
  | k + 1 => by
    have ih0 := jacquardref33_Needy.mono_l k
    intros
    unfold jacquardref33_Needy.l0
    repeat' first | (with_reducible first | apply ih0 | exact LeO.refl _ | exact LeO.none _ | refine LeO.ite ?_ ?_ | refine LeO.bind ?_ (fun _ => ?_)) | apply ih0 | exact LeO.none _ | refine LeO.ite ?_ ?_ | refine LeO.bind ?_ (fun _ => ?_)
theorem jacquardref33_Needy.mono : ∀ a0 a1 a2 a3 a4 a5 k, LeO (jacquardref33_Needy.f k a0 a1 a2 a3 a4 a5) (jacquardref33_Needy.f (k + 1) a0 a1 a2 a3 a4 a5) := by
 intro a0 a1 a2 a3 a4 a5 k
 have ih0 := jacquardref33_Needy.mono_l k
 unfold jacquardref33_Needy.f
 repeat' first | (with_reducible first | apply ih0 | exact LeO.refl _ | exact LeO.none _ | refine LeO.ite ?_ ?_ | refine LeO.bind ?_ (fun _ => ?_)) | apply ih0 | exact LeO.none _ | refine LeO.ite ?_ ?_ | refine LeO.bind ?_ (fun _ => ?_)
set_option maxHeartbeats 8000000 in
set_option maxRecDepth 100000 in
theorem jacquardref33_Needy.calls (k : Nat) (a0_0 : Int) (a0_1 : Int) (a0_2 : Bool) (A0_3 : Option Addr) (c0_3 : Nat) (l0_3 : List (S48)) (A0_4 : Option Addr) (c0_4 : Nat) (l0_4 : List (S50)) (A0_5 : Option Addr) (c0_5 : Nat) (l0_5 : List (S52)) (r : List Int) (w : World) (hr0_3 : Kd.C k48 w A0_3 l0_3.length l0_3) (hc0_3 : l0_3.length ≤ c0_3) (hr0_4 : Kd.C k50 w A0_4 l0_4.length l0_4) (hc0_4 : l0_4.length ≤ c0_4) (hr0_5 : Kd.C k52 w A0_5 l0_5.length l0_5) (hc0_5 : l0_5.length ≤ c0_5) (h : jacquardref33_Needy.f k a0_0 a0_1 a0_2 l0_3 l0_4 l0_5 = some r) :
    Calls Try.prog 9 #[.agg #[.int .i64 a0_0, .int .i64 a0_1, .bool a0_2, .slice A0_3 l0_3.length c0_3, .slice A0_4 l0_4.length c0_4, .slice A0_5 l0_5.length c0_5]] w fun e w' => ∃ v0_ : Value, e = .returned (v0_) ∧ Kd.R (Kd.int .i64) 3 w' w.heap.size (fun _ => True) v0_ r ∧ Below w.heap.size w w' := by
 have hu26 := Try.underlying26
 have HR0_3 := Aside0.mk hr0_3
 have HC0_3 := Aside0.mk hc0_3
 clear hr0_3 hc0_3
 have HR0_4 := Aside0.mk hr0_4
 have HC0_4 := Aside0.mk hc0_4
 clear hr0_4 hc0_4
 have HR0_5 := Aside0.mk hr0_5
 have HC0_5 := Aside0.mk hc0_5
 clear hr0_5 hc0_5
 have HB := Aside0.mk (Below.refl w.heap.size w)
 have H : (jacquardref33_Needy.l0 k ([] : List Int) (l0_5.length : Int) 0 a0_0 a0_1 a0_2 l0_3 l0_4 l0_5) = some r := h
 clear h
 have H' := Aside0.mk H
 clear H
 go_enter Try.func9, Try.ntmps9
 go_wp2_with (first | ((with_reducible refine gate_dst (N := 1) rfl ?_); refine box_event ?hg (N := 1) ?hd (cs := #[.int .i64 a0_0, .int .i64 a0_1, .bool a0_2, .slice A0_3 l0_3.length c0_3, .slice A0_4 l0_4.length c0_4, .slice A0_5 l0_5.length c0_5]) (t := 26) ?hr ?_; (case hd => rfl); (case hg => rfl); (case hr => first | (go_simp; done) | (go_simp; rfl)); intro gb382 hg w2 hbox hb; have n0_ := Aside0.mk (below_step bl_ hb); have n1_ := Aside0.mk (hbox); have n2_ := Aside0.mk (gl_ (w := w) hg); have n3_ := Aside0.mk (gl_ (w := w) hg); clear HB; have HB := n0_; have BK382 := n1_; have GW382 := n2_; have GE382 := n3_; clear n0_ n1_ n2_ n3_; clear hb hbox hg; obtain ⟨hcz3_0, hcz3_1, hcz3_2, hcz3_3, hcz3_4, hcz3_5⟩ := cells6 BK382))
 go_loopg [3, 8] k (fun kq v3 v8 w' => ∃ (x3_1 : List Int) (x8_1 : Int), v8 = .int .i64 x8_1 ∧ Aside0 (jacquardref33_Needy.l0 kq x3_1 (l0_5.length : Int) x8_1 a0_0 a0_1 a0_2 l0_3 l0_4 l0_5 = some r) ∧ Aside0 (kq ≤ k) ∧ Aside0 (Kd.R (Kd.int .i64) 3 w' w.heap.size (fun _ => True) v3 x3_1) ∧ Aside0 (w'.heap[gb382]? = some (.cells #[.int .i64 a0_0, .int .i64 a0_1, .bool a0_2, (.slice A0_3 l0_3.length c0_3), (.slice A0_4 l0_4.length c0_4), (.slice A0_5 l0_5.length c0_5)] 26 (0, 0))) ∧ Aside0 (Below w.heap.size w w'))
 case atStart => exact ⟨(([] : List Int)), (0), (by first | rfl | (simp; done) | (simp [*]; done)), H', ⟨Nat.le_refl _⟩, ⟨by first | exact Kd.R_nil _ _ _ _ _ | exact Kd.N_nil _ _ _ _ _ | exact Kd.V_nil _ _ _ _ _ | exact Kd.Q_nil _ _ _ _ _ | exact Kd.S_nil _ _ _ _ _⟩, ⟨K_ BK382⟩, ⟨bl_⟩⟩
 clear H'
 obtain ⟨x3_1, x8_1, rfl, HA, HK1, HO_3, BK382, HB⟩ := hrel
 cases gk with
 | zero => exact absurd HA.out (by simp [jacquardref33_Needy.l0])
 | succ k1 => ?_
 have H := HA.out
 clear HA
 simp only [jacquardref33_Needy.l0] at H
 by_cases c4 : x8_1 < (l0_5.length : Int)
 · rw [if_pos c4] at H
   have c4b0 : decide (x8_1 < (l0_5.length : Int)) = true := decide_eq_true c4
   clear c4
   by_cases c5 : 0 ≤ x8_1
   · rw [if_pos c5] at H
     have c5b0 : decide (0 ≤ x8_1) = true := decide_eq_true c5
     clear c5
     by_cases c6 : x8_1 < (l0_5.length : Int)
     · rw [if_pos c6] at H
       have c6b0 : decide (x8_1 < (l0_5.length : Int)) = true := decide_eq_true c6
       clear c6
       by_cases c7 : ((rd_T52 l0_5 x8_1).f0) ≥ 0
       · rw [if_pos c7] at H
         have c7b0 : decide (0 ≤ ((rd_T52 l0_5 x8_1).f0)) = true := decide_eq_true c7
         clear c7
         by_cases c8 : x3_1.length < 17592186044416
         · rw [if_pos c8] at H
           have LMc8 := Aside0.mk c8
           clear c8
           obtain ⟨y384, hy384⟩ : ∃ y_ : List Int, y_ = (x3_1 ++ [x8_1]) := ⟨_, rfl⟩
           replace H : (jacquardref33_Needy.l0 k1 y384 (l0_5.length : Int) (wrap64 (x8_1 + 1)) a0_0 a0_1 a0_2 l0_3 l0_4 l0_5) = some r := by first | (rw [hy384]; with_reducible exact H) | (have H2_ := (Option.bind_some _ _).symm.trans H; rw [hy384]; with_reducible exact H2_) | (have H2_ := (Option.bind_some _ _).symm.trans H; with_reducible exact H2_) | with_reducible exact H | (rw [hy384]; exact H) | exact H
           have Ny384 := Aside0.mk hy384
           clear hy384
           have H' := Aside0.mk H
           clear H
           obtain ⟨hcz9_0, hcz9_1, hcz9_2, hcz9_3, hcz9_4, hcz9_5⟩ := cells6 BK382
           have p383 : 0 ≤ (x8_1 : Int) := of_decide_eq_true (by first | (with_reducible assumption) | assumption)
           have q383 : x8_1 < (l0_5.length : Int) := of_decide_eq_true (by first | (with_reducible assumption) | assumption)
           obtain ⟨ad383, e383, hx383_0, hx383_1⟩ := at_T52 HR0_5.out x8_1 p383 q383
           cases e383
           replace hx383_0 := hc_ HB hx383_0
           replace hx383_1 := hc_ HB hx383_1
           replace p383 := eq_true p383
           replace q383 := eq_true q383
           go_wp2_with (first | ((with_reducible refine gate_builtin (b := .append) (xs := #[.tmp 18, .tmp 20]) rfl ?_); at_builtin; refine Kd.R_append (Kd.int .i64) (w0 := w) w.heap.size rfl (.tmp 18) (.tmp 20) 31 3 (.int .i64 0) 8 rfl Try.underlying31 info3 rfl (by decide) (by omega) u3 x3_1 x8_1 [.int .i64 x8_1] (fun _ => True) (fun _ => False) rfl rfl ?aP (fun _ hk => hk.elim) ?aF ?aO ?aB ?aS ?aL ?_; (case aP => exact rfl); (case aB => exact bl_); (case aF => exact (fun _ _ => trivial)); (case aO => exact (R_ HO_3)); (case aS => exact (below_size bl_)); (case aL => have := LMc8.out; omega); intro v385 w10 ho hb hg hat; rw [← Ny384.out] at ho; have n0_ := Aside0.mk (blk_grown (K_ BK382) hg (Kd.R_ne HO_3.out BK382.out (by decide))); have n1_ := Aside0.mk (hb); have n2_ := Aside0.mk (ho); clear BK382; clear HB; clear HO_3; have BK382 := n0_; have HB := n1_; have HO386 := n2_; clear n0_ n1_ n2_; clear ho hb hg hat))
           go_roundg k1
           case measure => have := HK1.out; omega
           case rel => exact ⟨(y384), (wrap64 (x8_1 + 1)), (by first | rfl | (simp; done) | (simp [*]; done)), H', ⟨by have := HK1.out; omega⟩, ⟨R_ HO386⟩, ⟨K_ BK382⟩, ⟨bl_⟩⟩
         rw [if_neg c8] at H
         exact absurd H (by simp)
       rw [if_neg c7] at H
       have c7b0 : decide (0 ≤ ((rd_T52 l0_5 x8_1).f0)) = false := decide_eq_false c7
       clear c7
       have H' := Aside0.mk H
       clear H
       obtain ⟨hcz11_0, hcz11_1, hcz11_2, hcz11_3, hcz11_4, hcz11_5⟩ := cells6 BK382
       have p383 : 0 ≤ (x8_1 : Int) := of_decide_eq_true (by first | (with_reducible assumption) | assumption)
       have q383 : x8_1 < (l0_5.length : Int) := of_decide_eq_true (by first | (with_reducible assumption) | assumption)
       obtain ⟨ad383, e383, hx383_0, hx383_1⟩ := at_T52 HR0_5.out x8_1 p383 q383
       cases e383
       replace hx383_0 := hc_ HB hx383_0
       replace hx383_1 := hc_ HB hx383_1
       replace p383 := eq_true p383
       replace q383 := eq_true q383
       go_wp2
       go_roundg k1
       case measure => have := HK1.out; omega
       case rel => exact ⟨(x3_1), (wrap64 (x8_1 + 1)), (by first | rfl | (simp; done) | (simp [*]; done)), H', ⟨by have := HK1.out; omega⟩, ⟨R_ HO_3⟩, ⟨K_ BK382⟩, ⟨bl_⟩⟩
     rw [if_neg c6] at H
     exact absurd H (by simp)
   rw [if_neg c5] at H
   exact absurd H (by simp)
 rw [if_neg c4] at H
 have c4b0 : decide (x8_1 < (l0_5.length : Int)) = false := decide_eq_false c4
 clear c4
 obtain rfl := Option.some.inj H
 go_wp2
 go_ret
 exact ⟨_, by first | rfl | (simp [errW_none, errW_some] <;> rfl) | (simp [*, errW_none, errW_some] <;> rfl), by (with_reducible repeat (first | apply Kd.R_alloc | apply Kd.R_drewN | apply Kd.R_drew)); exact HO_3.out, by repeat (first | (with_reducible first | exact HB.out | apply below_alloc | apply pw_below_drewN | apply below_drew1 | refine below_set ?_ GE382.out) | exact HB.out)⟩
end Go.Proofs.Ytpmlbbglekaidaa.PAll
