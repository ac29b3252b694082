-- Written for this claim by programs of this session (wip/print2 in its repo: a changed printer, a shortener, a packer). Lean checks it.
import Derived.Test.YtmefaegcoogmiaaP0
import Derived.Test.YtmefaegcoogmiaaF11
namespace Go.Proofs.Ytmefaegcoogmiaa.PAll
open Go.RowKit Go.Proofs.YtmefaegcoogmiaaW.PrintWords Go.Proofs.YtmefaegcoogmiaaW.PrintLast Go.Proofs.YtmefaegcoogmiaaW.PrintMore
attribute [local go_sem] max2_int min2_int max_two min_two max_three min_three max_four min_four   -- for this text's walks alone
set_option linter.unusedVariables false
set_option linter.unusedSimpArgs false

/-! ### jacquardref36_Issues: function 18 -/
def jacquardref36_Issues.l0 : Nat → List (S49) → List Int → List Int → Int → Int → ByteArray → List Int → List (S75) → List (S77) → List Int → List (S66) → Option (List Int × Int)
  | 0, _, _, _, _, _, _, _, _, _, _, _ => none
  | k + 1, x1, x2, x8, x9, x10, x215000, x215001, x215002, x215003, x215004, x215005 => if x10 < (x2.length : Int) then (if 0 ≤ x10 then (if x8.length < 17592186044416 then ((some (x8 ++ [x9] : List Int)).bind fun y216 => (if (wrap64 (x10 + 1)) < (x2.length : Int) then (if 0 ≤ (wrap64 (x10 + 1)) then (if (rd x2 (wrap64 (x10 + 1))) = (rd x2 x10) then ((jacquardref36_Self.f k x215000 x215001 x215002 x215003 x215004 x215005 x1 (rd x2 x10)).bind fun t220 => (if t220 ≥ 0 then (if 0 ≤ (rd x2 x10) then (if (rd x2 x10) < (x1.length : Int) then (jacquardref36_Issues.l0 k x1 x2 y216 (wrap64 (x9 + ((rd_T49 x1 (rd x2 x10)).f0))) (wrap64 (x10 + 1)) x215000 x215001 x215002 x215003 x215004 x215005) else (none)) else (none)) else (if 0 ≤ (rd x2 x10) then (if (rd x2 x10) < (x1.length : Int) then (jacquardref36_Issues.l0 k x1 x2 y216 (wrap64 (x9 + ((rd_T49 x1 (rd x2 x10)).f1))) (wrap64 (x10 + 1)) x215000 x215001 x215002 x215003 x215004 x215005) else (none)) else (none)))) else (if 0 ≤ (rd x2 x10) then (if (rd x2 x10) < (x1.length : Int) then (jacquardref36_Issues.l0 k x1 x2 y216 (wrap64 (x9 + ((rd_T49 x1 (rd x2 x10)).f1))) (wrap64 (x10 + 1)) x215000 x215001 x215002 x215003 x215004 x215005) else (none)) else (none))) else (none)) else (if 0 ≤ (rd x2 x10) then (if (rd x2 x10) < (x1.length : Int) then (jacquardref36_Issues.l0 k x1 x2 y216 (wrap64 (x9 + ((rd_T49 x1 (rd x2 x10)).f1))) (wrap64 (x10 + 1)) x215000 x215001 x215002 x215003 x215004 x215005) else (none)) else (none)))) else (none)) else (none)) else (some (x8, x9))
def jacquardref36_Issues.f (k : Nat) (a0_0 : ByteArray) (l0_1 : List Int) (l0_2 : List (S75)) (l0_3 : List (S77)) (l0_4 : List Int) (l0_5 : List (S66)) (l1 : List (S49)) (l2 : List Int) : Option (List Int × Int) := jacquardref36_Issues.l0 k l1 l2 ([] : List Int) 1 0 a0_0 l0_1 l0_2 l0_3 l0_4 l0_5
theorem jacquardref36_Issues.mono_l : ∀ k, (∀ y0 y1 y2 y3 y4 y5 y6 y7 y8 y9 y10, LeO (jacquardref36_Issues.l0 k y0 y1 y2 y3 y4 y5 y6 y7 y8 y9 y10) (jacquardref36_Issues.l0 (k + 1) y0 y1 y2 y3 y4 y5 y6 y7 y8 y9 y10))
  | 0 => fun _ _ _ _ _ _ _ _ _ _ _ r h => by simp [jacquardref36_Issues.l0] at h
  | k + 1 => by
    have ih0 := jacquardref36_Issues.mono_l k
    · intro y0 y1 y2 y3 y4 y5 y6 y7 y8 y9 y10
      unfold jacquardref36_Issues.l0
      repeat' first
      | (with_reducible exact ih0 _ _ _ _ _ _ _ _ _ _ _)
      | (with_reducible exact jacquardref36_Self.mono _ _ _ _ _ _ _ _ _)
      | (with_reducible exact LeO.refl _)
      | (with_reducible exact LeO.none _)
      | (with_reducible refine LeO.ite ?_ ?_)
      | (with_reducible refine LeO.bind ?_ (fun _ => ?_))
      | exact ih0 _ _ _ _ _ _ _ _ _ _ _
      | exact jacquardref36_Self.mono _ _ _ _ _ _ _ _ _
      | exact LeO.none _
      | refine LeO.ite ?_ ?_
      | refine LeO.bind ?_ (fun _ => ?_)
theorem jacquardref36_Issues.mono : ∀ a0 a1 a2 a3 a4 a5 a6 a7 k, LeO (jacquardref36_Issues.f k a0 a1 a2 a3 a4 a5 a6 a7) (jacquardref36_Issues.f (k + 1) a0 a1 a2 a3 a4 a5 a6 a7) := by
 intro a0 a1 a2 a3 a4 a5 a6 a7 k
 have ih0 := jacquardref36_Issues.mono_l k
 unfold jacquardref36_Issues.f
 repeat' first
     | (with_reducible exact ih0 _ _ _ _ _ _ _ _ _ _ _)
     | (with_reducible exact jacquardref36_Self.mono _ _ _ _ _ _ _ _ _)
     | (with_reducible exact LeO.refl _)
     | (with_reducible exact LeO.none _)
     | (with_reducible refine LeO.ite ?_ ?_)
     | (with_reducible refine LeO.bind ?_ (fun _ => ?_))
     | exact ih0 _ _ _ _ _ _ _ _ _ _ _
     | exact jacquardref36_Self.mono _ _ _ _ _ _ _ _ _
     | exact LeO.none _
     | refine LeO.ite ?_ ?_
     | refine LeO.bind ?_ (fun _ => ?_)
set_option maxHeartbeats 8000000 in
set_option maxRecDepth 100000 in
theorem jacquardref36_Issues.calls (k : Nat) (a0_0 : ByteArray) (A0_1 : Option Addr) (c0_1 : Nat) (l0_1 : List Int) (A0_2 : Option Addr) (c0_2 : Nat) (l0_2 : List (S75)) (A0_3 : Option Addr) (c0_3 : Nat) (l0_3 : List (S77)) (A0_4 : Option Addr) (c0_4 : Nat) (l0_4 : List Int) (A0_5 : Option Addr) (c0_5 : Nat) (l0_5 : List (S66)) (A1 : Option Addr) (c1 : Nat) (l1 : List (S49)) (A2 : Option Addr) (c2 : Nat) (l2 : List Int) (r1 : List Int) (r2 : Int) (w : World) (hr0_1 : Kd.C (Kd.int .i64) w A0_1 l0_1.length l0_1) (hc0_1 : l0_1.length ≤ c0_1) (hr0_2 : Kd.C k75 w A0_2 l0_2.length l0_2) (hc0_2 : l0_2.length ≤ c0_2) (hr0_3 : Kd.C k77 w A0_3 l0_3.length l0_3) (hc0_3 : l0_3.length ≤ c0_3) (hr0_4 : Kd.C (Kd.int .i64) w A0_4 l0_4.length l0_4) (hc0_4 : l0_4.length ≤ c0_4) (hr0_5 : Kd.C k66 w A0_5 l0_5.length l0_5) (hc0_5 : l0_5.length ≤ c0_5) (hr1 : Kd.C k49 w A1 l1.length l1) (hc1 : l1.length ≤ c1) (hr2 : Kd.C (Kd.int .i64) w A2 l2.length l2) (hc2 : l2.length ≤ c2) (h : jacquardref36_Issues.f k a0_0 l0_1 l0_2 l0_3 l0_4 l0_5 l1 l2 = some (r1, r2)) :
    Calls Try.prog 18 #[.agg #[.string a0_0, .slice A0_1 l0_1.length c0_1, .slice A0_2 l0_2.length c0_2, .slice A0_3 l0_3.length c0_3, .slice A0_4 l0_4.length c0_4, .slice A0_5 l0_5.length c0_5], .slice A1 l1.length c1, .slice A2 l2.length c2] w fun e w' => ∃ v0_ : Value, e = .returned (.tuple #[v0_, .int .i64 r2]) ∧ Kd.R (Kd.int .i64) 3 w' w.heap.size (fun _ => True) v0_ r1 ∧ Below w.heap.size w w' := by
 have hu27 := Try.underlying27
 have HR0_1 := Aside0.mk hr0_1
 have HC0_1 := Aside0.mk hc0_1
 clear hr0_1 hc0_1
 have HR0_2 := Aside0.mk hr0_2
 have HC0_2 := Aside0.mk hc0_2
 clear hr0_2 hc0_2
 have HR0_3 := Aside0.mk hr0_3
 have HC0_3 := Aside0.mk hc0_3
 clear hr0_3 hc0_3
 have HR0_4 := Aside0.mk hr0_4
 have HC0_4 := Aside0.mk hc0_4
 clear hr0_4 hc0_4
 have HR0_5 := Aside0.mk hr0_5
 have HC0_5 := Aside0.mk hc0_5
 clear hr0_5 hc0_5
 have HR1 := Aside0.mk hr1
 have HC1 := Aside0.mk hc1
 clear hr1 hc1
 have HR2 := Aside0.mk hr2
 have HC2 := Aside0.mk hc2
 clear hr2 hc2
 have HB := Aside0.mk (Below.refl w.heap.size w)
 have H : (jacquardref36_Issues.l0 k l1 l2 ([] : List Int) 1 0 a0_0 l0_1 l0_2 l0_3 l0_4 l0_5) = some (r1, r2) := h
 clear h
 have H' := Aside0.mk H
 clear H
 go_enter Try.func18, Try.ntmps18
 go_wp2_with (first | ((with_reducible refine gate_dst (N := 3) rfl ?_); refine box_event ?hg (N := 3) ?hd (cs := #[.string a0_0, .slice A0_1 l0_1.length c0_1, .slice A0_2 l0_2.length c0_2, .slice A0_3 l0_3.length c0_3, .slice A0_4 l0_4.length c0_4, .slice A0_5 l0_5.length c0_5]) (t := 27) ?hr ?_; (case hd => rfl); (case hg => rfl); (case hr => first | (go_simp; done) | (go_simp; rfl)); intro gb214 hg w4 hbox hb; have n0_ := Aside0.mk (below_step bl_ hb); have n1_ := Aside0.mk (hbox); have n2_ := Aside0.mk (gl_ (w := w) hg); have n3_ := Aside0.mk (gl_ (w := w) hg); clear HB; have HB := n0_; have BK214 := n1_; have GW214 := n2_; have GE214 := n3_; clear n0_ n1_ n2_ n3_; clear hb hbox hg))
 go_loopg [8, 9, 10] k (fun kq v8 v9 v10 w' => ∃ (x8_1 : List Int) (x9_1 : Int) (x10_1 : Int), v9 = .int .i64 x9_1 ∧ v10 = .int .i64 x10_1 ∧ Aside0 (jacquardref36_Issues.l0 kq l1 l2 x8_1 x9_1 x10_1 a0_0 l0_1 l0_2 l0_3 l0_4 l0_5 = some (r1, r2)) ∧ Aside0 (kq ≤ k) ∧ Aside0 (Kd.R (Kd.int .i64) 3 w' w.heap.size (fun _ => True) v8 x8_1) ∧ Aside0 (w'.heap[gb214]? = some (.cells #[.string a0_0, (.slice A0_1 l0_1.length c0_1), (.slice A0_2 l0_2.length c0_2), (.slice A0_3 l0_3.length c0_3), (.slice A0_4 l0_4.length c0_4), (.slice A0_5 l0_5.length c0_5)] 27 (0, 0))) ∧ Aside0 (Below w.heap.size w w'))
 case atStart => exact ⟨(([] : List Int)), (1), (0), (by first | rfl | (simp; done) | (simp [*]; done)), (by first | rfl | (simp; done) | (simp [*]; done)), H', ⟨Nat.le_refl _⟩, ⟨by first | exact Kd.R_nil _ _ _ _ _ | exact Kd.N_nil _ _ _ _ _ | exact Kd.V_nil _ _ _ _ _ | exact Kd.Q_nil _ _ _ _ _ | exact Kd.S_nil _ _ _ _ _⟩, ⟨K_ BK214⟩, ⟨bl_⟩⟩
 clear H'
 (try clear c1); (try clear c2); (try clear p2)
 obtain ⟨x8_1, x9_1, x10_1, rfl, rfl, HA, HK1, HO_8, BK214, HB⟩ := hrel
 cases gk with
 | zero => exact absurd HA.out (by simp [jacquardref36_Issues.l0])
 | succ k1 => ?_
 have H := HA.out
 clear HA
 simp only [jacquardref36_Issues.l0] at H
 by_cases c5 : x10_1 < (l2.length : Int)
 · rw [if_pos c5] at H
   have c5b0 : decide (x10_1 < (l2.length : Int)) = true := decide_eq_true c5
   clear c5
   by_cases c6 : 0 ≤ x10_1
   · rw [if_pos c6] at H
     have c6b0 : decide (0 ≤ x10_1) = true := decide_eq_true c6
     clear c6
     by_cases c7 : x8_1.length < 17592186044416
     · rw [if_pos c7] at H
       have LMc7 := Aside0.mk c7
       clear c7
       obtain ⟨y216, hy216⟩ : ∃ y_ : List Int, y_ = (x8_1 ++ [x9_1]) := ⟨_, rfl⟩
       replace H : (if (wrap64 (x10_1 + 1)) < (l2.length : Int) then (if 0 ≤ (wrap64 (x10_1 + 1)) then (if (rd l2 (wrap64 (x10_1 + 1))) = (rd l2 x10_1) then ((jacquardref36_Self.f k1 a0_0 l0_1 l0_2 l0_3 l0_4 l0_5 l1 (rd l2 x10_1)).bind fun t220 => (if t220 ≥ 0 then (if 0 ≤ (rd l2 x10_1) then (if (rd l2 x10_1) < (l1.length : Int) then (jacquardref36_Issues.l0 k1 l1 l2 y216 (wrap64 (x9_1 + ((rd_T49 l1 (rd l2 x10_1)).f0))) (wrap64 (x10_1 + 1)) a0_0 l0_1 l0_2 l0_3 l0_4 l0_5) else (none)) else (none)) else (if 0 ≤ (rd l2 x10_1) then (if (rd l2 x10_1) < (l1.length : Int) then (jacquardref36_Issues.l0 k1 l1 l2 y216 (wrap64 (x9_1 + ((rd_T49 l1 (rd l2 x10_1)).f1))) (wrap64 (x10_1 + 1)) a0_0 l0_1 l0_2 l0_3 l0_4 l0_5) else (none)) else (none)))) else (if 0 ≤ (rd l2 x10_1) then (if (rd l2 x10_1) < (l1.length : Int) then (jacquardref36_Issues.l0 k1 l1 l2 y216 (wrap64 (x9_1 + ((rd_T49 l1 (rd l2 x10_1)).f1))) (wrap64 (x10_1 + 1)) a0_0 l0_1 l0_2 l0_3 l0_4 l0_5) else (none)) else (none))) else (none)) else (if 0 ≤ (rd l2 x10_1) then (if (rd l2 x10_1) < (l1.length : Int) then (jacquardref36_Issues.l0 k1 l1 l2 y216 (wrap64 (x9_1 + ((rd_T49 l1 (rd l2 x10_1)).f1))) (wrap64 (x10_1 + 1)) a0_0 l0_1 l0_2 l0_3 l0_4 l0_5) else (none)) else (none))) = some (r1, r2) := by first | (rw [hy216]; with_reducible exact H) | (have H2_ := (Option.bind_some _ _).symm.trans H; rw [hy216]; with_reducible exact H2_) | (have H2_ := (Option.bind_some _ _).symm.trans H; with_reducible exact H2_) | with_reducible exact H | (rw [hy216]; exact H) | exact H
       have Ny216 := Aside0.mk hy216
       clear hy216
       by_cases c8 : (wrap64 (x10_1 + 1)) < (l2.length : Int)
       · rw [if_pos c8] at H
         have c8b0 : decide ((wrap64 (x10_1 + 1)) < (l2.length : Int)) = true := decide_eq_true c8
         clear c8
         obtain ⟨ji9, hji9⟩ : ∃ j_ : Int, (wrap64 (x10_1 + 1)) = j_ := ⟨_, rfl⟩
         replace H : (if 0 ≤ (ji9) then (if (rd l2 (ji9)) = (rd l2 x10_1) then ((jacquardref36_Self.f k1 a0_0 l0_1 l0_2 l0_3 l0_4 l0_5 l1 (rd l2 x10_1)).bind fun t220 => (if t220 ≥ 0 then (if 0 ≤ (rd l2 x10_1) then (if (rd l2 x10_1) < (l1.length : Int) then (jacquardref36_Issues.l0 k1 l1 l2 y216 (wrap64 (x9_1 + ((rd_T49 l1 (rd l2 x10_1)).f0))) ji9 a0_0 l0_1 l0_2 l0_3 l0_4 l0_5) else (none)) else (none)) else (if 0 ≤ (rd l2 x10_1) then (if (rd l2 x10_1) < (l1.length : Int) then (jacquardref36_Issues.l0 k1 l1 l2 y216 (wrap64 (x9_1 + ((rd_T49 l1 (rd l2 x10_1)).f1))) ji9 a0_0 l0_1 l0_2 l0_3 l0_4 l0_5) else (none)) else (none)))) else (if 0 ≤ (rd l2 x10_1) then (if (rd l2 x10_1) < (l1.length : Int) then (jacquardref36_Issues.l0 k1 l1 l2 y216 (wrap64 (x9_1 + ((rd_T49 l1 (rd l2 x10_1)).f1))) ji9 a0_0 l0_1 l0_2 l0_3 l0_4 l0_5) else (none)) else (none))) else (none)) = some (r1, r2) := by first | (rw [hji9] at H; exact H) | (simp only [hji9] at H ⊢; exact H)
         (try rw [hji9] at c8b0)
         have hji9w : (IntKind.i64.wrap (x10_1 + 1)) = ji9 := (i64_w _).trans hji9
         by_cases c10 : 0 ≤ (ji9)
         · rw [if_pos c10] at H
           have c10b0 : decide (0 ≤ (ji9)) = true := decide_eq_true c10
           clear c10
           by_cases c11 : (rd l2 (ji9)) = (rd l2 x10_1)
           · rw [if_pos c11] at H
             have c11b0 : ((rd l2 (ji9)) == (rd l2 x10_1)) = true := beq_iff_eq.mpr c11
             have c11b1 : ((rd l2 (ji9)) != (rd l2 x10_1)) = false := bne_eq_false_iff_eq.mpr c11
             clear c11
             replace H := Option.bind_eq_some_iff.mp H
             obtain ⟨t220, A120, H⟩ := H
             replace H : (if t220 ≥ 0 then (if 0 ≤ (rd l2 x10_1) then (if (rd l2 x10_1) < (l1.length : Int) then (jacquardref36_Issues.l0 k1 l1 l2 y216 (wrap64 (x9_1 + ((rd_T49 l1 (rd l2 x10_1)).f0))) ji9 a0_0 l0_1 l0_2 l0_3 l0_4 l0_5) else (none)) else (none)) else (if 0 ≤ (rd l2 x10_1) then (if (rd l2 x10_1) < (l1.length : Int) then (jacquardref36_Issues.l0 k1 l1 l2 y216 (wrap64 (x9_1 + ((rd_T49 l1 (rd l2 x10_1)).f1))) ji9 a0_0 l0_1 l0_2 l0_3 l0_4 l0_5) else (none)) else (none))) = some (r1, r2) := H
             have A12 := Aside0.mk A120
             clear A120
             by_cases c13 : t220 ≥ 0
             · rw [if_pos c13] at H
               have c13b0 : decide (0 ≤ t220) = true := decide_eq_true c13
               clear c13
               by_cases c14 : 0 ≤ (rd l2 x10_1)
               · rw [if_pos c14] at H
                 have c14b0 : decide (0 ≤ (rd l2 x10_1)) = true := decide_eq_true c14
                 clear c14
                 by_cases c15 : (rd l2 x10_1) < (l1.length : Int)
                 · rw [if_pos c15] at H
                   have c15b0 : decide ((rd l2 x10_1) < (l1.length : Int)) = true := decide_eq_true c15
                   clear c15
                   have H' := Aside0.mk H
                   clear H
                   have p215 : 0 ≤ (x10_1 : Int) := of_decide_eq_true (by first | (with_reducible assumption) | assumption)
                   have q215 : x10_1 < (l2.length : Int) := of_decide_eq_true (by first | (with_reducible assumption) | assumption)
                   obtain ⟨ad215, e215, hx215_0⟩ := Kd.at_int HR2.out x10_1 p215 q215
                   cases e215
                   replace hx215_0 := hc_ HB hx215_0
                   replace p215 := eq_true p215
                   replace q215 := eq_true q215
                   go_wp2_with (first | ((with_reducible refine gate_builtin (b := .append) (xs := #[.tmp 22, .tmp 24]) rfl ?_); at_builtin; refine Kd.R_append (Kd.int .i64) (w0 := w) w.heap.size rfl (.tmp 22) (.tmp 24) 22 3 (.int .i64 0) 8 rfl Try.underlying22 info3 rfl (by decide) (by omega) u8 x8_1 x9_1 [.int .i64 x9_1] (fun _ => True) (fun _ => False) rfl rfl ?aP (fun _ hk => hk.elim) ?aF ?aO ?aB ?aS ?aL ?_; (case aP => exact rfl); (case aB => exact bl_); (case aF => exact (fun _ _ => trivial)); (case aO => exact (R_ HO_8)); (case aS => exact (below_size bl_)); (case aL => have := LMc7.out; omega); intro v217 w16 ho hb hg hat; rw [← Ny216.out] at ho; have n0_ := Aside0.mk (blk_grown (K_ BK214) hg (Kd.R_ne HO_8.out BK214.out (by decide))); have n1_ := Aside0.mk (hb); have n2_ := Aside0.mk (ho); clear BK214; clear HB; clear HO_8; have BK214 := n0_; have HB := n1_; have HO218 := n2_; clear n0_ n1_ n2_; clear ho hb hg hat; have p219 : 0 ≤ ((ji9) : Int) := of_decide_eq_true (by first | (with_reducible assumption) | assumption); have q219 : (ji9) < (l2.length : Int) := of_decide_eq_true (by first | (with_reducible assumption) | assumption); obtain ⟨ad219, e219, hx219_0⟩ := Kd.at_int HR2.out (ji9) p219 q219; obtain rfl : ad215 = ad219 := (by injection e219); replace hx219_0 := hc_ HB hx219_0; replace p219 := eq_true p219; replace q219 := eq_true q219; obtain ⟨hcz17_0, hcz17_1, hcz17_2, hcz17_3, hcz17_4, hcz17_5⟩ := cells6 BK214; obtain ⟨hfz17_0, hfz17_1, hfz17_2, hfz17_3, hfz17_4, hfz17_5⟩ := fz6 BK214) | (go_at_call 11; (with_reducible refine (jacquardref36_Self.calls k1 a0_0 _ _ l0_1 _ _ l0_2 _ _ l0_3 _ _ l0_4 _ _ l0_5 _ _ l1 (rd l2 x10_1) t220 _ ?side1 ?side2 ?side3 ?side4 ?side5 ?side6 ?side7 ?side8 ?side9 ?side10 ?side11 ?side12 A12.out).mono ?_); (case side1 => exact CB_ HR0_1); (case side2 => exact HC0_1.out); (case side3 => exact CB_ HR0_2); (case side4 => exact HC0_2.out); (case side5 => exact CB_ HR0_3); (case side6 => exact HC0_3.out); (case side7 => exact CB_ HR0_4); (case side8 => exact HC0_4.out); (case side9 => exact CB_ HR0_5); (case side10 => exact HC0_5.out); (case side11 => exact CB_ HR1); (case side12 => exact HC1.out); rintro e w18 ⟨rfl, hb⟩; have n0_ := Aside0.mk (Kd.R_below (R_ HO218) hb); have n1_ := Aside0.mk (blk_below (K_ BK214) hb); have n2_ := Aside0.mk (below_step bl_ hb); clear HO218; clear BK214; clear HB; have HO218 := n0_; have BK214 := n1_; have HB := n2_; clear n0_ n1_ n2_; (try clear hb); (try clear hb2); (try clear hk); (try clear hi); have p221 : 0 ≤ ((rd l2 x10_1) : Int) := of_decide_eq_true (by first | (with_reducible assumption) | assumption); have q221 : (rd l2 x10_1) < (l1.length : Int) := of_decide_eq_true (by first | (with_reducible assumption) | assumption); obtain ⟨ad221, A221_2, c221_2, A221_3, c221_3, A221_4, c221_4, e221, hx221_0, hx221_1, hx221_2, hx221_3, hx221_4, hl221_2, hi221_2, hl221_3, hi221_3, hl221_4, hi221_4⟩ := at_T49 HR1.out (rd l2 x10_1) p221 q221; cases e221; replace hx221_0 := hc_ HB hx221_0; replace hx221_1 := hc_ HB hx221_1; replace hx221_2 := hc_ HB hx221_2; replace hx221_3 := hc_ HB hx221_3; replace hx221_4 := hc_ HB hx221_4; have HR221_2 := Aside0.mk hi221_2; have HC221_2 := Aside0.mk hl221_2; clear hi221_2 hl221_2; have HR221_3 := Aside0.mk hi221_3; have HC221_3 := Aside0.mk hl221_3; clear hi221_3 hl221_3; have HR221_4 := Aside0.mk hi221_4; have HC221_4 := Aside0.mk hl221_4; clear hi221_4 hl221_4; replace p221 := eq_true p221; replace q221 := eq_true q221))
                   go_roundg k1
                   case measure => have := HK1.out; omega
                   case rel => exact ⟨(y216), (wrap64 (x9_1 + ((rd_T49 l1 (rd l2 x10_1)).f0))), (ji9), (by first | rfl | (simp; done) | (simp [*]; done)), (by first | rfl | (simp; done) | (simp only [← hji9] <;> (first | rfl | simp)) | (simp [*]; done)), H', ⟨by have := HK1.out; omega⟩, ⟨R_ HO218⟩, ⟨K_ BK214⟩, ⟨bl_⟩⟩
                 rw [if_neg c15] at H
                 exact absurd H (by simp)
               rw [if_neg c14] at H
               exact absurd H (by simp)
             rw [if_neg c13] at H
             have c13b0 : decide (0 ≤ t220) = false := decide_eq_false c13
             clear c13
             by_cases c19 : 0 ≤ (rd l2 x10_1)
             · rw [if_pos c19] at H
               have c19b0 : decide (0 ≤ (rd l2 x10_1)) = true := decide_eq_true c19
               clear c19
               by_cases c20 : (rd l2 x10_1) < (l1.length : Int)
               · rw [if_pos c20] at H
                 have c20b0 : decide ((rd l2 x10_1) < (l1.length : Int)) = true := decide_eq_true c20
                 clear c20
                 have H' := Aside0.mk H
                 clear H
                 have p215 : 0 ≤ (x10_1 : Int) := of_decide_eq_true (by first | (with_reducible assumption) | assumption)
                 have q215 : x10_1 < (l2.length : Int) := of_decide_eq_true (by first | (with_reducible assumption) | assumption)
                 obtain ⟨ad215, e215, hx215_0⟩ := Kd.at_int HR2.out x10_1 p215 q215
                 cases e215
                 replace hx215_0 := hc_ HB hx215_0
                 replace p215 := eq_true p215
                 replace q215 := eq_true q215
                 go_wp2_with (first | ((with_reducible refine gate_builtin (b := .append) (xs := #[.tmp 22, .tmp 24]) rfl ?_); at_builtin; refine Kd.R_append (Kd.int .i64) (w0 := w) w.heap.size rfl (.tmp 22) (.tmp 24) 22 3 (.int .i64 0) 8 rfl Try.underlying22 info3 rfl (by decide) (by omega) u8 x8_1 x9_1 [.int .i64 x9_1] (fun _ => True) (fun _ => False) rfl rfl ?aP (fun _ hk => hk.elim) ?aF ?aO ?aB ?aS ?aL ?_; (case aP => exact rfl); (case aB => exact bl_); (case aF => exact (fun _ _ => trivial)); (case aO => exact (R_ HO_8)); (case aS => exact (below_size bl_)); (case aL => have := LMc7.out; omega); intro v217 w21 ho hb hg hat; rw [← Ny216.out] at ho; have n0_ := Aside0.mk (blk_grown (K_ BK214) hg (Kd.R_ne HO_8.out BK214.out (by decide))); have n1_ := Aside0.mk (hb); have n2_ := Aside0.mk (ho); clear BK214; clear HB; clear HO_8; have BK214 := n0_; have HB := n1_; have HO218 := n2_; clear n0_ n1_ n2_; clear ho hb hg hat; have p219 : 0 ≤ ((ji9) : Int) := of_decide_eq_true (by first | (with_reducible assumption) | assumption); have q219 : (ji9) < (l2.length : Int) := of_decide_eq_true (by first | (with_reducible assumption) | assumption); obtain ⟨ad219, e219, hx219_0⟩ := Kd.at_int HR2.out (ji9) p219 q219; obtain rfl : ad215 = ad219 := (by injection e219); replace hx219_0 := hc_ HB hx219_0; replace p219 := eq_true p219; replace q219 := eq_true q219; obtain ⟨hcz22_0, hcz22_1, hcz22_2, hcz22_3, hcz22_4, hcz22_5⟩ := cells6 BK214; obtain ⟨hfz22_0, hfz22_1, hfz22_2, hfz22_3, hfz22_4, hfz22_5⟩ := fz6 BK214) | (go_at_call 11; (with_reducible refine (jacquardref36_Self.calls k1 a0_0 _ _ l0_1 _ _ l0_2 _ _ l0_3 _ _ l0_4 _ _ l0_5 _ _ l1 (rd l2 x10_1) t220 _ ?side1 ?side2 ?side3 ?side4 ?side5 ?side6 ?side7 ?side8 ?side9 ?side10 ?side11 ?side12 A12.out).mono ?_); (case side1 => exact CB_ HR0_1); (case side2 => exact HC0_1.out); (case side3 => exact CB_ HR0_2); (case side4 => exact HC0_2.out); (case side5 => exact CB_ HR0_3); (case side6 => exact HC0_3.out); (case side7 => exact CB_ HR0_4); (case side8 => exact HC0_4.out); (case side9 => exact CB_ HR0_5); (case side10 => exact HC0_5.out); (case side11 => exact CB_ HR1); (case side12 => exact HC1.out); rintro e w23 ⟨rfl, hb⟩; have n0_ := Aside0.mk (Kd.R_below (R_ HO218) hb); have n1_ := Aside0.mk (blk_below (K_ BK214) hb); have n2_ := Aside0.mk (below_step bl_ hb); clear HO218; clear BK214; clear HB; have HO218 := n0_; have BK214 := n1_; have HB := n2_; clear n0_ n1_ n2_; (try clear hb); (try clear hb2); (try clear hk); (try clear hi); have p222 : 0 ≤ ((rd l2 x10_1) : Int) := of_decide_eq_true (by first | (with_reducible assumption) | assumption); have q222 : (rd l2 x10_1) < (l1.length : Int) := of_decide_eq_true (by first | (with_reducible assumption) | assumption); obtain ⟨ad222, A222_2, c222_2, A222_3, c222_3, A222_4, c222_4, e222, hx222_0, hx222_1, hx222_2, hx222_3, hx222_4, hl222_2, hi222_2, hl222_3, hi222_3, hl222_4, hi222_4⟩ := at_T49 HR1.out (rd l2 x10_1) p222 q222; cases e222; replace hx222_0 := hc_ HB hx222_0; replace hx222_1 := hc_ HB hx222_1; replace hx222_2 := hc_ HB hx222_2; replace hx222_3 := hc_ HB hx222_3; replace hx222_4 := hc_ HB hx222_4; have HR222_2 := Aside0.mk hi222_2; have HC222_2 := Aside0.mk hl222_2; clear hi222_2 hl222_2; have HR222_3 := Aside0.mk hi222_3; have HC222_3 := Aside0.mk hl222_3; clear hi222_3 hl222_3; have HR222_4 := Aside0.mk hi222_4; have HC222_4 := Aside0.mk hl222_4; clear hi222_4 hl222_4; replace p222 := eq_true p222; replace q222 := eq_true q222))
                 go_roundg k1
                 case measure => have := HK1.out; omega
                 case rel => exact ⟨(y216), (wrap64 (x9_1 + ((rd_T49 l1 (rd l2 x10_1)).f1))), (ji9), (by first | rfl | (simp; done) | (simp [*]; done)), (by first | rfl | (simp; done) | (simp only [← hji9] <;> (first | rfl | simp)) | (simp [*]; done)), H', ⟨by have := HK1.out; omega⟩, ⟨R_ HO218⟩, ⟨K_ BK214⟩, ⟨bl_⟩⟩
               rw [if_neg c20] at H
               exact absurd H (by simp)
             rw [if_neg c19] at H
             exact absurd H (by simp)
           rw [if_neg c11] at H
           have c11b0 : ((rd l2 (ji9)) == (rd l2 x10_1)) = false := beq_eq_false_iff_ne.mpr c11
           have c11b1 : ((rd l2 (ji9)) != (rd l2 x10_1)) = true := bne_iff_ne.mpr c11
           by_cases c24 : 0 ≤ (rd l2 x10_1)
           · rw [if_pos c24] at H
             have c24b0 : decide (0 ≤ (rd l2 x10_1)) = true := decide_eq_true c24
             clear c24
             by_cases c25 : (rd l2 x10_1) < (l1.length : Int)
             · rw [if_pos c25] at H
               have c25b0 : decide ((rd l2 x10_1) < (l1.length : Int)) = true := decide_eq_true c25
               clear c25
               have H' := Aside0.mk H
               clear H
               have p215 : 0 ≤ (x10_1 : Int) := of_decide_eq_true (by first | (with_reducible assumption) | assumption)
               have q215 : x10_1 < (l2.length : Int) := of_decide_eq_true (by first | (with_reducible assumption) | assumption)
               obtain ⟨ad215, e215, hx215_0⟩ := Kd.at_int HR2.out x10_1 p215 q215
               cases e215
               replace hx215_0 := hc_ HB hx215_0
               replace p215 := eq_true p215
               replace q215 := eq_true q215
               go_wp2_with (first | ((with_reducible refine gate_builtin (b := .append) (xs := #[.tmp 22, .tmp 24]) rfl ?_); at_builtin; refine Kd.R_append (Kd.int .i64) (w0 := w) w.heap.size rfl (.tmp 22) (.tmp 24) 22 3 (.int .i64 0) 8 rfl Try.underlying22 info3 rfl (by decide) (by omega) u8 x8_1 x9_1 [.int .i64 x9_1] (fun _ => True) (fun _ => False) rfl rfl ?aP (fun _ hk => hk.elim) ?aF ?aO ?aB ?aS ?aL ?_; (case aP => exact rfl); (case aB => exact bl_); (case aF => exact (fun _ _ => trivial)); (case aO => exact (R_ HO_8)); (case aS => exact (below_size bl_)); (case aL => have := LMc7.out; omega); intro v217 w26 ho hb hg hat; rw [← Ny216.out] at ho; have n0_ := Aside0.mk (blk_grown (K_ BK214) hg (Kd.R_ne HO_8.out BK214.out (by decide))); have n1_ := Aside0.mk (hb); have n2_ := Aside0.mk (ho); clear BK214; clear HB; clear HO_8; have BK214 := n0_; have HB := n1_; have HO218 := n2_; clear n0_ n1_ n2_; clear ho hb hg hat; have p219 : 0 ≤ ((ji9) : Int) := of_decide_eq_true (by first | (with_reducible assumption) | assumption); have q219 : (ji9) < (l2.length : Int) := of_decide_eq_true (by first | (with_reducible assumption) | assumption); obtain ⟨ad219, e219, hx219_0⟩ := Kd.at_int HR2.out (ji9) p219 q219; obtain rfl : ad215 = ad219 := (by injection e219); replace hx219_0 := hc_ HB hx219_0; replace p219 := eq_true p219; replace q219 := eq_true q219; have p223 : 0 ≤ ((rd l2 x10_1) : Int) := of_decide_eq_true (by first | (with_reducible assumption) | assumption); have q223 : (rd l2 x10_1) < (l1.length : Int) := of_decide_eq_true (by first | (with_reducible assumption) | assumption); obtain ⟨ad223, A223_2, c223_2, A223_3, c223_3, A223_4, c223_4, e223, hx223_0, hx223_1, hx223_2, hx223_3, hx223_4, hl223_2, hi223_2, hl223_3, hi223_3, hl223_4, hi223_4⟩ := at_T49 HR1.out (rd l2 x10_1) p223 q223; cases e223; replace hx223_0 := hc_ HB hx223_0; replace hx223_1 := hc_ HB hx223_1; replace hx223_2 := hc_ HB hx223_2; replace hx223_3 := hc_ HB hx223_3; replace hx223_4 := hc_ HB hx223_4; have HR223_2 := Aside0.mk hi223_2; have HC223_2 := Aside0.mk hl223_2; clear hi223_2 hl223_2; have HR223_3 := Aside0.mk hi223_3; have HC223_3 := Aside0.mk hl223_3; clear hi223_3 hl223_3; have HR223_4 := Aside0.mk hi223_4; have HC223_4 := Aside0.mk hl223_4; clear hi223_4 hl223_4; replace p223 := eq_true p223; replace q223 := eq_true q223))
               go_roundg k1
               case measure => have := HK1.out; omega
               case rel => exact ⟨(y216), (wrap64 (x9_1 + ((rd_T49 l1 (rd l2 x10_1)).f1))), (ji9), (by first | rfl | (simp; done) | (simp [*]; done)), (by first | rfl | (simp; done) | (simp only [← hji9] <;> (first | rfl | simp)) | (simp [*]; done)), H', ⟨by have := HK1.out; omega⟩, ⟨R_ HO218⟩, ⟨K_ BK214⟩, ⟨bl_⟩⟩
             rw [if_neg c25] at H
             exact absurd H (by simp)
           rw [if_neg c24] at H
           exact absurd H (by simp)
         rw [if_neg c10] at H
         exact absurd H (by simp)
       rw [if_neg c8] at H
       have c8b0 : decide ((wrap64 (x10_1 + 1)) < (l2.length : Int)) = false := decide_eq_false c8
       clear c8
       by_cases c27 : 0 ≤ (rd l2 x10_1)
       · rw [if_pos c27] at H
         have c27b0 : decide (0 ≤ (rd l2 x10_1)) = true := decide_eq_true c27
         clear c27
         by_cases c28 : (rd l2 x10_1) < (l1.length : Int)
         · rw [if_pos c28] at H
           have c28b0 : decide ((rd l2 x10_1) < (l1.length : Int)) = true := decide_eq_true c28
           clear c28
           have H' := Aside0.mk H
           clear H
           have p215 : 0 ≤ (x10_1 : Int) := of_decide_eq_true (by first | (with_reducible assumption) | assumption)
           have q215 : x10_1 < (l2.length : Int) := of_decide_eq_true (by first | (with_reducible assumption) | assumption)
           obtain ⟨ad215, e215, hx215_0⟩ := Kd.at_int HR2.out x10_1 p215 q215
           cases e215
           replace hx215_0 := hc_ HB hx215_0
           replace p215 := eq_true p215
           replace q215 := eq_true q215
           go_wp2_with (first | ((with_reducible refine gate_builtin (b := .append) (xs := #[.tmp 22, .tmp 24]) rfl ?_); at_builtin; refine Kd.R_append (Kd.int .i64) (w0 := w) w.heap.size rfl (.tmp 22) (.tmp 24) 22 3 (.int .i64 0) 8 rfl Try.underlying22 info3 rfl (by decide) (by omega) u8 x8_1 x9_1 [.int .i64 x9_1] (fun _ => True) (fun _ => False) rfl rfl ?aP (fun _ hk => hk.elim) ?aF ?aO ?aB ?aS ?aL ?_; (case aP => exact rfl); (case aB => exact bl_); (case aF => exact (fun _ _ => trivial)); (case aO => exact (R_ HO_8)); (case aS => exact (below_size bl_)); (case aL => have := LMc7.out; omega); intro v217 w29 ho hb hg hat; rw [← Ny216.out] at ho; have n0_ := Aside0.mk (blk_grown (K_ BK214) hg (Kd.R_ne HO_8.out BK214.out (by decide))); have n1_ := Aside0.mk (hb); have n2_ := Aside0.mk (ho); clear BK214; clear HB; clear HO_8; have BK214 := n0_; have HB := n1_; have HO218 := n2_; clear n0_ n1_ n2_; clear ho hb hg hat; have p224 : 0 ≤ ((rd l2 x10_1) : Int) := of_decide_eq_true (by first | (with_reducible assumption) | assumption); have q224 : (rd l2 x10_1) < (l1.length : Int) := of_decide_eq_true (by first | (with_reducible assumption) | assumption); obtain ⟨ad224, A224_2, c224_2, A224_3, c224_3, A224_4, c224_4, e224, hx224_0, hx224_1, hx224_2, hx224_3, hx224_4, hl224_2, hi224_2, hl224_3, hi224_3, hl224_4, hi224_4⟩ := at_T49 HR1.out (rd l2 x10_1) p224 q224; cases e224; replace hx224_0 := hc_ HB hx224_0; replace hx224_1 := hc_ HB hx224_1; replace hx224_2 := hc_ HB hx224_2; replace hx224_3 := hc_ HB hx224_3; replace hx224_4 := hc_ HB hx224_4; have HR224_2 := Aside0.mk hi224_2; have HC224_2 := Aside0.mk hl224_2; clear hi224_2 hl224_2; have HR224_3 := Aside0.mk hi224_3; have HC224_3 := Aside0.mk hl224_3; clear hi224_3 hl224_3; have HR224_4 := Aside0.mk hi224_4; have HC224_4 := Aside0.mk hl224_4; clear hi224_4 hl224_4; replace p224 := eq_true p224; replace q224 := eq_true q224))
           go_roundg k1
           case measure => have := HK1.out; omega
           case rel => exact ⟨(y216), (wrap64 (x9_1 + ((rd_T49 l1 (rd l2 x10_1)).f1))), (wrap64 (x10_1 + 1)), (by first | rfl | (simp; done) | (simp [*]; done)), (by first | rfl | (simp; done) | (simp [*]; done)), H', ⟨by have := HK1.out; omega⟩, ⟨R_ HO218⟩, ⟨K_ BK214⟩, ⟨bl_⟩⟩
         rw [if_neg c28] at H
         exact absurd H (by simp)
       rw [if_neg c27] at H
       exact absurd H (by simp)
     rw [if_neg c7] at H
     exact absurd H (by simp)
   rw [if_neg c6] at H
   exact absurd H (by simp)
 rw [if_neg c5] at H
 have c5b0 : decide (x10_1 < (l2.length : Int)) = false := decide_eq_false c5
 clear c5
 simp only [Option.some.injEq, Prod.mk.injEq] at H
 obtain ⟨rfl, rfl⟩ := H
 go_wp2
 go_ret2
 exact ⟨_, by first | rfl | (simp [errW_none, errW_some] <;> rfl) | (simp [*, errW_none, errW_some] <;> rfl), by (with_reducible repeat (first | apply Kd.R_alloc | apply Kd.R_drewN | apply Kd.R_drew)); exact HO_8.out, by repeat (first | (with_reducible first | exact HB.out | apply below_alloc | apply pw_below_drewN | apply below_drew1 | refine below_set ?_ GE214.out) | exact HB.out)⟩
end Go.Proofs.Ytmefaegcoogmiaa.PAll
