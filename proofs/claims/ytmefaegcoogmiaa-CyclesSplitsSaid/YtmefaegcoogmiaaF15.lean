-- Written for this claim by programs of this session (wip/print2 in its repo: a changed printer, a shortener, a packer). Lean checks it.
import Derived.Test.YtmefaegcoogmiaaP0
namespace Go.Proofs.Ytmefaegcoogmiaa.PAll
open Go.RowKit Go.Proofs.YtmefaegcoogmiaaW.PrintWords Go.Proofs.YtmefaegcoogmiaaW.PrintLast Go.Proofs.YtmefaegcoogmiaaW.PrintMore
attribute [local go_sem] max2_int min2_int max_two min_two max_three min_three max_four min_four   -- for this text's walks alone
set_option linter.unusedVariables false
set_option linter.unusedSimpArgs false

/-! ### jacquardref36_Walk: function 15 -/
def jacquardref36_Walk.l0 : Nat → List Int → List Int → Int → ByteArray → List Int → List (S75) → List (S77) → List Int → List (S66) → Option (List Int)
  | 0, _, _, _, _, _, _, _, _, _ => none
  | k + 1, x1, x5, x6, x204000, x204001, x204002, x204003, x204004, x204005 => if x6 < (x1.length : Int) then (if 0 ≤ (wrap64 ((x5.length : Int) - 1)) then (if (wrap64 ((x5.length : Int) - 1)) < (x5.length : Int) then (if 0 ≤ (rd x5 (wrap64 ((x5.length : Int) - 1))) then (if (rd x5 (wrap64 ((x5.length : Int) - 1))) < (x204005.length : Int) then (if (((rd_T66 x204005 (rd x5 (wrap64 ((x5.length : Int) - 1)))).f2.f2).length : Int) = 0 then (some x5) else (if 0 ≤ x6 then (if 0 ≤ (wrap64 ((wrap64 (Int.tmod (rd x1 x6) 2)) * (wrap64 ((((rd_T66 x204005 (rd x5 (wrap64 ((x5.length : Int) - 1)))).f2.f2).length : Int) - 1)))) then (if (wrap64 ((wrap64 (Int.tmod (rd x1 x6) 2)) * (wrap64 ((((rd_T66 x204005 (rd x5 (wrap64 ((x5.length : Int) - 1)))).f2.f2).length : Int) - 1)))) < (((rd_T66 x204005 (rd x5 (wrap64 ((x5.length : Int) - 1)))).f2.f2).length : Int) then (if x5.length < 17592186044416 then (jacquardref36_Walk.l0 k x1 (x5 ++ [(rd_T71 ((rd_T66 x204005 (rd x5 (wrap64 ((x5.length : Int) - 1)))).f2.f2) (wrap64 ((wrap64 (Int.tmod (rd x1 x6) 2)) * (wrap64 ((((rd_T66 x204005 (rd x5 (wrap64 ((x5.length : Int) - 1)))).f2.f2).length : Int) - 1))))).f0]) (wrap64 (x6 + 1)) x204000 x204001 x204002 x204003 x204004 x204005) else (none)) else (none)) else (none)) else (none))) else (none)) else (none)) else (none)) else (none)) else (some x5)
def jacquardref36_Walk.f (k : Nat) (a0_0 : ByteArray) (l0_1 : List Int) (l0_2 : List (S75)) (l0_3 : List (S77)) (l0_4 : List Int) (l0_5 : List (S66)) (l1 : List Int) : Option (List Int) := jacquardref36_Walk.l0 k l1 (([0] : List Int)) 0 a0_0 l0_1 l0_2 l0_3 l0_4 l0_5
theorem jacquardref36_Walk.mono_l : ∀ k, (∀ y0 y1 y2 y3 y4 y5 y6 y7 y8, LeO (jacquardref36_Walk.l0 k y0 y1 y2 y3 y4 y5 y6 y7 y8) (jacquardref36_Walk.l0 (k + 1) y0 y1 y2 y3 y4 y5 y6 y7 y8))
  | 0 => fun _ _ _ _ _ _ _ _ _ r h => by simp [jacquardref36_Walk.l0] at h
  | k + 1 => by
    have ih0 := jacquardref36_Walk.mono_l k
    · intro y0 y1 y2 y3 y4 y5 y6 y7 y8
      unfold jacquardref36_Walk.l0
      repeat' first
      | (with_reducible exact ih0 _ _ _ _ _ _ _ _ _)
      | (with_reducible exact LeO.refl _)
      | (with_reducible exact LeO.none _)
      | (with_reducible refine LeO.ite ?_ ?_)
      | (with_reducible refine LeO.bind ?_ (fun _ => ?_))
      | exact ih0 _ _ _ _ _ _ _ _ _
      | exact LeO.none _
      | refine LeO.ite ?_ ?_
      | refine LeO.bind ?_ (fun _ => ?_)
theorem jacquardref36_Walk.mono : ∀ a0 a1 a2 a3 a4 a5 a6 k, LeO (jacquardref36_Walk.f k a0 a1 a2 a3 a4 a5 a6) (jacquardref36_Walk.f (k + 1) a0 a1 a2 a3 a4 a5 a6) := by
 intro a0 a1 a2 a3 a4 a5 a6 k
 have ih0 := jacquardref36_Walk.mono_l k
 unfold jacquardref36_Walk.f
 repeat' first
     | (with_reducible exact ih0 _ _ _ _ _ _ _ _ _)
     | (with_reducible exact LeO.refl _)
     | (with_reducible exact LeO.none _)
     | (with_reducible refine LeO.ite ?_ ?_)
     | (with_reducible refine LeO.bind ?_ (fun _ => ?_))
     | exact ih0 _ _ _ _ _ _ _ _ _
     | exact LeO.none _
     | refine LeO.ite ?_ ?_
     | refine LeO.bind ?_ (fun _ => ?_)
set_option maxHeartbeats 8000000 in
set_option maxRecDepth 100000 in
theorem jacquardref36_Walk.calls (k : Nat) (a0_0 : ByteArray) (A0_1 : Option Addr) (c0_1 : Nat) (l0_1 : List Int) (A0_2 : Option Addr) (c0_2 : Nat) (l0_2 : List (S75)) (A0_3 : Option Addr) (c0_3 : Nat) (l0_3 : List (S77)) (A0_4 : Option Addr) (c0_4 : Nat) (l0_4 : List Int) (A0_5 : Option Addr) (c0_5 : Nat) (l0_5 : List (S66)) (A1 : Option Addr) (c1 : Nat) (l1 : List Int) (r : List Int) (w : World) (hr0_1 : Kd.C (Kd.int .i64) w A0_1 l0_1.length l0_1) (hc0_1 : l0_1.length ≤ c0_1) (hr0_2 : Kd.C k75 w A0_2 l0_2.length l0_2) (hc0_2 : l0_2.length ≤ c0_2) (hr0_3 : Kd.C k77 w A0_3 l0_3.length l0_3) (hc0_3 : l0_3.length ≤ c0_3) (hr0_4 : Kd.C (Kd.int .i64) w A0_4 l0_4.length l0_4) (hc0_4 : l0_4.length ≤ c0_4) (hr0_5 : Kd.C k66 w A0_5 l0_5.length l0_5) (hc0_5 : l0_5.length ≤ c0_5) (hr1 : Kd.C (Kd.int .u8) w A1 l1.length l1) (hc1 : l1.length ≤ c1) (h : jacquardref36_Walk.f k a0_0 l0_1 l0_2 l0_3 l0_4 l0_5 l1 = some r) :
    Calls Try.prog 15 #[.agg #[.string a0_0, .slice A0_1 l0_1.length c0_1, .slice A0_2 l0_2.length c0_2, .slice A0_3 l0_3.length c0_3, .slice A0_4 l0_4.length c0_4, .slice A0_5 l0_5.length c0_5], .slice A1 l1.length c1] w fun e w' => ∃ v0_ : Value, e = .returned (v0_) ∧ Kd.R (Kd.int .i64) 3 w' w.heap.size (fun _ => True) v0_ r ∧ Below w.heap.size w w' := by
 have hu27 := Try.underlying27
 have HR0_1 := Aside0.mk hr0_1
 have HC0_1 := Aside0.mk hc0_1
 clear hr0_1 hc0_1
 have HR0_2 := Aside0.mk hr0_2
 have HC0_2 := Aside0.mk hc0_2
 clear hr0_2 hc0_2
 have HR0_3 := Aside0.mk hr0_3
 have HC0_3 := Aside0.mk hc0_3
 clear hr0_3 hc0_3
 have HR0_4 := Aside0.mk hr0_4
 have HC0_4 := Aside0.mk hc0_4
 clear hr0_4 hc0_4
 have HR0_5 := Aside0.mk hr0_5
 have HC0_5 := Aside0.mk hc0_5
 clear hr0_5 hc0_5
 have HR1 := Aside0.mk hr1
 have HC1 := Aside0.mk hc1
 clear hr1 hc1
 have HB := Aside0.mk (Below.refl w.heap.size w)
 have H : (jacquardref36_Walk.l0 k l1 (([0] : List Int)) 0 a0_0 l0_1 l0_2 l0_3 l0_4 l0_5) = some r := h
 clear h
 obtain ⟨y204, hy204⟩ : ∃ y_ : List Int, y_ = (([0] : List Int)) := ⟨_, rfl⟩
 replace H : (jacquardref36_Walk.l0 k l1 y204 0 a0_0 l0_1 l0_2 l0_3 l0_4 l0_5) = some r := by first | (rw [hy204]; with_reducible exact H) | (have H2_ := (Option.bind_some _ _).symm.trans H; rw [hy204]; with_reducible exact H2_) | (have H2_ := (Option.bind_some _ _).symm.trans H; with_reducible exact H2_) | with_reducible exact H | (rw [hy204]; exact H) | exact H
 have Ny204 := Aside0.mk hy204
 clear hy204
 have H' := Aside0.mk H
 clear H
 go_enter Try.func15, Try.ntmps15
 go_wp2_with (first | ((with_reducible refine gate_dst (N := 2) rfl ?_); refine box_event ?hg (N := 2) ?hd (cs := #[.string a0_0, .slice A0_1 l0_1.length c0_1, .slice A0_2 l0_2.length c0_2, .slice A0_3 l0_3.length c0_3, .slice A0_4 l0_4.length c0_4, .slice A0_5 l0_5.length c0_5]) (t := 27) ?hr ?_; (case hd => rfl); (case hg => rfl); (case hr => first | (go_simp; done) | (go_simp; rfl)); intro gb203 hg w3 hbox hb; have n0_ := Aside0.mk (below_step bl_ hb); have n1_ := Aside0.mk (hbox); have n2_ := Aside0.mk (gl_ (w := w) hg); have n3_ := Aside0.mk (gl_ (w := w) hg); clear HB; have HB := n0_; have BK203 := n1_; have GW203 := n2_; have GE203 := n3_; clear n0_ n1_ n2_ n3_; clear hb hbox hg) | ((with_reducible refine gate_dst (N := 8) rfl ?_); refine Kd.R_lit (Kd.int .i64) _ 3 ?hg (N := 8) ?hd (xs := ([0] : List Int)) (inner := [.int .i64 0]) (ok := fun _ => True) (okp := fun _ => True) ?hr ?hp (fun _ hk => hk) trivial (Below.refl _ _) (Nat.le_refl _) (by simp) ?_; (case hd => rfl); (case hg => rfl); (case hr => first | (go_simp; done) | (go_simp; rfl)); (case hp => exact (Reps.one (show Kd.M (Kd.int .i64) _ _ _ 0 [.int .i64 0] from rfl) (Reps.none _ _))); intro v205 w4 ho5 hb hg_ hnew_; clear hg_ hnew_; (first | rw [← Ny204.out] at ho5 | (simp only [Int.reduceToNat] at ho5; rw [← Ny204.out] at ho5)); have n0_ := Aside0.mk (Kd.R_lower ho5 (below_size bl_)); have n1_ := Aside0.mk (blk_below (K_ BK203) hb); have n2_ := Aside0.mk (below_step bl_ hb); clear BK203; clear HB; have HO206 := n0_; have BK203 := n1_; have HB := n2_; clear n0_ n1_ n2_; clear hb ho5))
 repeat (go_quiet (first | ((with_reducible refine gate_dst (N := 2) rfl ?_); refine box_event ?hg (N := 2) ?hd (cs := #[.string a0_0, .slice A0_1 l0_1.length c0_1, .slice A0_2 l0_2.length c0_2, .slice A0_3 l0_3.length c0_3, .slice A0_4 l0_4.length c0_4, .slice A0_5 l0_5.length c0_5]) (t := 27) ?hr ?_; (case hd => rfl); (case hg => rfl); (case hr => first | (go_simp; done) | (go_simp; rfl)); intro gb203 hg w3 hbox hb; have n0_ := Aside0.mk (below_step bl_ hb); have n1_ := Aside0.mk (hbox); have n2_ := Aside0.mk (gl_ (w := w) hg); have n3_ := Aside0.mk (gl_ (w := w) hg); clear HB; have HB := n0_; have BK203 := n1_; have GW203 := n2_; have GE203 := n3_; clear n0_ n1_ n2_ n3_; clear hb hbox hg) | ((with_reducible refine gate_dst (N := 8) rfl ?_); refine Kd.R_lit (Kd.int .i64) _ 3 ?hg (N := 8) ?hd (xs := ([0] : List Int)) (inner := [.int .i64 0]) (ok := fun _ => True) (okp := fun _ => True) ?hr ?hp (fun _ hk => hk) trivial (Below.refl _ _) (Nat.le_refl _) (by simp) ?_; (case hd => rfl); (case hg => rfl); (case hr => first | (go_simp; done) | (go_simp; rfl)); (case hp => exact (Reps.one (show Kd.M (Kd.int .i64) _ _ _ 0 [.int .i64 0] from rfl) (Reps.none _ _))); intro v205 w4 ho5 hb hg_ hnew_; clear hg_ hnew_; (first | rw [← Ny204.out] at ho5 | (simp only [Int.reduceToNat] at ho5; rw [← Ny204.out] at ho5)); have n0_ := Aside0.mk (Kd.R_lower ho5 (below_size bl_)); have n1_ := Aside0.mk (blk_below (K_ BK203) hb); have n2_ := Aside0.mk (below_step bl_ hb); clear BK203; clear HB; have HO206 := n0_; have BK203 := n1_; have HB := n2_; clear n0_ n1_ n2_; clear hb ho5)); try go_wp2_with (first | ((with_reducible refine gate_dst (N := 2) rfl ?_); refine box_event ?hg (N := 2) ?hd (cs := #[.string a0_0, .slice A0_1 l0_1.length c0_1, .slice A0_2 l0_2.length c0_2, .slice A0_3 l0_3.length c0_3, .slice A0_4 l0_4.length c0_4, .slice A0_5 l0_5.length c0_5]) (t := 27) ?hr ?_; (case hd => rfl); (case hg => rfl); (case hr => first | (go_simp; done) | (go_simp; rfl)); intro gb203 hg w3 hbox hb; have n0_ := Aside0.mk (below_step bl_ hb); have n1_ := Aside0.mk (hbox); have n2_ := Aside0.mk (gl_ (w := w) hg); have n3_ := Aside0.mk (gl_ (w := w) hg); clear HB; have HB := n0_; have BK203 := n1_; have GW203 := n2_; have GE203 := n3_; clear n0_ n1_ n2_ n3_; clear hb hbox hg) | ((with_reducible refine gate_dst (N := 8) rfl ?_); refine Kd.R_lit (Kd.int .i64) _ 3 ?hg (N := 8) ?hd (xs := ([0] : List Int)) (inner := [.int .i64 0]) (ok := fun _ => True) (okp := fun _ => True) ?hr ?hp (fun _ hk => hk) trivial (Below.refl _ _) (Nat.le_refl _) (by simp) ?_; (case hd => rfl); (case hg => rfl); (case hr => first | (go_simp; done) | (go_simp; rfl)); (case hp => exact (Reps.one (show Kd.M (Kd.int .i64) _ _ _ 0 [.int .i64 0] from rfl) (Reps.none _ _))); intro v205 w4 ho5 hb hg_ hnew_; clear hg_ hnew_; (first | rw [← Ny204.out] at ho5 | (simp only [Int.reduceToNat] at ho5; rw [← Ny204.out] at ho5)); have n0_ := Aside0.mk (Kd.R_lower ho5 (below_size bl_)); have n1_ := Aside0.mk (blk_below (K_ BK203) hb); have n2_ := Aside0.mk (below_step bl_ hb); clear BK203; clear HB; have HO206 := n0_; have BK203 := n1_; have HB := n2_; clear n0_ n1_ n2_; clear hb ho5)))
 go_loopg [5, 6] k (fun kq v5 v6 w' => ∃ (x5_1 : List Int) (x6_1 : Int), v6 = .int .i64 x6_1 ∧ Aside0 (jacquardref36_Walk.l0 kq l1 x5_1 x6_1 a0_0 l0_1 l0_2 l0_3 l0_4 l0_5 = some r) ∧ Aside0 (kq ≤ k) ∧ Aside0 (Kd.R (Kd.int .i64) 3 w' w.heap.size (fun _ => True) v5 x5_1) ∧ Aside0 (w'.heap[gb203]? = some (.cells #[.string a0_0, (.slice A0_1 l0_1.length c0_1), (.slice A0_2 l0_2.length c0_2), (.slice A0_3 l0_3.length c0_3), (.slice A0_4 l0_4.length c0_4), (.slice A0_5 l0_5.length c0_5)] 27 (0, 0))) ∧ Aside0 (Below w.heap.size w w'))
 case atStart => exact ⟨(y204), (0), (by first | rfl | (simp; done) | (simp [*]; done)), H', ⟨Nat.le_refl _⟩, ⟨R_ HO206⟩, ⟨K_ BK203⟩, ⟨bl_⟩⟩
 clear H'
 (try clear c1); (try clear p2)
 obtain ⟨x5_1, x6_1, rfl, HA, HK1, HO_5, BK203, HB⟩ := hrel
 cases gk with
 | zero => exact absurd HA.out (by simp [jacquardref36_Walk.l0])
 | succ k1 => ?_
 have H := HA.out
 clear HA
 simp only [jacquardref36_Walk.l0] at H
 by_cases c6 : x6_1 < (l1.length : Int)
 · rw [if_pos c6] at H
   have c6b0 : decide (x6_1 < (l1.length : Int)) = true := decide_eq_true c6
   clear c6
   obtain ⟨ji7, hji7⟩ : ∃ j_ : Int, (wrap64 ((x5_1.length : Int) - 1)) = j_ := ⟨_, rfl⟩
   replace H : (if 0 ≤ (ji7) then (if (ji7) < (x5_1.length : Int) then (if 0 ≤ (rd x5_1 (ji7)) then (if (rd x5_1 (ji7)) < (l0_5.length : Int) then (if (((rd_T66 l0_5 (rd x5_1 (ji7))).f2.f2).length : Int) = 0 then (some x5_1) else (if 0 ≤ x6_1 then (if 0 ≤ (wrap64 ((wrap64 (Int.tmod (rd l1 x6_1) 2)) * (wrap64 ((((rd_T66 l0_5 (rd x5_1 (ji7))).f2.f2).length : Int) - 1)))) then (if (wrap64 ((wrap64 (Int.tmod (rd l1 x6_1) 2)) * (wrap64 ((((rd_T66 l0_5 (rd x5_1 (ji7))).f2.f2).length : Int) - 1)))) < (((rd_T66 l0_5 (rd x5_1 (ji7))).f2.f2).length : Int) then (if x5_1.length < 17592186044416 then (jacquardref36_Walk.l0 k1 l1 (x5_1 ++ [(rd_T71 ((rd_T66 l0_5 (rd x5_1 (ji7))).f2.f2) (wrap64 ((wrap64 (Int.tmod (rd l1 x6_1) 2)) * (wrap64 ((((rd_T66 l0_5 (rd x5_1 (ji7))).f2.f2).length : Int) - 1))))).f0]) (wrap64 (x6_1 + 1)) a0_0 l0_1 l0_2 l0_3 l0_4 l0_5) else (none)) else (none)) else (none)) else (none))) else (none)) else (none)) else (none)) else (none)) = some r := by first | (rw [hji7] at H; exact H) | (simp only [hji7] at H ⊢; exact H)
   have hji7w : (IntKind.i64.wrap ((x5_1.length : Int) - 1)) = ji7 := (i64_w _).trans hji7
   by_cases c8 : 0 ≤ (ji7)
   · rw [if_pos c8] at H
     have c8b0 : decide (0 ≤ (ji7)) = true := decide_eq_true c8
     clear c8
     by_cases c9 : (ji7) < (x5_1.length : Int)
     · rw [if_pos c9] at H
       have c9b0 : decide ((ji7) < (x5_1.length : Int)) = true := decide_eq_true c9
       clear c9
       by_cases c10 : 0 ≤ (rd x5_1 (ji7))
       · rw [if_pos c10] at H
         have c10b0 : decide (0 ≤ (rd x5_1 (ji7))) = true := decide_eq_true c10
         clear c10
         by_cases c11 : (rd x5_1 (ji7)) < (l0_5.length : Int)
         · rw [if_pos c11] at H
           have c11b0 : decide ((rd x5_1 (ji7)) < (l0_5.length : Int)) = true := decide_eq_true c11
           clear c11
           by_cases c12 : (((rd_T66 l0_5 (rd x5_1 (ji7))).f2.f2).length : Int) = 0
           · rw [if_pos c12] at H
             have c12b0 : ((((rd_T66 l0_5 (rd x5_1 (ji7))).f2.f2).length : Int) == 0) = true := beq_iff_eq.mpr c12
             have c12b1 : ((((rd_T66 l0_5 (rd x5_1 (ji7))).f2.f2).length : Int) != 0) = false := bne_eq_false_iff_eq.mpr c12
             clear c12
             obtain rfl := Option.some.inj H
             obtain ⟨hcz13_0, hcz13_1, hcz13_2, hcz13_3, hcz13_4, hcz13_5⟩ := cells6 BK203
             obtain ⟨hfz13_0, hfz13_1, hfz13_2, hfz13_3, hfz13_4, hfz13_5⟩ := fz6 BK203
             obtain ⟨Ao14, co14, eo14⟩ := Kd.R_slice HO_5.out
             subst eo14
             have p207 : 0 ≤ ((ji7) : Int) := of_decide_eq_true (by first | (with_reducible assumption) | assumption)
             have q207 : (ji7) < (x5_1.length : Int) := of_decide_eq_true (by first | (with_reducible assumption) | assumption)
             obtain ⟨ad207, e207, hx207_0⟩ := Kd.at_int (Kd.R_reads' HO_5.out).2.2 (ji7) p207 q207
             cases e207
             replace p207 := eq_true p207
             replace q207 := eq_true q207
             have p208 : 0 ≤ ((rd x5_1 (ji7)) : Int) := of_decide_eq_true (by first | (with_reducible assumption) | assumption)
             have q208 : (rd x5_1 (ji7)) < (l0_5.length : Int) := of_decide_eq_true (by first | (with_reducible assumption) | assumption)
             obtain ⟨ad208, A208_0, c208_0, A208_1, c208_1, A208_4, c208_4, A208_5, c208_5, e208, hx208_0, hx208_1, hx208_2, hx208_3, hx208_4, hx208_5, hx208_6, hx208_7, hx208_8, hl208_0, hi208_0, hl208_1, hi208_1, hl208_4, hi208_4, hl208_5, hi208_5⟩ := at_T66 HR0_5.out (rd x5_1 (ji7)) p208 q208
             cases e208
             replace hx208_0 := hc_ HB hx208_0
             replace hx208_1 := hc_ HB hx208_1
             replace hx208_2 := hc_ HB hx208_2
             replace hx208_3 := hc_ HB hx208_3
             replace hx208_4 := hc_ HB hx208_4
             replace hx208_5 := hc_ HB hx208_5
             replace hx208_6 := hc_ HB hx208_6
             replace hx208_7 := hc_ HB hx208_7
             replace hx208_8 := hc_ HB hx208_8
             have HR208_0 := Aside0.mk hi208_0
             have HC208_0 := Aside0.mk hl208_0
             clear hi208_0 hl208_0
             have HR208_1 := Aside0.mk hi208_1
             have HC208_1 := Aside0.mk hl208_1
             clear hi208_1 hl208_1
             have HR208_4 := Aside0.mk hi208_4
             have HC208_4 := Aside0.mk hl208_4
             clear hi208_4 hl208_4
             have HR208_5 := Aside0.mk hi208_5
             have HC208_5 := Aside0.mk hl208_5
             clear hi208_5 hl208_5
             replace p208 := eq_true p208
             replace q208 := eq_true q208
             go_wp2
             repeat (go_quiet (fail); try go_wp2)
             go_ret
             exact ⟨_, by first | rfl | (simp [errW_none, errW_some] <;> rfl) | (simp only [← hji7]; first | rfl | (simp [errW_none, errW_some] <;> rfl)) | (simp [*, errW_none, errW_some] <;> rfl), by (with_reducible repeat (first | apply Kd.R_alloc | apply Kd.R_drewN | apply Kd.R_drew)); exact HO_5.out, by repeat (first | (with_reducible first | exact HB.out | apply below_alloc | apply pw_below_drewN | apply below_drew1 | refine below_set ?_ GE203.out) | exact HB.out)⟩
           rw [if_neg c12] at H
           have c12b0 : ((((rd_T66 l0_5 (rd x5_1 (ji7))).f2.f2).length : Int) == 0) = false := beq_eq_false_iff_ne.mpr c12
           have c12b1 : ((((rd_T66 l0_5 (rd x5_1 (ji7))).f2.f2).length : Int) != 0) = true := bne_iff_ne.mpr c12
           have c12b2 : ¬ (((rd_T66 l0_5 (rd x5_1 (ji7))).f2.f2) = []) := fun h_ => c12 (by rw [h_]; rfl)
           by_cases c15 : 0 ≤ x6_1
           · rw [if_pos c15] at H
             have c15b0 : decide (0 ≤ x6_1) = true := decide_eq_true c15
             clear c15
             obtain ⟨ji16, hji16⟩ : ∃ j_ : Int, (wrap64 ((wrap64 (Int.tmod (rd l1 x6_1) 2)) * (wrap64 ((((rd_T66 l0_5 (rd x5_1 (ji7))).f2.f2).length : Int) - 1)))) = j_ := ⟨_, rfl⟩
             replace H : (if 0 ≤ (ji16) then (if (ji16) < (((rd_T66 l0_5 (rd x5_1 (ji7))).f2.f2).length : Int) then (if x5_1.length < 17592186044416 then (jacquardref36_Walk.l0 k1 l1 (x5_1 ++ [(rd_T71 ((rd_T66 l0_5 (rd x5_1 (ji7))).f2.f2) (ji16)).f0]) (wrap64 (x6_1 + 1)) a0_0 l0_1 l0_2 l0_3 l0_4 l0_5) else (none)) else (none)) else (none)) = some r := by first | (rw [hji16] at H; exact H) | (simp only [hji16] at H ⊢; exact H)
             have hji16w : (IntKind.i64.wrap ((wrap64 (Int.tmod (rd l1 x6_1) 2)) * (wrap64 ((((rd_T66 l0_5 (rd x5_1 (ji7))).f2.f2).length : Int) - 1)))) = ji16 := (i64_w _).trans hji16
             by_cases c17 : 0 ≤ (ji16)
             · rw [if_pos c17] at H
               have c17b0 : decide (0 ≤ (ji16)) = true := decide_eq_true c17
               clear c17
               by_cases c18 : (ji16) < (((rd_T66 l0_5 (rd x5_1 (ji7))).f2.f2).length : Int)
               · rw [if_pos c18] at H
                 have c18b0 : decide ((ji16) < (((rd_T66 l0_5 (rd x5_1 (ji7))).f2.f2).length : Int)) = true := decide_eq_true c18
                 clear c18
                 by_cases c19 : x5_1.length < 17592186044416
                 · rw [if_pos c19] at H
                   have LMc19 := Aside0.mk c19
                   clear c19
                   obtain ⟨y211, hy211⟩ : ∃ y_ : List Int, y_ = (x5_1 ++ [(rd_T71 ((rd_T66 l0_5 (rd x5_1 (ji7))).f2.f2) (ji16)).f0]) := ⟨_, rfl⟩
                   replace H : (jacquardref36_Walk.l0 k1 l1 y211 (wrap64 (x6_1 + 1)) a0_0 l0_1 l0_2 l0_3 l0_4 l0_5) = some r := by first | (rw [hy211]; with_reducible exact H) | (have H2_ := (Option.bind_some _ _).symm.trans H; rw [hy211]; with_reducible exact H2_) | (have H2_ := (Option.bind_some _ _).symm.trans H; with_reducible exact H2_) | with_reducible exact H | (rw [hy211]; exact H) | exact H
                   have Ny211 := Aside0.mk hy211
                   clear hy211
                   have H' := Aside0.mk H
                   clear H
                   obtain ⟨hcz20_0, hcz20_1, hcz20_2, hcz20_3, hcz20_4, hcz20_5⟩ := cells6 BK203
                   obtain ⟨hfz20_0, hfz20_1, hfz20_2, hfz20_3, hfz20_4, hfz20_5⟩ := fz6 BK203
                   obtain ⟨Ao21, co21, eo21⟩ := Kd.R_slice HO_5.out
                   subst eo21
                   have p207 : 0 ≤ ((ji7) : Int) := of_decide_eq_true (by first | (with_reducible assumption) | assumption)
                   have q207 : (ji7) < (x5_1.length : Int) := of_decide_eq_true (by first | (with_reducible assumption) | assumption)
                   obtain ⟨ad207, e207, hx207_0⟩ := Kd.at_int (Kd.R_reads' HO_5.out).2.2 (ji7) p207 q207
                   cases e207
                   replace p207 := eq_true p207
                   replace q207 := eq_true q207
                   have p208 : 0 ≤ ((rd x5_1 (ji7)) : Int) := of_decide_eq_true (by first | (with_reducible assumption) | assumption)
                   have q208 : (rd x5_1 (ji7)) < (l0_5.length : Int) := of_decide_eq_true (by first | (with_reducible assumption) | assumption)
                   obtain ⟨ad208, A208_0, c208_0, A208_1, c208_1, A208_4, c208_4, A208_5, c208_5, e208, hx208_0, hx208_1, hx208_2, hx208_3, hx208_4, hx208_5, hx208_6, hx208_7, hx208_8, hl208_0, hi208_0, hl208_1, hi208_1, hl208_4, hi208_4, hl208_5, hi208_5⟩ := at_T66 HR0_5.out (rd x5_1 (ji7)) p208 q208
                   cases e208
                   replace hx208_0 := hc_ HB hx208_0
                   replace hx208_1 := hc_ HB hx208_1
                   replace hx208_2 := hc_ HB hx208_2
                   replace hx208_3 := hc_ HB hx208_3
                   replace hx208_4 := hc_ HB hx208_4
                   replace hx208_5 := hc_ HB hx208_5
                   replace hx208_6 := hc_ HB hx208_6
                   replace hx208_7 := hc_ HB hx208_7
                   replace hx208_8 := hc_ HB hx208_8
                   have HR208_0 := Aside0.mk hi208_0
                   have HC208_0 := Aside0.mk hl208_0
                   clear hi208_0 hl208_0
                   have HR208_1 := Aside0.mk hi208_1
                   have HC208_1 := Aside0.mk hl208_1
                   clear hi208_1 hl208_1
                   have HR208_4 := Aside0.mk hi208_4
                   have HC208_4 := Aside0.mk hl208_4
                   clear hi208_4 hl208_4
                   have HR208_5 := Aside0.mk hi208_5
                   have HC208_5 := Aside0.mk hl208_5
                   clear hi208_5 hl208_5
                   replace p208 := eq_true p208
                   replace q208 := eq_true q208
                   have p209 : 0 ≤ (x6_1 : Int) := of_decide_eq_true (by first | (with_reducible assumption) | assumption)
                   have q209 : x6_1 < (l1.length : Int) := of_decide_eq_true (by first | (with_reducible assumption) | assumption)
                   obtain ⟨ad209, e209, hx209_0⟩ := Kd.at_int HR1.out x6_1 p209 q209
                   cases e209
                   replace hx209_0 := hc_ HB hx209_0
                   replace p209 := eq_true p209
                   replace q209 := eq_true q209
                   have p210 : 0 ≤ ((ji16) : Int) := of_decide_eq_true (by first | (with_reducible assumption) | assumption)
                   have q210 : (ji16) < (((rd_T66 l0_5 (rd x5_1 (ji7))).f2.f2).length : Int) := of_decide_eq_true (by first | (with_reducible assumption) | assumption)
                   obtain ⟨ad210, A210_1, c210_1, e210, hx210_0, hx210_1, hl210_1, hi210_1⟩ := at_T71 HR208_4.out (ji16) p210 q210
                   cases e210
                   replace hx210_0 := hc_ HB hx210_0
                   replace hx210_1 := hc_ HB hx210_1
                   have HR210_1 := Aside0.mk hi210_1
                   have HC210_1 := Aside0.mk hl210_1
                   clear hi210_1 hl210_1
                   replace p210 := eq_true p210
                   replace q210 := eq_true q210
                   go_wp2_with (first | ((with_reducible refine gate_builtin (b := .append) (xs := #[.tmp 30, .tmp 45]) rfl ?_); at_builtin; refine Kd.R_append (Kd.int .i64) (w0 := w) w.heap.size rfl (.tmp 30) (.tmp 45) 22 3 (.int .i64 0) 8 rfl Try.underlying22 info3 rfl (by decide) (by omega) (.slice (some ad207) x5_1.length co21) x5_1 ((rd_T71 ((rd_T66 l0_5 (rd x5_1 (ji7))).f2.f2) (ji16)).f0) [.int .i64 ((rd_T71 ((rd_T66 l0_5 (rd x5_1 (ji7))).f2.f2) (ji16)).f0)] (fun _ => True) (fun _ => False) rfl rfl ?aP (fun _ hk => hk.elim) ?aF ?aO ?aB ?aS ?aL ?_; (case aP => exact rfl); (case aB => exact bl_); (case aF => exact (fun _ _ => trivial)); (case aO => exact (R_ HO_5)); (case aS => exact (below_size bl_)); (case aL => have := LMc19.out; omega); intro v212 w22 ho hb hg hat; rw [← Ny211.out] at ho; have n0_ := Aside0.mk (blk_grown (K_ BK203) hg (Kd.R_ne HO_5.out BK203.out (by decide))); have n1_ := Aside0.mk (hb); have n2_ := Aside0.mk (ho); clear BK203; clear HB; clear HO_5; have BK203 := n0_; have HB := n1_; have HO213 := n2_; clear n0_ n1_ n2_; clear ho hb hg hat))
                   repeat (go_quiet (first | ((with_reducible refine gate_builtin (b := .append) (xs := #[.tmp 30, .tmp 45]) rfl ?_); at_builtin; refine Kd.R_append (Kd.int .i64) (w0 := w) w.heap.size rfl (.tmp 30) (.tmp 45) 22 3 (.int .i64 0) 8 rfl Try.underlying22 info3 rfl (by decide) (by omega) (.slice (some ad207) x5_1.length co21) x5_1 ((rd_T71 ((rd_T66 l0_5 (rd x5_1 (ji7))).f2.f2) (ji16)).f0) [.int .i64 ((rd_T71 ((rd_T66 l0_5 (rd x5_1 (ji7))).f2.f2) (ji16)).f0)] (fun _ => True) (fun _ => False) rfl rfl ?aP (fun _ hk => hk.elim) ?aF ?aO ?aB ?aS ?aL ?_; (case aP => exact rfl); (case aB => exact bl_); (case aF => exact (fun _ _ => trivial)); (case aO => exact (R_ HO_5)); (case aS => exact (below_size bl_)); (case aL => have := LMc19.out; omega); intro v212 w22 ho hb hg hat; rw [← Ny211.out] at ho; have n0_ := Aside0.mk (blk_grown (K_ BK203) hg (Kd.R_ne HO_5.out BK203.out (by decide))); have n1_ := Aside0.mk (hb); have n2_ := Aside0.mk (ho); clear BK203; clear HB; clear HO_5; have BK203 := n0_; have HB := n1_; have HO213 := n2_; clear n0_ n1_ n2_; clear ho hb hg hat)); try go_wp2_with (first | ((with_reducible refine gate_builtin (b := .append) (xs := #[.tmp 30, .tmp 45]) rfl ?_); at_builtin; refine Kd.R_append (Kd.int .i64) (w0 := w) w.heap.size rfl (.tmp 30) (.tmp 45) 22 3 (.int .i64 0) 8 rfl Try.underlying22 info3 rfl (by decide) (by omega) (.slice (some ad207) x5_1.length co21) x5_1 ((rd_T71 ((rd_T66 l0_5 (rd x5_1 (ji7))).f2.f2) (ji16)).f0) [.int .i64 ((rd_T71 ((rd_T66 l0_5 (rd x5_1 (ji7))).f2.f2) (ji16)).f0)] (fun _ => True) (fun _ => False) rfl rfl ?aP (fun _ hk => hk.elim) ?aF ?aO ?aB ?aS ?aL ?_; (case aP => exact rfl); (case aB => exact bl_); (case aF => exact (fun _ _ => trivial)); (case aO => exact (R_ HO_5)); (case aS => exact (below_size bl_)); (case aL => have := LMc19.out; omega); intro v212 w22 ho hb hg hat; rw [← Ny211.out] at ho; have n0_ := Aside0.mk (blk_grown (K_ BK203) hg (Kd.R_ne HO_5.out BK203.out (by decide))); have n1_ := Aside0.mk (hb); have n2_ := Aside0.mk (ho); clear BK203; clear HB; clear HO_5; have BK203 := n0_; have HB := n1_; have HO213 := n2_; clear n0_ n1_ n2_; clear ho hb hg hat)))
                   go_roundg k1
                   case measure => have := HK1.out; omega
                   case rel => exact ⟨(y211), (wrap64 (x6_1 + 1)), (by first | rfl | (simp; done) | (simp [*]; done)), H', ⟨by have := HK1.out; omega⟩, ⟨R_ HO213⟩, ⟨K_ BK203⟩, ⟨bl_⟩⟩
                 rw [if_neg c19] at H
                 exact absurd H (by simp)
               rw [if_neg c18] at H
               exact absurd H (by simp)
             rw [if_neg c17] at H
             exact absurd H (by simp)
           rw [if_neg c15] at H
           exact absurd H (by simp)
         rw [if_neg c11] at H
         exact absurd H (by simp)
       rw [if_neg c10] at H
       exact absurd H (by simp)
     rw [if_neg c9] at H
     exact absurd H (by simp)
   rw [if_neg c8] at H
   exact absurd H (by simp)
 rw [if_neg c6] at H
 have c6b0 : decide (x6_1 < (l1.length : Int)) = false := decide_eq_false c6
 clear c6
 obtain rfl := Option.some.inj H
 go_wp2
 repeat (go_quiet (fail); try go_wp2)
 go_ret
 exact ⟨_, by first | rfl | (simp [errW_none, errW_some] <;> rfl) | (simp [*, errW_none, errW_some] <;> rfl), by (with_reducible repeat (first | apply Kd.R_alloc | apply Kd.R_drewN | apply Kd.R_drew)); exact HO_5.out, by repeat (first | (with_reducible first | exact HB.out | apply below_alloc | apply pw_below_drewN | apply below_drew1 | refine below_set ?_ GE203.out) | exact HB.out)⟩
end Go.Proofs.Ytmefaegcoogmiaa.PAll
