-- Written for this claim by programs of this session (wip/print2 in its repo: a changed printer, a shortener, a packer). Lean checks it.
import Derived.Test.YtpmlbbglekaidaaP0
import Derived.Test.YtpmlbbglekaidaaF30
import Derived.Test.YtpmlbbglekaidaaF39
namespace Go.Proofs.Ytpmlbbglekaidaa.PAll
open Go.RowKit Go.Proofs.YtpmlbbglekaidaaW.PrintWords Go.Proofs.YtpmlbbglekaidaaW.PrintLast Go.Proofs.YtpmlbbglekaidaaW.PrintMore
attribute [local go_sem] max2_int min2_int max_two min_two max_three min_three max_four min_four   -- for this text's walks alone
set_option linter.unusedVariables false
set_option linter.unusedSimpArgs false

/-! ### jacquardref28_Late: function 25 -/
def jacquardref28_Late.l0 : Nat → List Int → Int → Int → Int → Int → Bool → List (S48) → List (S50) → List (S52) → Int → Int → List Int → List Int → List Int → Option (List Int)
  | 0, _, _, _, _, _, _, _, _, _, _, _, _, _, _ => none
  | k + 1, x5, x10, x11, x330000, x330001, x330002, x330003, x330004, x330005, x331000, x331001, x331002, x331003, x331004 => if x11 < x10 then (if 0 ≤ x11 then (if x11 < (x330003.length : Int) then ((jacquardref28_Time.f x330000 x330001 x330002 x330003 x330004 x330005 x331000 x331001 x331002 x331003 x331004 ((rd_T48 x330003 x11).f1)).bind fun t333 => ((jacquardref28_Time.f x330000 x330001 x330002 x330003 x330004 x330005 x331000 x331001 x331002 x331003 x331004 ((rd_T48 x330003 x11).f0)).bind fun t334 => ((jacquardref28_Weight.f ((rd_T48 x330003 x11).f0) ((rd_T48 x330003 x11).f1) ((rd_T48 x330003 x11).f2) ((rd_T48 x330003 x11).f3) x331000).bind fun t335 => (if (wrap64 (t333 - t334)) < t335 then (if x5.length < 17592186044416 then (jacquardref28_Late.l0 k (x5 ++ [x11]) x10 (wrap64 (x11 + 1)) x330000 x330001 x330002 x330003 x330004 x330005 x331000 x331001 x331002 x331003 x331004) else (none)) else (jacquardref28_Late.l0 k x5 x10 (wrap64 (x11 + 1)) x330000 x330001 x330002 x330003 x330004 x330005 x331000 x331001 x331002 x331003 x331004))))) else (none)) else (none)) else (some x5)
def jacquardref28_Late.f (k : Nat) (a0_0 : Int) (a0_1 : Int) (a0_2 : Bool) (l0_3 : List (S48)) (l0_4 : List (S50)) (l0_5 : List (S52)) (a1_0 : Int) (a1_1 : Int) (l1_2 : List Int) (l1_3 : List Int) (l1_4 : List Int) : Option (List Int) := jacquardref28_Late.l0 k ([] : List Int) (l0_3.length : Int) 0 a0_0 a0_1 a0_2 l0_3 l0_4 l0_5 a1_0 a1_1 l1_2 l1_3 l1_4
theorem jacquardref28_Late.mono_l : ∀ k, (∀ y0 y1 y2 y3 y4 y5 y6 y7 y8 y9 y10 y11 y12 y13, LeO (jacquardref28_Late.l0 k y0 y1 y2 y3 y4 y5 y6 y7 y8 y9 y10 y11 y12 y13) (jacquardref28_Late.l0 (k + 1) y0 y1 y2 y3 y4 y5 y6 y7 y8 y9 y10 y11 y12 y13))
  | 0 => fun _ _ _ _ _ _ _ _ _ _ _ _ _ _ r h => by simp [jacquardref28_Late.l0] at h
  | k + 1 => by
    have ih0 := jacquardref28_Late.mono_l k
    intros
    unfold jacquardref28_Late.l0
    repeat' first | (with_reducible first | apply ih0 | exact LeO.refl _ | exact LeO.none _ | refine LeO.ite ?_ ?_ | refine LeO.bind ?_ (fun _ => ?_)) | apply ih0 | exact LeO.none _ | refine LeO.ite ?_ ?_ | refine LeO.bind ?_ (fun _ => ?_)
theorem jacquardref28_Late.mono : ∀ a0 a1 a2 a3 a4 a5 a6 a7 a8 a9 a10 k, LeO (jacquardref28_Late.f k a0 a1 a2 a3 a4 a5 a6 a7 a8 a9 a10) (jacquardref28_Late.f (k + 1) a0 a1 a2 a3 a4 a5 a6 a7 a8 a9 a10) := by
 intro a0 a1 a2 a3 a4 a5 a6 a7 a8 a9 a10 k
 have ih0 := jacquardref28_Late.mono_l k
 unfold jacquardref28_Late.f
 repeat' first | (with_reducible first | apply ih0 | exact LeO.refl _ | exact LeO.none _ | refine LeO.ite ?_ ?_ | refine LeO.bind ?_ (fun _ => ?_)) | apply ih0 | exact LeO.none _ | refine LeO.ite ?_ ?_ | refine LeO.bind ?_ (fun _ => ?_)
def jacquardref28_Late.T6 : Bool × List (List Nat × List Nat) := (true, [([], []), ([], []), ([], []), ([2], [2]), ([0, 1, 3], [0, 1, 3]), ([], []), ([], []), ([], []), ([7], [7]), ([5, 6, 8, 4], [5, 6, 8]), ([4, 9], [4, 9]), ([], []), ([], []), ([12], [12]), ([11, 13, 9], [11, 13]), ([10, 14], [10, 14])])
def jacquardref28_Late.B6 : List Nat := [0, 0, 0, 4, 15, 0, 0, 0, 128, 511, 1023, 0, 0, 4096, 15359, 32767]
theorem jacquardref28_Late.tab6 : rtab .any (opsOf Try.f25 6) = jacquardref28_Late.T6 := by kernel_rfl
theorem jacquardref28_Late.bits6 : waitsOk jacquardref28_Late.T6.2 jacquardref28_Late.B6 = true := by kernel_rfl
set_option maxHeartbeats 8000000 in
set_option maxRecDepth 100000 in
theorem jacquardref28_Late.calls (k : Nat) (a0_0 : Int) (a0_1 : Int) (a0_2 : Bool) (A0_3 : Option Addr) (c0_3 : Nat) (l0_3 : List (S48)) (A0_4 : Option Addr) (c0_4 : Nat) (l0_4 : List (S50)) (A0_5 : Option Addr) (c0_5 : Nat) (l0_5 : List (S52)) (a1_0 : Int) (a1_1 : Int) (A1_2 : Option Addr) (c1_2 : Nat) (l1_2 : List Int) (A1_3 : Option Addr) (c1_3 : Nat) (l1_3 : List Int) (A1_4 : Option Addr) (c1_4 : Nat) (l1_4 : List Int) (r : List Int) (w : World) (hr0_3 : Kd.C k48 w A0_3 l0_3.length l0_3) (hc0_3 : l0_3.length ≤ c0_3) (hr0_4 : Kd.C k50 w A0_4 l0_4.length l0_4) (hc0_4 : l0_4.length ≤ c0_4) (hr0_5 : Kd.C k52 w A0_5 l0_5.length l0_5) (hc0_5 : l0_5.length ≤ c0_5) (hr1_2 : Kd.C (Kd.int .i64) w A1_2 l1_2.length l1_2) (hc1_2 : l1_2.length ≤ c1_2) (hr1_3 : Kd.C (Kd.int .i64) w A1_3 l1_3.length l1_3) (hc1_3 : l1_3.length ≤ c1_3) (hr1_4 : Kd.C (Kd.int .i64) w A1_4 l1_4.length l1_4) (hc1_4 : l1_4.length ≤ c1_4) (h : jacquardref28_Late.f k a0_0 a0_1 a0_2 l0_3 l0_4 l0_5 a1_0 a1_1 l1_2 l1_3 l1_4 = some r) :
    Calls Try.prog 25 #[.agg #[.int .i64 a0_0, .int .i64 a0_1, .bool a0_2, .slice A0_3 l0_3.length c0_3, .slice A0_4 l0_4.length c0_4, .slice A0_5 l0_5.length c0_5], .agg #[.int .i64 a1_0, .int .i64 a1_1, .slice A1_2 l1_2.length c1_2, .slice A1_3 l1_3.length c1_3, .slice A1_4 l1_4.length c1_4]] w fun e w' => ∃ v0_ : Value, e = .returned (v0_) ∧ Kd.R (Kd.int .i64) 3 w' w.heap.size (fun _ => True) v0_ r ∧ Below w.heap.size w w' := by
 have hu26 := Try.underlying26
 have hu35 := Try.underlying35
 have hu48 := Try.underlying48
 have HR0_3 := Aside0.mk hr0_3
 have HC0_3 := Aside0.mk hc0_3
 clear hr0_3 hc0_3
 have HR0_4 := Aside0.mk hr0_4
 have HC0_4 := Aside0.mk hc0_4
 clear hr0_4 hc0_4
 have HR0_5 := Aside0.mk hr0_5
 have HC0_5 := Aside0.mk hc0_5
 clear hr0_5 hc0_5
 have HR1_2 := Aside0.mk hr1_2
 have HC1_2 := Aside0.mk hc1_2
 clear hr1_2 hc1_2
 have HR1_3 := Aside0.mk hr1_3
 have HC1_3 := Aside0.mk hc1_3
 clear hr1_3 hc1_3
 have HR1_4 := Aside0.mk hr1_4
 have HC1_4 := Aside0.mk hc1_4
 clear hr1_4 hc1_4
 have HB := Aside0.mk (Below.refl w.heap.size w)
 have H : (jacquardref28_Late.l0 k ([] : List Int) (l0_3.length : Int) 0 a0_0 a0_1 a0_2 l0_3 l0_4 l0_5 a1_0 a1_1 l1_2 l1_3 l1_4) = some r := h
 clear h
 have H' := Aside0.mk H
 clear H
 go_enter Try.func25, Try.ntmps25
 go_wp2_with (first | ((with_reducible refine gate_dst (N := 2) rfl ?_); refine box_event ?hg (N := 2) ?hd (cs := #[.int .i64 a0_0, .int .i64 a0_1, .bool a0_2, .slice A0_3 l0_3.length c0_3, .slice A0_4 l0_4.length c0_4, .slice A0_5 l0_5.length c0_5]) (t := 26) ?hr ?_; (case hd => rfl); (case hg => rfl); (case hr => first | (go_simp; done) | (go_simp; rfl)); intro gb329 hg w3 hbox hb; have n0_ := Aside0.mk (below_step bl_ hb); have n1_ := Aside0.mk (hbox); have n2_ := Aside0.mk (gl_ (w := w) hg); have n3_ := Aside0.mk (gl_ (w := w) hg); clear HB; have HB := n0_; have BK329 := n1_; have GW329 := n2_; have GE329 := n3_; clear n0_ n1_ n2_ n3_; clear hb hbox hg) | ((with_reducible refine gate_dst (N := 3) rfl ?_); refine box_event ?hg (N := 3) ?hd (cs := #[.int .i64 a1_0, .int .i64 a1_1, .slice A1_2 l1_2.length c1_2, .slice A1_3 l1_3.length c1_3, .slice A1_4 l1_4.length c1_4]) (t := 35) ?hr ?_; (case hd => rfl); (case hg => rfl); (case hr => first | (go_simp; done) | (go_simp; rfl)); intro gb330 hg w4 hbox hb; have n0_ := Aside0.mk (blk_below (K_ BK329) hb); have n1_ := Aside0.mk (below_step bl_ hb); have n2_ := Aside0.mk (hbox); have n3_ := Aside0.mk (gl_ (w := w) hg); have n4_ := Aside0.mk (gl_ (w := w) hg); have n5_ := Aside0.mk (nl_ hg (K_ BK329)); have n6_ := Aside0.mk (ng_ hg (K_ BK329)); clear BK329; clear HB; have BK329 := n0_; have HB := n1_; have BK330 := n2_; have GW330 := n3_; have GE330 := n4_; have NB329_330 := n5_; have NB330_329 := n6_; clear n0_ n1_ n2_ n3_ n4_ n5_ n6_; clear hb hbox hg; obtain ⟨hcz6_0, hcz6_1, hcz6_2, hcz6_3, hcz6_4, hcz6_5⟩ := cells6 BK329; obtain ⟨hfz6_0, hfz6_1, hfz6_2, hfz6_3, hfz6_4, hfz6_5⟩ := fz6 BK329))
 go_loopg [5, 11] k (fun kq v5 v11 w' => ∃ (x5_1 : List Int) (x11_1 : Int), v11 = .int .i64 x11_1 ∧ Aside0 (jacquardref28_Late.l0 kq x5_1 (l0_3.length : Int) x11_1 a0_0 a0_1 a0_2 l0_3 l0_4 l0_5 a1_0 a1_1 l1_2 l1_3 l1_4 = some r) ∧ Aside0 (kq ≤ k) ∧ Aside0 (Kd.R (Kd.int .i64) 3 w' w.heap.size (fun _ => True) v5 x5_1) ∧ Aside0 (w'.heap[gb329]? = some (.cells #[.int .i64 a0_0, .int .i64 a0_1, .bool a0_2, (.slice A0_3 l0_3.length c0_3), (.slice A0_4 l0_4.length c0_4), (.slice A0_5 l0_5.length c0_5)] 26 (0, 0))) ∧ Aside0 (w'.heap[gb330]? = some (.cells #[.int .i64 a1_0, .int .i64 a1_1, (.slice A1_2 l1_2.length c1_2), (.slice A1_3 l1_3.length c1_3), (.slice A1_4 l1_4.length c1_4)] 35 (0, 0))) ∧ Aside0 (Below w.heap.size w w'))
 case atStart => exact ⟨(([] : List Int)), (0), (by first | rfl | (simp; done) | (simp [*]; done)), H', ⟨Nat.le_refl _⟩, ⟨by first | exact Kd.R_nil _ _ _ _ _ | exact Kd.N_nil _ _ _ _ _ | exact Kd.V_nil _ _ _ _ _ | exact Kd.Q_nil _ _ _ _ _ | exact Kd.S_nil _ _ _ _ _⟩, ⟨K_ BK329⟩, ⟨K_ BK330⟩, ⟨bl_⟩⟩
 clear H'
 obtain ⟨x5_1, x11_1, rfl, HA, HK1, HO_5, BK329, BK330, HB⟩ := hrel
 cases gk with
 | zero => exact absurd HA.out (by simp [jacquardref28_Late.l0])
 | succ k1 => ?_
 have H := HA.out
 clear HA
 simp only [jacquardref28_Late.l0] at H
 by_cases c7 : x11_1 < (l0_3.length : Int)
 · rw [if_pos c7] at H
   have c7b0 : decide (x11_1 < (l0_3.length : Int)) = true := decide_eq_true c7
   clear c7
   by_cases c8 : 0 ≤ x11_1
   · rw [if_pos c8] at H
     have c8b0 : decide (0 ≤ x11_1) = true := decide_eq_true c8
     clear c8
     by_cases c9 : x11_1 < (l0_3.length : Int)
     · rw [if_pos c9] at H
       have c9b0 : decide (x11_1 < (l0_3.length : Int)) = true := decide_eq_true c9
       clear c9
       replace H := Option.bind_eq_some_iff.mp H
       obtain ⟨t333, A100, H⟩ := H
       replace H : ((jacquardref28_Time.f a0_0 a0_1 a0_2 l0_3 l0_4 l0_5 a1_0 a1_1 l1_2 l1_3 l1_4 ((rd_T48 l0_3 x11_1).f0)).bind fun t334 => ((jacquardref28_Weight.f ((rd_T48 l0_3 x11_1).f0) ((rd_T48 l0_3 x11_1).f1) ((rd_T48 l0_3 x11_1).f2) ((rd_T48 l0_3 x11_1).f3) a1_0).bind fun t335 => (if (wrap64 (t333 - t334)) < t335 then (if x5_1.length < 17592186044416 then (jacquardref28_Late.l0 k1 (x5_1 ++ [x11_1]) (l0_3.length : Int) (wrap64 (x11_1 + 1)) a0_0 a0_1 a0_2 l0_3 l0_4 l0_5 a1_0 a1_1 l1_2 l1_3 l1_4) else (none)) else (jacquardref28_Late.l0 k1 x5_1 (l0_3.length : Int) (wrap64 (x11_1 + 1)) a0_0 a0_1 a0_2 l0_3 l0_4 l0_5 a1_0 a1_1 l1_2 l1_3 l1_4)))) = some r := H
       have A10 := Aside0.mk A100
       clear A100
       replace H := Option.bind_eq_some_iff.mp H
       obtain ⟨t334, A110, H⟩ := H
       replace H : ((jacquardref28_Weight.f ((rd_T48 l0_3 x11_1).f0) ((rd_T48 l0_3 x11_1).f1) ((rd_T48 l0_3 x11_1).f2) ((rd_T48 l0_3 x11_1).f3) a1_0).bind fun t335 => (if (wrap64 (t333 - t334)) < t335 then (if x5_1.length < 17592186044416 then (jacquardref28_Late.l0 k1 (x5_1 ++ [x11_1]) (l0_3.length : Int) (wrap64 (x11_1 + 1)) a0_0 a0_1 a0_2 l0_3 l0_4 l0_5 a1_0 a1_1 l1_2 l1_3 l1_4) else (none)) else (jacquardref28_Late.l0 k1 x5_1 (l0_3.length : Int) (wrap64 (x11_1 + 1)) a0_0 a0_1 a0_2 l0_3 l0_4 l0_5 a1_0 a1_1 l1_2 l1_3 l1_4))) = some r := H
       have A11 := Aside0.mk A110
       clear A110
       replace H := Option.bind_eq_some_iff.mp H
       obtain ⟨t335, A120, H⟩ := H
       replace H : (if (wrap64 (t333 - t334)) < t335 then (if x5_1.length < 17592186044416 then (jacquardref28_Late.l0 k1 (x5_1 ++ [x11_1]) (l0_3.length : Int) (wrap64 (x11_1 + 1)) a0_0 a0_1 a0_2 l0_3 l0_4 l0_5 a1_0 a1_1 l1_2 l1_3 l1_4) else (none)) else (jacquardref28_Late.l0 k1 x5_1 (l0_3.length : Int) (wrap64 (x11_1 + 1)) a0_0 a0_1 a0_2 l0_3 l0_4 l0_5 a1_0 a1_1 l1_2 l1_3 l1_4)) = some r := H
       have A12 := Aside0.mk A120
       clear A120
       by_cases c13 : (wrap64 (t333 - t334)) < t335
       · rw [if_pos c13] at H
         have c13b0 : decide ((wrap64 (t333 - t334)) < t335) = true := decide_eq_true c13
         clear c13
         by_cases c14 : x5_1.length < 17592186044416
         · rw [if_pos c14] at H
           have LMc14 := Aside0.mk c14
           clear c14
           obtain ⟨y336, hy336⟩ : ∃ y_ : List Int, y_ = (x5_1 ++ [x11_1]) := ⟨_, rfl⟩
           replace H : (jacquardref28_Late.l0 k1 y336 (l0_3.length : Int) (wrap64 (x11_1 + 1)) a0_0 a0_1 a0_2 l0_3 l0_4 l0_5 a1_0 a1_1 l1_2 l1_3 l1_4) = some r := by first | (rw [hy336]; with_reducible exact H) | (have H2_ := (Option.bind_some _ _).symm.trans H; rw [hy336]; with_reducible exact H2_) | (have H2_ := (Option.bind_some _ _).symm.trans H; with_reducible exact H2_) | with_reducible exact H | (rw [hy336]; exact H) | exact H
           have Ny336 := Aside0.mk hy336
           clear hy336
           have H' := Aside0.mk H
           clear H
           obtain ⟨hcz16_0, hcz16_1, hcz16_2, hcz16_3, hcz16_4, hcz16_5⟩ := cells6 BK329
           obtain ⟨hfz16_0, hfz16_1, hfz16_2, hfz16_3, hfz16_4, hfz16_5⟩ := fz6 BK329
           have p331 : 0 ≤ (x11_1 : Int) := of_decide_eq_true (by first | (with_reducible assumption) | assumption)
           have q331 : x11_1 < (l0_3.length : Int) := of_decide_eq_true (by first | (with_reducible assumption) | assumption)
           obtain ⟨ad331, e331, hx331_0, hx331_1, hx331_2, hx331_3⟩ := at_T48 HR0_3.out x11_1 p331 q331
           cases e331
           replace hx331_0 := hc_ HB hx331_0
           replace hx331_1 := hc_ HB hx331_1
           replace hx331_2 := hc_ HB hx331_2
           replace hx331_3 := hc_ HB hx331_3
           replace p331 := eq_true p331
           replace q331 := eq_true q331
           try go_wp2_with (first | ((with_reducible refine gate_dst (N := 7) rfl ?_); refine box_event ?hg (N := 7) ?hd (cs := #[.int .i64 0, .int .i64 0, .int .i64 0, .int .i64 0]) (t := 48) ?hr ?_; (case hd => rfl); (case hg => rfl); (case hr => first | (go_simp; done) | (go_simp; rfl)); intro gb332 hg w17 hbox hb; have n0_ := Aside0.mk (Kd.R_below (R_ HO_5) hb); have n1_ := Aside0.mk (blk_below (K_ BK329) hb); have n2_ := Aside0.mk (blk_below (K_ BK330) hb); have n3_ := Aside0.mk (below_step bl_ hb); have n4_ := Aside0.mk (hbox); have n5_ := Aside0.mk (gl_ (w := w) hg); have n6_ := Aside0.mk (gl_ (w := w) hg); have n7_ := Aside0.mk (nl_ hg (K_ BK329)); have n8_ := Aside0.mk (ng_ hg (K_ BK329)); have n9_ := Aside0.mk (nl_ hg (K_ BK330)); have n10_ := Aside0.mk (ng_ hg (K_ BK330)); clear HO_5; clear BK329; clear BK330; clear HB; have HO_5 := n0_; have BK329 := n1_; have BK330 := n2_; have HB := n3_; have BK332 := n4_; have GW332 := n5_; have GE332 := n6_; have NB329_332 := n7_; have NB332_329 := n8_; have NB330_332 := n9_; have NB332_330 := n10_; clear n0_ n1_ n2_ n3_ n4_ n5_ n6_ n7_ n8_ n9_ n10_; clear hb hbox hg; obtain ⟨hcz20_0, hcz20_1, hcz20_2, hcz20_3⟩ := cells4 BK332; obtain ⟨hfz20_0, hfz20_1, hfz20_2, hfz20_3⟩ := fz4 BK332))
           have n0_ : Aside0 (Kd.R (Kd.int .i64) 3 ((((w17.setCell ⟨gb332, 0, none⟩ (.int .i64 ((rd_T48 l0_3 x11_1).f0))).setCell ⟨gb332, 1, none⟩ (.int .i64 ((rd_T48 l0_3 x11_1).f1))).setCell ⟨gb332, 2, none⟩ (.int .i64 ((rd_T48 l0_3 x11_1).f2))).setCell ⟨gb332, 3, none⟩ (.int .i64 ((rd_T48 l0_3 x11_1).f3))) w.heap.size (fun _ => True) u5 x5_1) := ⟨by (with_reducible repeat (first | apply Kd.R_alloc | apply Kd.R_drewN | apply Kd.R_drew)); exact Kd.R_mono (Kd.R_far (p := ⟨gb332, 3, none⟩) (Kd.R_far (p := ⟨gb332, 2, none⟩) (Kd.R_far (p := ⟨gb332, 1, none⟩) (Kd.R_far (p := ⟨gb332, 0, none⟩) (Kd.R_types HO_5.out BK332.out (by decide)) (fun _ hk => hk.2) (.int .i64 ((rd_T48 l0_3 x11_1).f0))) (fun _ hk => hk.2) (.int .i64 ((rd_T48 l0_3 x11_1).f1))) (fun _ hk => hk.2) (.int .i64 ((rd_T48 l0_3 x11_1).f2))) (fun _ hk => hk.2) (.int .i64 ((rd_T48 l0_3 x11_1).f3))) (fun _ hk => trivial)⟩
           have n1_ : Aside0 (((((w17.setCell ⟨gb332, 0, none⟩ (.int .i64 ((rd_T48 l0_3 x11_1).f0))).setCell ⟨gb332, 1, none⟩ (.int .i64 ((rd_T48 l0_3 x11_1).f1))).setCell ⟨gb332, 2, none⟩ (.int .i64 ((rd_T48 l0_3 x11_1).f2))).setCell ⟨gb332, 3, none⟩ (.int .i64 ((rd_T48 l0_3 x11_1).f3))).heap[gb329]? = some (.cells #[.int .i64 a0_0, .int .i64 a0_1, .bool a0_2, .slice (some ad331) l0_3.length c0_3, .slice A0_4 l0_4.length c0_4, .slice A0_5 l0_5.length c0_5] 26 (0, 0))) := ⟨by (with_reducible repeat (first | refine blk_drewN ?_ _ | refine blk_drew ?_ | refine blk_alloc ?_ _)); refine blk_far ?_ NB329_332.out _; (with_reducible repeat (first | refine blk_drewN ?_ _ | refine blk_drew ?_ | refine blk_alloc ?_ _)); refine blk_far ?_ NB329_332.out _; (with_reducible repeat (first | refine blk_drewN ?_ _ | refine blk_drew ?_ | refine blk_alloc ?_ _)); refine blk_far ?_ NB329_332.out _; (with_reducible repeat (first | refine blk_drewN ?_ _ | refine blk_drew ?_ | refine blk_alloc ?_ _)); refine blk_far ?_ NB329_332.out _; (with_reducible repeat (first | refine blk_drewN ?_ _ | refine blk_drew ?_ | refine blk_alloc ?_ _)); exact BK329.out⟩
           have n2_ : Aside0 (((((w17.setCell ⟨gb332, 0, none⟩ (.int .i64 ((rd_T48 l0_3 x11_1).f0))).setCell ⟨gb332, 1, none⟩ (.int .i64 ((rd_T48 l0_3 x11_1).f1))).setCell ⟨gb332, 2, none⟩ (.int .i64 ((rd_T48 l0_3 x11_1).f2))).setCell ⟨gb332, 3, none⟩ (.int .i64 ((rd_T48 l0_3 x11_1).f3))).heap[gb330]? = some (.cells #[.int .i64 a1_0, .int .i64 a1_1, .slice A1_2 l1_2.length c1_2, .slice A1_3 l1_3.length c1_3, .slice A1_4 l1_4.length c1_4] 35 (0, 0))) := ⟨by (with_reducible repeat (first | refine blk_drewN ?_ _ | refine blk_drew ?_ | refine blk_alloc ?_ _)); refine blk_far ?_ NB330_332.out _; (with_reducible repeat (first | refine blk_drewN ?_ _ | refine blk_drew ?_ | refine blk_alloc ?_ _)); refine blk_far ?_ NB330_332.out _; (with_reducible repeat (first | refine blk_drewN ?_ _ | refine blk_drew ?_ | refine blk_alloc ?_ _)); refine blk_far ?_ NB330_332.out _; (with_reducible repeat (first | refine blk_drewN ?_ _ | refine blk_drew ?_ | refine blk_alloc ?_ _)); refine blk_far ?_ NB330_332.out _; (with_reducible repeat (first | refine blk_drewN ?_ _ | refine blk_drew ?_ | refine blk_alloc ?_ _)); exact BK330.out⟩
           have n3_ : Aside0 (((((w17.setCell ⟨gb332, 0, none⟩ (.int .i64 ((rd_T48 l0_3 x11_1).f0))).setCell ⟨gb332, 1, none⟩ (.int .i64 ((rd_T48 l0_3 x11_1).f1))).setCell ⟨gb332, 2, none⟩ (.int .i64 ((rd_T48 l0_3 x11_1).f2))).setCell ⟨gb332, 3, none⟩ (.int .i64 ((rd_T48 l0_3 x11_1).f3))).heap[gb332]? = some (.cells #[.int .i64 ((rd_T48 l0_3 x11_1).f0), .int .i64 ((rd_T48 l0_3 x11_1).f1), .int .i64 ((rd_T48 l0_3 x11_1).f2), .int .i64 ((rd_T48 l0_3 x11_1).f3)] 48 (0, 0))) := ⟨by (with_reducible repeat (first | refine blk_drewN ?_ _ | refine blk_drew ?_ | refine blk_alloc ?_ _)); refine blk_put (cs := #[.int .i64 ((rd_T48 l0_3 x11_1).f0), .int .i64 ((rd_T48 l0_3 x11_1).f1), .int .i64 ((rd_T48 l0_3 x11_1).f2), .int .i64 0]) ?_ 3 _ rfl; (with_reducible repeat (first | refine blk_drewN ?_ _ | refine blk_drew ?_ | refine blk_alloc ?_ _)); refine blk_put (cs := #[.int .i64 ((rd_T48 l0_3 x11_1).f0), .int .i64 ((rd_T48 l0_3 x11_1).f1), .int .i64 0, .int .i64 0]) ?_ 2 _ rfl; (with_reducible repeat (first | refine blk_drewN ?_ _ | refine blk_drew ?_ | refine blk_alloc ?_ _)); refine blk_put (cs := #[.int .i64 ((rd_T48 l0_3 x11_1).f0), .int .i64 0, .int .i64 0, .int .i64 0]) ?_ 1 _ rfl; (with_reducible repeat (first | refine blk_drewN ?_ _ | refine blk_drew ?_ | refine blk_alloc ?_ _)); refine blk_put (cs := #[.int .i64 0, .int .i64 0, .int .i64 0, .int .i64 0]) ?_ 0 _ rfl; (with_reducible repeat (first | refine blk_drewN ?_ _ | refine blk_drew ?_ | refine blk_alloc ?_ _)); exact BK332.out⟩
           have n4_ : Aside0 (Below w.heap.size w ((((w17.setCell ⟨gb332, 0, none⟩ (.int .i64 ((rd_T48 l0_3 x11_1).f0))).setCell ⟨gb332, 1, none⟩ (.int .i64 ((rd_T48 l0_3 x11_1).f1))).setCell ⟨gb332, 2, none⟩ (.int .i64 ((rd_T48 l0_3 x11_1).f2))).setCell ⟨gb332, 3, none⟩ (.int .i64 ((rd_T48 l0_3 x11_1).f3)))) := ⟨bl_⟩
           generalize ((((w17.setCell ⟨gb332, 0, none⟩ (.int .i64 ((rd_T48 l0_3 x11_1).f0))).setCell ⟨gb332, 1, none⟩ (.int .i64 ((rd_T48 l0_3 x11_1).f1))).setCell ⟨gb332, 2, none⟩ (.int .i64 ((rd_T48 l0_3 x11_1).f2))).setCell ⟨gb332, 3, none⟩ (.int .i64 ((rd_T48 l0_3 x11_1).f3))) = w21 at n0_ n1_ n2_ n3_ n4_ ⊢
           have HO_5 := n0_
           have BK329 := n1_
           have BK330 := n2_
           have BK332 := n3_
           have HB := n4_
           clear n0_ n1_ n2_ n3_ n4_
           have n0_ := Aside0.mk (Kd.R_drew HO_5.out)
           have n1_ := Aside0.mk (blk_drew BK329.out)
           have n2_ := Aside0.mk (blk_drew BK330.out)
           have n3_ := Aside0.mk (blk_drew BK332.out)
           have n4_ := Aside0.mk (below_drew1 HB.out)
           clear HO_5
           clear BK329
           clear BK330
           clear BK332
           clear HB
           have HO_5 := n0_
           have BK329 := n1_
           have BK330 := n2_
           have BK332 := n3_
           have HB := n4_
           clear n0_ n1_ n2_ n3_ n4_
           refine start_ (n := 16) (S := fun w' => w'.cell? ⟨gb329, 0, none⟩ = some (.int .i64 a0_0) ∧ w'.cell? ⟨gb329, 1, none⟩ = some (.int .i64 a0_1) ∧ w'.cell? ⟨gb329, 2, none⟩ = some (.bool a0_2) ∧ w'.cell? ⟨gb329, 3, none⟩ = some (.slice (some ad331) l0_3.length c0_3) ∧ w'.cell? ⟨gb329, 4, none⟩ = some (.slice A0_4 l0_4.length c0_4) ∧ w'.cell? ⟨gb329, 5, none⟩ = some (.slice A0_5 l0_5.length c0_5) ∧ w'.cell? ⟨gb330, 0, none⟩ = some (.int .i64 a1_0) ∧ w'.cell? ⟨gb330, 1, none⟩ = some (.int .i64 a1_1) ∧ w'.cell? ⟨gb330, 2, none⟩ = some (.slice A1_2 l1_2.length c1_2) ∧ w'.cell? ⟨gb330, 3, none⟩ = some (.slice A1_3 l1_3.length c1_3) ∧ w'.cell? ⟨gb330, 4, none⟩ = some (.slice A1_4 l1_4.length c1_4) ∧ w'.cell? ⟨gb332, 0, none⟩ = some (.int .i64 ((rd_T48 l0_3 x11_1).f0)) ∧ w'.cell? ⟨gb332, 1, none⟩ = some (.int .i64 ((rd_T48 l0_3 x11_1).f1)) ∧ w'.cell? ⟨gb332, 2, none⟩ = some (.int .i64 ((rd_T48 l0_3 x11_1).f2)) ∧ w'.cell? ⟨gb332, 3, none⟩ = some (.int .i64 ((rd_T48 l0_3 x11_1).f3))) (ds := []) (bz 16 0) (by kernel_rfl) rfl rfl ⟨(blk_cell BK329.out 0).trans rfl, (blk_cell BK329.out 1).trans rfl, (blk_cell BK329.out 2).trans rfl, (blk_cell BK329.out 3).trans rfl, (blk_cell BK329.out 4).trans rfl, (blk_cell BK329.out 5).trans rfl, (blk_cell BK330.out 0).trans rfl, (blk_cell BK330.out 1).trans rfl, (blk_cell BK330.out 2).trans rfl, (blk_cell BK330.out 3).trans rfl, (blk_cell BK330.out 4).trans rfl, (blk_cell BK332.out 0).trans rfl, (blk_cell BK332.out 1).trans rfl, (blk_cell BK332.out 2).trans rfl, (blk_cell BK332.out 3).trans rfl⟩ (fun hHeld => ?_); refine with_tabW jacquardref28_Late.tab6 jacquardref28_Late.bits6 (fun HT_ HW_ => ?_)
           generalize w21.drew = w22 at HO_5 BK329 BK330 BK332 HB hHeld ⊢
           refine pu_ 2 21 HT_ ?_
           refine pu_ 7 26 HT_ ?_
           refine pu_ 12 31 HT_ ?_
           refine tk_ 0 19 HT_ HW_ hHeld ?_ (hy := by rintro w' ⟨s0, s1, s2, s3, s4, s5, s6, s7, s8, s9, s10, s11, s12, s13, s14⟩; go_simp; with_reducible rfl)
           refine tk_ 1 20 HT_ HW_ hHeld ?_ (hy := by rintro w' ⟨s0, s1, s2, s3, s4, s5, s6, s7, s8, s9, s10, s11, s12, s13, s14⟩; go_simp; with_reducible rfl)
           refine tk_ 3 22 HT_ HW_ hHeld ?_ (hy := by rintro w' ⟨s0, s1, s2, s3, s4, s5, s6, s7, s8, s9, s10, s11, s12, s13, s14⟩; go_simp; with_reducible rfl)
           refine tk_ 5 24 HT_ HW_ hHeld ?_ (hy := by rintro w' ⟨s0, s1, s2, s3, s4, s5, s6, s7, s8, s9, s10, s11, s12, s13, s14⟩; go_simp; with_reducible rfl)
           refine tk_ 6 25 HT_ HW_ hHeld ?_ (hy := by rintro w' ⟨s0, s1, s2, s3, s4, s5, s6, s7, s8, s9, s10, s11, s12, s13, s14⟩; go_simp; with_reducible rfl)
           refine tk_ 8 27 HT_ HW_ hHeld ?_ (hy := by rintro w' ⟨s0, s1, s2, s3, s4, s5, s6, s7, s8, s9, s10, s11, s12, s13, s14⟩; go_simp; with_reducible rfl)
           refine tk_ 11 30 HT_ HW_ hHeld ?_ (hy := by rintro w' ⟨s0, s1, s2, s3, s4, s5, s6, s7, s8, s9, s10, s11, s12, s13, s14⟩; go_simp; with_reducible rfl)
           refine tk_ 13 32 HT_ HW_ hHeld ?_ (hy := by rintro w' ⟨s0, s1, s2, s3, s4, s5, s6, s7, s8, s9, s10, s11, s12, s13, s14⟩; go_simp; with_reducible rfl)
           refine on_ 4 (some 23) HT_ (fun K hK => ?_)
           refine gs_ Try.func39 #[.agg #[.int .i64 a0_0, .int .i64 a0_1, .bool a0_2, .slice (some ad331) l0_3.length c0_3, .slice A0_4 l0_4.length c0_4, .slice A0_5 l0_5.length c0_5], .agg #[.int .i64 a1_0, .int .i64 a1_1, .slice A1_2 l1_2.length c1_2, .slice A1_3 l1_3.length c1_3, .slice A1_4 l1_4.length c1_4], .int .i64 ((rd_T48 l0_3 x11_1).f1)] ?_
           with_reducible refine (jacquardref28_Time.calls a0_0 a0_1 a0_2 _ _ l0_3 _ _ l0_4 _ _ l0_5 a1_0 a1_1 _ _ l1_2 _ _ l1_3 _ _ l1_4 ((rd_T48 l0_3 x11_1).f1) t333 _ ?side1 ?side2 ?side3 ?side4 ?side5 ?side6 ?side7 ?side8 ?side9 ?side10 ?side11 ?side12 A10.out).mono ?_
           (case side1 => exact CB_ HR0_3)
           (case side2 => exact HC0_3.out)
           (case side3 => exact CB_ HR0_4)
           (case side4 => exact HC0_4.out)
           (case side5 => exact CB_ HR0_5)
           (case side6 => exact HC0_5.out)
           (case side7 => exact CB_ HR1_2)
           (case side8 => exact HC1_2.out)
           (case side9 => exact CB_ HR1_3)
           (case side10 => exact HC1_3.out)
           (case side11 => exact CB_ HR1_4)
           (case side12 => exact HC1_4.out)
           rintro e w23 ⟨rfl, hb⟩
           refine ⟨_, rfl, ?_⟩
           have n0_ := Aside0.mk (Kd.R_below (R_ HO_5) hb)
           have n1_ := Aside0.mk (blk_below (K_ BK329) hb)
           have n2_ := Aside0.mk (blk_below (K_ BK330) hb)
           have n3_ := Aside0.mk (blk_below (K_ BK332) hb)
           have n4_ := Aside0.mk (below_step bl_ hb)
           clear HO_5
           clear BK329
           clear BK330
           clear BK332
           clear HB
           have HO_5 := n0_
           have BK329 := n1_
           have BK330 := n2_
           have BK332 := n3_
           have HB := n4_
           clear n0_ n1_ n2_ n3_ n4_
           refine hK.out _ _ ⟨(blk_cell BK329.out 0).trans rfl, (blk_cell BK329.out 1).trans rfl, (blk_cell BK329.out 2).trans rfl, (blk_cell BK329.out 3).trans rfl, (blk_cell BK329.out 4).trans rfl, (blk_cell BK329.out 5).trans rfl, (blk_cell BK330.out 0).trans rfl, (blk_cell BK330.out 1).trans rfl, (blk_cell BK330.out 2).trans rfl, (blk_cell BK330.out 3).trans rfl, (blk_cell BK330.out 4).trans rfl, (blk_cell BK332.out 0).trans rfl, (blk_cell BK332.out 1).trans rfl, (blk_cell BK332.out 2).trans rfl, (blk_cell BK332.out 3).trans rfl⟩ (fun hHeld => ?_)
           clear hK K
           refine no_ 23 ?_
           refine on_ 9 (some 28) HT_ (fun K hK => ?_)
           refine gs_ Try.func39 #[.agg #[.int .i64 a0_0, .int .i64 a0_1, .bool a0_2, .slice (some ad331) l0_3.length c0_3, .slice A0_4 l0_4.length c0_4, .slice A0_5 l0_5.length c0_5], .agg #[.int .i64 a1_0, .int .i64 a1_1, .slice A1_2 l1_2.length c1_2, .slice A1_3 l1_3.length c1_3, .slice A1_4 l1_4.length c1_4], .int .i64 ((rd_T48 l0_3 x11_1).f0)] ?_
           with_reducible refine (jacquardref28_Time.calls a0_0 a0_1 a0_2 _ _ l0_3 _ _ l0_4 _ _ l0_5 a1_0 a1_1 _ _ l1_2 _ _ l1_3 _ _ l1_4 ((rd_T48 l0_3 x11_1).f0) t334 _ ?side1 ?side2 ?side3 ?side4 ?side5 ?side6 ?side7 ?side8 ?side9 ?side10 ?side11 ?side12 A11.out).mono ?_
           (case side1 => exact CB_ HR0_3)
           (case side2 => exact HC0_3.out)
           (case side3 => exact CB_ HR0_4)
           (case side4 => exact HC0_4.out)
           (case side5 => exact CB_ HR0_5)
           (case side6 => exact HC0_5.out)
           (case side7 => exact CB_ HR1_2)
           (case side8 => exact HC1_2.out)
           (case side9 => exact CB_ HR1_3)
           (case side10 => exact HC1_3.out)
           (case side11 => exact CB_ HR1_4)
           (case side12 => exact HC1_4.out)
           rintro e w24 ⟨rfl, hb⟩
           refine ⟨_, rfl, ?_⟩
           have n0_ := Aside0.mk (Kd.R_below (R_ HO_5) hb)
           have n1_ := Aside0.mk (blk_below (K_ BK329) hb)
           have n2_ := Aside0.mk (blk_below (K_ BK330) hb)
           have n3_ := Aside0.mk (blk_below (K_ BK332) hb)
           have n4_ := Aside0.mk (below_step bl_ hb)
           clear HO_5
           clear BK329
           clear BK330
           clear BK332
           clear HB
           have HO_5 := n0_
           have BK329 := n1_
           have BK330 := n2_
           have BK332 := n3_
           have HB := n4_
           clear n0_ n1_ n2_ n3_ n4_
           refine hK.out _ _ ⟨(blk_cell BK329.out 0).trans rfl, (blk_cell BK329.out 1).trans rfl, (blk_cell BK329.out 2).trans rfl, (blk_cell BK329.out 3).trans rfl, (blk_cell BK329.out 4).trans rfl, (blk_cell BK329.out 5).trans rfl, (blk_cell BK330.out 0).trans rfl, (blk_cell BK330.out 1).trans rfl, (blk_cell BK330.out 2).trans rfl, (blk_cell BK330.out 3).trans rfl, (blk_cell BK330.out 4).trans rfl, (blk_cell BK332.out 0).trans rfl, (blk_cell BK332.out 1).trans rfl, (blk_cell BK332.out 2).trans rfl, (blk_cell BK332.out 3).trans rfl⟩ (fun hHeld => ?_)
           clear hK K
           refine no_ 28 ?_
           refine pu_ 10 29 HT_ ?_
           refine on_ 14 (some 33) HT_ (fun K hK => ?_)
           refine gs_ Try.func31 #[.agg #[.int .i64 ((rd_T48 l0_3 x11_1).f0), .int .i64 ((rd_T48 l0_3 x11_1).f1), .int .i64 ((rd_T48 l0_3 x11_1).f2), .int .i64 ((rd_T48 l0_3 x11_1).f3)], .int .i64 a1_0] ?_
           with_reducible refine (jacquardref28_Weight.calls ((rd_T48 l0_3 x11_1).f0) ((rd_T48 l0_3 x11_1).f1) ((rd_T48 l0_3 x11_1).f2) ((rd_T48 l0_3 x11_1).f3) a1_0 t335 _ A12.out).mono ?_
           rintro e w25 ⟨rfl, hb⟩
           refine ⟨_, rfl, ?_⟩
           have n0_ := Aside0.mk (Kd.R_below (R_ HO_5) hb)
           have n1_ := Aside0.mk (blk_below (K_ BK329) hb)
           have n2_ := Aside0.mk (blk_below (K_ BK330) hb)
           have n3_ := Aside0.mk (blk_below (K_ BK332) hb)
           have n4_ := Aside0.mk (below_step bl_ hb)
           clear HO_5
           clear BK329
           clear BK330
           clear BK332
           clear HB
           have HO_5 := n0_
           have BK329 := n1_
           have BK330 := n2_
           have BK332 := n3_
           have HB := n4_
           clear n0_ n1_ n2_ n3_ n4_
           refine hK.out _ _ ⟨(blk_cell BK329.out 0).trans rfl, (blk_cell BK329.out 1).trans rfl, (blk_cell BK329.out 2).trans rfl, (blk_cell BK329.out 3).trans rfl, (blk_cell BK329.out 4).trans rfl, (blk_cell BK329.out 5).trans rfl, (blk_cell BK330.out 0).trans rfl, (blk_cell BK330.out 1).trans rfl, (blk_cell BK330.out 2).trans rfl, (blk_cell BK330.out 3).trans rfl, (blk_cell BK330.out 4).trans rfl, (blk_cell BK332.out 0).trans rfl, (blk_cell BK332.out 1).trans rfl, (blk_cell BK332.out 2).trans rfl, (blk_cell BK332.out 3).trans rfl⟩ (fun hHeld => ?_)
           clear hK K
           refine no_ 33 ?_
           refine pu_ 15 34 HT_ ?_
           refine done_ (done_of HT_.out (by kernel_rfl)) ?_
           try go_wp2_with (first | ((with_reducible refine gate_builtin (b := .append) (xs := #[.tmp 35, .tmp 37]) rfl ?_); at_builtin; refine Kd.R_append (Kd.int .i64) (w0 := w) w.heap.size rfl (.tmp 35) (.tmp 37) 31 3 (.int .i64 0) 8 rfl Try.underlying31 info3 rfl (by decide) (by omega) u5 x5_1 x11_1 [.int .i64 x11_1] (fun _ => True) (fun _ => False) rfl rfl ?aP (fun _ hk => hk.elim) ?aF ?aO ?aB ?aS ?aL ?_; (case aP => exact rfl); (case aB => exact bl_); (case aF => exact (fun _ _ => trivial)); (case aO => exact (R_ HO_5)); (case aS => exact (below_size bl_)); (case aL => have := LMc14.out; omega); intro v337 w26 ho hb hg hat; rw [← Ny336.out] at ho; have n0_ := Aside0.mk (blk_grown (K_ BK329) hg (Kd.R_ne HO_5.out BK329.out (by decide))); have n1_ := Aside0.mk (blk_grown (K_ BK330) hg (Kd.R_ne HO_5.out BK330.out (by decide))); have n2_ := Aside0.mk (blk_grown (K_ BK332) hg (Kd.R_ne HO_5.out BK332.out (by decide))); have n3_ := Aside0.mk (hb); have n4_ := Aside0.mk (ho); clear BK329; clear BK330; clear BK332; clear HB; clear HO_5; have BK329 := n0_; have BK330 := n1_; have BK332 := n2_; have HB := n3_; have HO338 := n4_; clear n0_ n1_ n2_ n3_ n4_; clear ho hb hg hat))
           go_roundg k1
           case measure => have := HK1.out; omega
           case rel => exact ⟨(y336), (wrap64 (x11_1 + 1)), (by first | rfl | (simp; done) | (simp [*]; done)), H', ⟨by have := HK1.out; omega⟩, ⟨R_ HO338⟩, ⟨K_ BK329⟩, ⟨K_ BK330⟩, ⟨bl_⟩⟩
         rw [if_neg c14] at H
         exact absurd H (by simp)
       rw [if_neg c13] at H
       have c13b0 : decide ((wrap64 (t333 - t334)) < t335) = false := decide_eq_false c13
       clear c13
       have H' := Aside0.mk H
       clear H
       obtain ⟨hcz28_0, hcz28_1, hcz28_2, hcz28_3, hcz28_4, hcz28_5⟩ := cells6 BK329
       obtain ⟨hfz28_0, hfz28_1, hfz28_2, hfz28_3, hfz28_4, hfz28_5⟩ := fz6 BK329
       have p331 : 0 ≤ (x11_1 : Int) := of_decide_eq_true (by first | (with_reducible assumption) | assumption)
       have q331 : x11_1 < (l0_3.length : Int) := of_decide_eq_true (by first | (with_reducible assumption) | assumption)
       obtain ⟨ad331, e331, hx331_0, hx331_1, hx331_2, hx331_3⟩ := at_T48 HR0_3.out x11_1 p331 q331
       cases e331
       replace hx331_0 := hc_ HB hx331_0
       replace hx331_1 := hc_ HB hx331_1
       replace hx331_2 := hc_ HB hx331_2
       replace hx331_3 := hc_ HB hx331_3
       replace p331 := eq_true p331
       replace q331 := eq_true q331
       try go_wp2_with (first | ((with_reducible refine gate_dst (N := 7) rfl ?_); refine box_event ?hg (N := 7) ?hd (cs := #[.int .i64 0, .int .i64 0, .int .i64 0, .int .i64 0]) (t := 48) ?hr ?_; (case hd => rfl); (case hg => rfl); (case hr => first | (go_simp; done) | (go_simp; rfl)); intro gb332 hg w29 hbox hb; have n0_ := Aside0.mk (Kd.R_below (R_ HO_5) hb); have n1_ := Aside0.mk (blk_below (K_ BK329) hb); have n2_ := Aside0.mk (blk_below (K_ BK330) hb); have n3_ := Aside0.mk (below_step bl_ hb); have n4_ := Aside0.mk (hbox); have n5_ := Aside0.mk (gl_ (w := w) hg); have n6_ := Aside0.mk (gl_ (w := w) hg); have n7_ := Aside0.mk (nl_ hg (K_ BK329)); have n8_ := Aside0.mk (ng_ hg (K_ BK329)); have n9_ := Aside0.mk (nl_ hg (K_ BK330)); have n10_ := Aside0.mk (ng_ hg (K_ BK330)); clear HO_5; clear BK329; clear BK330; clear HB; have HO_5 := n0_; have BK329 := n1_; have BK330 := n2_; have HB := n3_; have BK332 := n4_; have GW332 := n5_; have GE332 := n6_; have NB329_332 := n7_; have NB332_329 := n8_; have NB330_332 := n9_; have NB332_330 := n10_; clear n0_ n1_ n2_ n3_ n4_ n5_ n6_ n7_ n8_ n9_ n10_; clear hb hbox hg; obtain ⟨hcz32_0, hcz32_1, hcz32_2, hcz32_3⟩ := cells4 BK332; obtain ⟨hfz32_0, hfz32_1, hfz32_2, hfz32_3⟩ := fz4 BK332))
       have n0_ : Aside0 (Kd.R (Kd.int .i64) 3 ((((w29.setCell ⟨gb332, 0, none⟩ (.int .i64 ((rd_T48 l0_3 x11_1).f0))).setCell ⟨gb332, 1, none⟩ (.int .i64 ((rd_T48 l0_3 x11_1).f1))).setCell ⟨gb332, 2, none⟩ (.int .i64 ((rd_T48 l0_3 x11_1).f2))).setCell ⟨gb332, 3, none⟩ (.int .i64 ((rd_T48 l0_3 x11_1).f3))) w.heap.size (fun _ => True) u5 x5_1) := ⟨by (with_reducible repeat (first | apply Kd.R_alloc | apply Kd.R_drewN | apply Kd.R_drew)); exact Kd.R_mono (Kd.R_far (p := ⟨gb332, 3, none⟩) (Kd.R_far (p := ⟨gb332, 2, none⟩) (Kd.R_far (p := ⟨gb332, 1, none⟩) (Kd.R_far (p := ⟨gb332, 0, none⟩) (Kd.R_types HO_5.out BK332.out (by decide)) (fun _ hk => hk.2) (.int .i64 ((rd_T48 l0_3 x11_1).f0))) (fun _ hk => hk.2) (.int .i64 ((rd_T48 l0_3 x11_1).f1))) (fun _ hk => hk.2) (.int .i64 ((rd_T48 l0_3 x11_1).f2))) (fun _ hk => hk.2) (.int .i64 ((rd_T48 l0_3 x11_1).f3))) (fun _ hk => trivial)⟩
       have n1_ : Aside0 (((((w29.setCell ⟨gb332, 0, none⟩ (.int .i64 ((rd_T48 l0_3 x11_1).f0))).setCell ⟨gb332, 1, none⟩ (.int .i64 ((rd_T48 l0_3 x11_1).f1))).setCell ⟨gb332, 2, none⟩ (.int .i64 ((rd_T48 l0_3 x11_1).f2))).setCell ⟨gb332, 3, none⟩ (.int .i64 ((rd_T48 l0_3 x11_1).f3))).heap[gb329]? = some (.cells #[.int .i64 a0_0, .int .i64 a0_1, .bool a0_2, .slice (some ad331) l0_3.length c0_3, .slice A0_4 l0_4.length c0_4, .slice A0_5 l0_5.length c0_5] 26 (0, 0))) := ⟨by (with_reducible repeat (first | refine blk_drewN ?_ _ | refine blk_drew ?_ | refine blk_alloc ?_ _)); refine blk_far ?_ NB329_332.out _; (with_reducible repeat (first | refine blk_drewN ?_ _ | refine blk_drew ?_ | refine blk_alloc ?_ _)); refine blk_far ?_ NB329_332.out _; (with_reducible repeat (first | refine blk_drewN ?_ _ | refine blk_drew ?_ | refine blk_alloc ?_ _)); refine blk_far ?_ NB329_332.out _; (with_reducible repeat (first | refine blk_drewN ?_ _ | refine blk_drew ?_ | refine blk_alloc ?_ _)); refine blk_far ?_ NB329_332.out _; (with_reducible repeat (first | refine blk_drewN ?_ _ | refine blk_drew ?_ | refine blk_alloc ?_ _)); exact BK329.out⟩
       have n2_ : Aside0 (((((w29.setCell ⟨gb332, 0, none⟩ (.int .i64 ((rd_T48 l0_3 x11_1).f0))).setCell ⟨gb332, 1, none⟩ (.int .i64 ((rd_T48 l0_3 x11_1).f1))).setCell ⟨gb332, 2, none⟩ (.int .i64 ((rd_T48 l0_3 x11_1).f2))).setCell ⟨gb332, 3, none⟩ (.int .i64 ((rd_T48 l0_3 x11_1).f3))).heap[gb330]? = some (.cells #[.int .i64 a1_0, .int .i64 a1_1, .slice A1_2 l1_2.length c1_2, .slice A1_3 l1_3.length c1_3, .slice A1_4 l1_4.length c1_4] 35 (0, 0))) := ⟨by (with_reducible repeat (first | refine blk_drewN ?_ _ | refine blk_drew ?_ | refine blk_alloc ?_ _)); refine blk_far ?_ NB330_332.out _; (with_reducible repeat (first | refine blk_drewN ?_ _ | refine blk_drew ?_ | refine blk_alloc ?_ _)); refine blk_far ?_ NB330_332.out _; (with_reducible repeat (first | refine blk_drewN ?_ _ | refine blk_drew ?_ | refine blk_alloc ?_ _)); refine blk_far ?_ NB330_332.out _; (with_reducible repeat (first | refine blk_drewN ?_ _ | refine blk_drew ?_ | refine blk_alloc ?_ _)); refine blk_far ?_ NB330_332.out _; (with_reducible repeat (first | refine blk_drewN ?_ _ | refine blk_drew ?_ | refine blk_alloc ?_ _)); exact BK330.out⟩
       have n3_ : Aside0 (((((w29.setCell ⟨gb332, 0, none⟩ (.int .i64 ((rd_T48 l0_3 x11_1).f0))).setCell ⟨gb332, 1, none⟩ (.int .i64 ((rd_T48 l0_3 x11_1).f1))).setCell ⟨gb332, 2, none⟩ (.int .i64 ((rd_T48 l0_3 x11_1).f2))).setCell ⟨gb332, 3, none⟩ (.int .i64 ((rd_T48 l0_3 x11_1).f3))).heap[gb332]? = some (.cells #[.int .i64 ((rd_T48 l0_3 x11_1).f0), .int .i64 ((rd_T48 l0_3 x11_1).f1), .int .i64 ((rd_T48 l0_3 x11_1).f2), .int .i64 ((rd_T48 l0_3 x11_1).f3)] 48 (0, 0))) := ⟨by (with_reducible repeat (first | refine blk_drewN ?_ _ | refine blk_drew ?_ | refine blk_alloc ?_ _)); refine blk_put (cs := #[.int .i64 ((rd_T48 l0_3 x11_1).f0), .int .i64 ((rd_T48 l0_3 x11_1).f1), .int .i64 ((rd_T48 l0_3 x11_1).f2), .int .i64 0]) ?_ 3 _ rfl; (with_reducible repeat (first | refine blk_drewN ?_ _ | refine blk_drew ?_ | refine blk_alloc ?_ _)); refine blk_put (cs := #[.int .i64 ((rd_T48 l0_3 x11_1).f0), .int .i64 ((rd_T48 l0_3 x11_1).f1), .int .i64 0, .int .i64 0]) ?_ 2 _ rfl; (with_reducible repeat (first | refine blk_drewN ?_ _ | refine blk_drew ?_ | refine blk_alloc ?_ _)); refine blk_put (cs := #[.int .i64 ((rd_T48 l0_3 x11_1).f0), .int .i64 0, .int .i64 0, .int .i64 0]) ?_ 1 _ rfl; (with_reducible repeat (first | refine blk_drewN ?_ _ | refine blk_drew ?_ | refine blk_alloc ?_ _)); refine blk_put (cs := #[.int .i64 0, .int .i64 0, .int .i64 0, .int .i64 0]) ?_ 0 _ rfl; (with_reducible repeat (first | refine blk_drewN ?_ _ | refine blk_drew ?_ | refine blk_alloc ?_ _)); exact BK332.out⟩
       have n4_ : Aside0 (Below w.heap.size w ((((w29.setCell ⟨gb332, 0, none⟩ (.int .i64 ((rd_T48 l0_3 x11_1).f0))).setCell ⟨gb332, 1, none⟩ (.int .i64 ((rd_T48 l0_3 x11_1).f1))).setCell ⟨gb332, 2, none⟩ (.int .i64 ((rd_T48 l0_3 x11_1).f2))).setCell ⟨gb332, 3, none⟩ (.int .i64 ((rd_T48 l0_3 x11_1).f3)))) := ⟨bl_⟩
       generalize ((((w29.setCell ⟨gb332, 0, none⟩ (.int .i64 ((rd_T48 l0_3 x11_1).f0))).setCell ⟨gb332, 1, none⟩ (.int .i64 ((rd_T48 l0_3 x11_1).f1))).setCell ⟨gb332, 2, none⟩ (.int .i64 ((rd_T48 l0_3 x11_1).f2))).setCell ⟨gb332, 3, none⟩ (.int .i64 ((rd_T48 l0_3 x11_1).f3))) = w33 at n0_ n1_ n2_ n3_ n4_ ⊢
       have HO_5 := n0_
       have BK329 := n1_
       have BK330 := n2_
       have BK332 := n3_
       have HB := n4_
       clear n0_ n1_ n2_ n3_ n4_
       have n0_ := Aside0.mk (Kd.R_drew HO_5.out)
       have n1_ := Aside0.mk (blk_drew BK329.out)
       have n2_ := Aside0.mk (blk_drew BK330.out)
       have n3_ := Aside0.mk (blk_drew BK332.out)
       have n4_ := Aside0.mk (below_drew1 HB.out)
       clear HO_5
       clear BK329
       clear BK330
       clear BK332
       clear HB
       have HO_5 := n0_
       have BK329 := n1_
       have BK330 := n2_
       have BK332 := n3_
       have HB := n4_
       clear n0_ n1_ n2_ n3_ n4_
       refine start_ (n := 16) (S := fun w' => w'.cell? ⟨gb329, 0, none⟩ = some (.int .i64 a0_0) ∧ w'.cell? ⟨gb329, 1, none⟩ = some (.int .i64 a0_1) ∧ w'.cell? ⟨gb329, 2, none⟩ = some (.bool a0_2) ∧ w'.cell? ⟨gb329, 3, none⟩ = some (.slice (some ad331) l0_3.length c0_3) ∧ w'.cell? ⟨gb329, 4, none⟩ = some (.slice A0_4 l0_4.length c0_4) ∧ w'.cell? ⟨gb329, 5, none⟩ = some (.slice A0_5 l0_5.length c0_5) ∧ w'.cell? ⟨gb330, 0, none⟩ = some (.int .i64 a1_0) ∧ w'.cell? ⟨gb330, 1, none⟩ = some (.int .i64 a1_1) ∧ w'.cell? ⟨gb330, 2, none⟩ = some (.slice A1_2 l1_2.length c1_2) ∧ w'.cell? ⟨gb330, 3, none⟩ = some (.slice A1_3 l1_3.length c1_3) ∧ w'.cell? ⟨gb330, 4, none⟩ = some (.slice A1_4 l1_4.length c1_4) ∧ w'.cell? ⟨gb332, 0, none⟩ = some (.int .i64 ((rd_T48 l0_3 x11_1).f0)) ∧ w'.cell? ⟨gb332, 1, none⟩ = some (.int .i64 ((rd_T48 l0_3 x11_1).f1)) ∧ w'.cell? ⟨gb332, 2, none⟩ = some (.int .i64 ((rd_T48 l0_3 x11_1).f2)) ∧ w'.cell? ⟨gb332, 3, none⟩ = some (.int .i64 ((rd_T48 l0_3 x11_1).f3))) (ds := []) (bz 16 0) (by kernel_rfl) rfl rfl ⟨(blk_cell BK329.out 0).trans rfl, (blk_cell BK329.out 1).trans rfl, (blk_cell BK329.out 2).trans rfl, (blk_cell BK329.out 3).trans rfl, (blk_cell BK329.out 4).trans rfl, (blk_cell BK329.out 5).trans rfl, (blk_cell BK330.out 0).trans rfl, (blk_cell BK330.out 1).trans rfl, (blk_cell BK330.out 2).trans rfl, (blk_cell BK330.out 3).trans rfl, (blk_cell BK330.out 4).trans rfl, (blk_cell BK332.out 0).trans rfl, (blk_cell BK332.out 1).trans rfl, (blk_cell BK332.out 2).trans rfl, (blk_cell BK332.out 3).trans rfl⟩ (fun hHeld => ?_); refine with_tabW jacquardref28_Late.tab6 jacquardref28_Late.bits6 (fun HT_ HW_ => ?_)
       generalize w33.drew = w34 at HO_5 BK329 BK330 BK332 HB hHeld ⊢
       refine pu_ 2 21 HT_ ?_
       refine pu_ 7 26 HT_ ?_
       refine pu_ 12 31 HT_ ?_
       refine tk_ 0 19 HT_ HW_ hHeld ?_ (hy := by rintro w' ⟨s0, s1, s2, s3, s4, s5, s6, s7, s8, s9, s10, s11, s12, s13, s14⟩; go_simp; with_reducible rfl)
       refine tk_ 1 20 HT_ HW_ hHeld ?_ (hy := by rintro w' ⟨s0, s1, s2, s3, s4, s5, s6, s7, s8, s9, s10, s11, s12, s13, s14⟩; go_simp; with_reducible rfl)
       refine tk_ 3 22 HT_ HW_ hHeld ?_ (hy := by rintro w' ⟨s0, s1, s2, s3, s4, s5, s6, s7, s8, s9, s10, s11, s12, s13, s14⟩; go_simp; with_reducible rfl)
       refine tk_ 5 24 HT_ HW_ hHeld ?_ (hy := by rintro w' ⟨s0, s1, s2, s3, s4, s5, s6, s7, s8, s9, s10, s11, s12, s13, s14⟩; go_simp; with_reducible rfl)
       refine tk_ 6 25 HT_ HW_ hHeld ?_ (hy := by rintro w' ⟨s0, s1, s2, s3, s4, s5, s6, s7, s8, s9, s10, s11, s12, s13, s14⟩; go_simp; with_reducible rfl)
       refine tk_ 8 27 HT_ HW_ hHeld ?_ (hy := by rintro w' ⟨s0, s1, s2, s3, s4, s5, s6, s7, s8, s9, s10, s11, s12, s13, s14⟩; go_simp; with_reducible rfl)
       refine tk_ 11 30 HT_ HW_ hHeld ?_ (hy := by rintro w' ⟨s0, s1, s2, s3, s4, s5, s6, s7, s8, s9, s10, s11, s12, s13, s14⟩; go_simp; with_reducible rfl)
       refine tk_ 13 32 HT_ HW_ hHeld ?_ (hy := by rintro w' ⟨s0, s1, s2, s3, s4, s5, s6, s7, s8, s9, s10, s11, s12, s13, s14⟩; go_simp; with_reducible rfl)
       refine on_ 4 (some 23) HT_ (fun K hK => ?_)
       refine gs_ Try.func39 #[.agg #[.int .i64 a0_0, .int .i64 a0_1, .bool a0_2, .slice (some ad331) l0_3.length c0_3, .slice A0_4 l0_4.length c0_4, .slice A0_5 l0_5.length c0_5], .agg #[.int .i64 a1_0, .int .i64 a1_1, .slice A1_2 l1_2.length c1_2, .slice A1_3 l1_3.length c1_3, .slice A1_4 l1_4.length c1_4], .int .i64 ((rd_T48 l0_3 x11_1).f1)] ?_
       with_reducible refine (jacquardref28_Time.calls a0_0 a0_1 a0_2 _ _ l0_3 _ _ l0_4 _ _ l0_5 a1_0 a1_1 _ _ l1_2 _ _ l1_3 _ _ l1_4 ((rd_T48 l0_3 x11_1).f1) t333 _ ?side1 ?side2 ?side3 ?side4 ?side5 ?side6 ?side7 ?side8 ?side9 ?side10 ?side11 ?side12 A10.out).mono ?_
       (case side1 => exact CB_ HR0_3)
       (case side2 => exact HC0_3.out)
       (case side3 => exact CB_ HR0_4)
       (case side4 => exact HC0_4.out)
       (case side5 => exact CB_ HR0_5)
       (case side6 => exact HC0_5.out)
       (case side7 => exact CB_ HR1_2)
       (case side8 => exact HC1_2.out)
       (case side9 => exact CB_ HR1_3)
       (case side10 => exact HC1_3.out)
       (case side11 => exact CB_ HR1_4)
       (case side12 => exact HC1_4.out)
       rintro e w35 ⟨rfl, hb⟩
       refine ⟨_, rfl, ?_⟩
       have n0_ := Aside0.mk (Kd.R_below (R_ HO_5) hb)
       have n1_ := Aside0.mk (blk_below (K_ BK329) hb)
       have n2_ := Aside0.mk (blk_below (K_ BK330) hb)
       have n3_ := Aside0.mk (blk_below (K_ BK332) hb)
       have n4_ := Aside0.mk (below_step bl_ hb)
       clear HO_5
       clear BK329
       clear BK330
       clear BK332
       clear HB
       have HO_5 := n0_
       have BK329 := n1_
       have BK330 := n2_
       have BK332 := n3_
       have HB := n4_
       clear n0_ n1_ n2_ n3_ n4_
       refine hK.out _ _ ⟨(blk_cell BK329.out 0).trans rfl, (blk_cell BK329.out 1).trans rfl, (blk_cell BK329.out 2).trans rfl, (blk_cell BK329.out 3).trans rfl, (blk_cell BK329.out 4).trans rfl, (blk_cell BK329.out 5).trans rfl, (blk_cell BK330.out 0).trans rfl, (blk_cell BK330.out 1).trans rfl, (blk_cell BK330.out 2).trans rfl, (blk_cell BK330.out 3).trans rfl, (blk_cell BK330.out 4).trans rfl, (blk_cell BK332.out 0).trans rfl, (blk_cell BK332.out 1).trans rfl, (blk_cell BK332.out 2).trans rfl, (blk_cell BK332.out 3).trans rfl⟩ (fun hHeld => ?_)
       clear hK K
       refine no_ 23 ?_
       refine on_ 9 (some 28) HT_ (fun K hK => ?_)
       refine gs_ Try.func39 #[.agg #[.int .i64 a0_0, .int .i64 a0_1, .bool a0_2, .slice (some ad331) l0_3.length c0_3, .slice A0_4 l0_4.length c0_4, .slice A0_5 l0_5.length c0_5], .agg #[.int .i64 a1_0, .int .i64 a1_1, .slice A1_2 l1_2.length c1_2, .slice A1_3 l1_3.length c1_3, .slice A1_4 l1_4.length c1_4], .int .i64 ((rd_T48 l0_3 x11_1).f0)] ?_
       with_reducible refine (jacquardref28_Time.calls a0_0 a0_1 a0_2 _ _ l0_3 _ _ l0_4 _ _ l0_5 a1_0 a1_1 _ _ l1_2 _ _ l1_3 _ _ l1_4 ((rd_T48 l0_3 x11_1).f0) t334 _ ?side1 ?side2 ?side3 ?side4 ?side5 ?side6 ?side7 ?side8 ?side9 ?side10 ?side11 ?side12 A11.out).mono ?_
       (case side1 => exact CB_ HR0_3)
       (case side2 => exact HC0_3.out)
       (case side3 => exact CB_ HR0_4)
       (case side4 => exact HC0_4.out)
       (case side5 => exact CB_ HR0_5)
       (case side6 => exact HC0_5.out)
       (case side7 => exact CB_ HR1_2)
       (case side8 => exact HC1_2.out)
       (case side9 => exact CB_ HR1_3)
       (case side10 => exact HC1_3.out)
       (case side11 => exact CB_ HR1_4)
       (case side12 => exact HC1_4.out)
       rintro e w36 ⟨rfl, hb⟩
       refine ⟨_, rfl, ?_⟩
       have n0_ := Aside0.mk (Kd.R_below (R_ HO_5) hb)
       have n1_ := Aside0.mk (blk_below (K_ BK329) hb)
       have n2_ := Aside0.mk (blk_below (K_ BK330) hb)
       have n3_ := Aside0.mk (blk_below (K_ BK332) hb)
       have n4_ := Aside0.mk (below_step bl_ hb)
       clear HO_5
       clear BK329
       clear BK330
       clear BK332
       clear HB
       have HO_5 := n0_
       have BK329 := n1_
       have BK330 := n2_
       have BK332 := n3_
       have HB := n4_
       clear n0_ n1_ n2_ n3_ n4_
       refine hK.out _ _ ⟨(blk_cell BK329.out 0).trans rfl, (blk_cell BK329.out 1).trans rfl, (blk_cell BK329.out 2).trans rfl, (blk_cell BK329.out 3).trans rfl, (blk_cell BK329.out 4).trans rfl, (blk_cell BK329.out 5).trans rfl, (blk_cell BK330.out 0).trans rfl, (blk_cell BK330.out 1).trans rfl, (blk_cell BK330.out 2).trans rfl, (blk_cell BK330.out 3).trans rfl, (blk_cell BK330.out 4).trans rfl, (blk_cell BK332.out 0).trans rfl, (blk_cell BK332.out 1).trans rfl, (blk_cell BK332.out 2).trans rfl, (blk_cell BK332.out 3).trans rfl⟩ (fun hHeld => ?_)
       clear hK K
       refine no_ 28 ?_
       refine pu_ 10 29 HT_ ?_
       refine on_ 14 (some 33) HT_ (fun K hK => ?_)
       refine gs_ Try.func31 #[.agg #[.int .i64 ((rd_T48 l0_3 x11_1).f0), .int .i64 ((rd_T48 l0_3 x11_1).f1), .int .i64 ((rd_T48 l0_3 x11_1).f2), .int .i64 ((rd_T48 l0_3 x11_1).f3)], .int .i64 a1_0] ?_
       with_reducible refine (jacquardref28_Weight.calls ((rd_T48 l0_3 x11_1).f0) ((rd_T48 l0_3 x11_1).f1) ((rd_T48 l0_3 x11_1).f2) ((rd_T48 l0_3 x11_1).f3) a1_0 t335 _ A12.out).mono ?_
       rintro e w37 ⟨rfl, hb⟩
       refine ⟨_, rfl, ?_⟩
       have n0_ := Aside0.mk (Kd.R_below (R_ HO_5) hb)
       have n1_ := Aside0.mk (blk_below (K_ BK329) hb)
       have n2_ := Aside0.mk (blk_below (K_ BK330) hb)
       have n3_ := Aside0.mk (blk_below (K_ BK332) hb)
       have n4_ := Aside0.mk (below_step bl_ hb)
       clear HO_5
       clear BK329
       clear BK330
       clear BK332
       clear HB
       have HO_5 := n0_
       have BK329 := n1_
       have BK330 := n2_
       have BK332 := n3_
       have HB := n4_
       clear n0_ n1_ n2_ n3_ n4_
       refine hK.out _ _ ⟨(blk_cell BK329.out 0).trans rfl, (blk_cell BK329.out 1).trans rfl, (blk_cell BK329.out 2).trans rfl, (blk_cell BK329.out 3).trans rfl, (blk_cell BK329.out 4).trans rfl, (blk_cell BK329.out 5).trans rfl, (blk_cell BK330.out 0).trans rfl, (blk_cell BK330.out 1).trans rfl, (blk_cell BK330.out 2).trans rfl, (blk_cell BK330.out 3).trans rfl, (blk_cell BK330.out 4).trans rfl, (blk_cell BK332.out 0).trans rfl, (blk_cell BK332.out 1).trans rfl, (blk_cell BK332.out 2).trans rfl, (blk_cell BK332.out 3).trans rfl⟩ (fun hHeld => ?_)
       clear hK K
       refine no_ 33 ?_
       refine pu_ 15 34 HT_ ?_
       refine done_ (done_of HT_.out (by kernel_rfl)) ?_
       try go_wp2
       go_roundg k1
       case measure => have := HK1.out; omega
       case rel => exact ⟨(x5_1), (wrap64 (x11_1 + 1)), (by first | rfl | (simp; done) | (simp [*]; done)), H', ⟨by have := HK1.out; omega⟩, ⟨R_ HO_5⟩, ⟨K_ BK329⟩, ⟨K_ BK330⟩, ⟨bl_⟩⟩
     rw [if_neg c9] at H
     exact absurd H (by simp)
   rw [if_neg c8] at H
   exact absurd H (by simp)
 rw [if_neg c7] at H
 have c7b0 : decide (x11_1 < (l0_3.length : Int)) = false := decide_eq_false c7
 clear c7
 obtain rfl := Option.some.inj H
 go_wp2
 go_ret
 exact ⟨_, by first | rfl | (simp [errW_none, errW_some] <;> rfl) | (simp [*, errW_none, errW_some] <;> rfl), by (with_reducible repeat (first | apply Kd.R_alloc | apply Kd.R_drewN | apply Kd.R_drew)); exact HO_5.out, by repeat (first | (with_reducible first | exact HB.out | apply below_alloc | apply pw_below_drewN | apply below_drew1 | refine below_set ?_ GE329.out | refine below_set ?_ GE330.out) | exact HB.out)⟩
end Go.Proofs.Ytpmlbbglekaidaa.PAll
