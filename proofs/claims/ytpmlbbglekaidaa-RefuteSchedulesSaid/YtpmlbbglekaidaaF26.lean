-- Written for this claim by programs of this session (wip/print2 in its repo: a changed printer, a shortener, a packer). Lean checks it.
import Derived.Test.YtpmlbbglekaidaaP0
import Derived.Test.YtpmlbbglekaidaaF40
namespace Go.Proofs.Ytpmlbbglekaidaa.PAll
open Go.RowKit Go.Proofs.YtpmlbbglekaidaaW.PrintWords Go.Proofs.YtpmlbbglekaidaaW.PrintLast Go.Proofs.YtpmlbbglekaidaaW.PrintMore
attribute [local go_sem] max2_int min2_int max_two min_two max_three min_three max_four min_four   -- for this text's walks alone
set_option linter.unusedVariables false
set_option linter.unusedSimpArgs false

/-! ### jacquardref28_Clashes: function 26 -/
mutual
def jacquardref28_Clashes.l0 : Nat → List (S78) → Int → Int → Int → Int → Bool → List (S48) → List (S50) → List (S52) → Int → Int → List Int → List Int → List Int → Option ((List (S78)))
  | 0, _, _, _, _, _, _, _, _, _, _, _, _, _, _ => none
  | k + 1, x5, x9, x10, x360000, x360001, x360002, x360003, x360004, x360005, x361000, x361001, x361002, x361003, x361004 => if x10 < x9 then (jacquardref28_Clashes.l1 k x5 x10 x10 x9 x10 x360000 x360001 x360002 x360003 x360004 x360005 x361000 x361001 x361002 x361003 x361004) else (some x5)
def jacquardref28_Clashes.l1 : Nat → List (S78) → Int → Int → Int → Int → Int → Int → Bool → List (S48) → List (S50) → List (S52) → Int → Int → List Int → List Int → List Int → Option ((List (S78)))
  | 0, _, _, _, _, _, _, _, _, _, _, _, _, _, _, _, _ => none
  | k + 1, x5, x6, x7, x9, x10, x360000, x360001, x360002, x360003, x360004, x360005, x361000, x361001, x361002, x361003, x361004 => if x7 < x360000 then ((jacquardref28_Clash.f k x360000 x360001 x360002 x360003 x360004 x360005 x361000 x361001 x361002 x361003 x361004 x6 x7).bind fun t361 => (if t361 = true then (if x5.length < 8796093022208 then (jacquardref28_Clashes.l1 k (x5 ++ [(⟨x6, x7⟩ : S78)]) x6 (wrap64 (x7 + 1)) x9 x10 x360000 x360001 x360002 x360003 x360004 x360005 x361000 x361001 x361002 x361003 x361004) else (none)) else (jacquardref28_Clashes.l1 k x5 x6 (wrap64 (x7 + 1)) x9 x10 x360000 x360001 x360002 x360003 x360004 x360005 x361000 x361001 x361002 x361003 x361004))) else (jacquardref28_Clashes.l0 k x5 x9 (wrap64 (x10 + 1)) x360000 x360001 x360002 x360003 x360004 x360005 x361000 x361001 x361002 x361003 x361004)
end
def jacquardref28_Clashes.f (k : Nat) (a0_0 : Int) (a0_1 : Int) (a0_2 : Bool) (l0_3 : List (S48)) (l0_4 : List (S50)) (l0_5 : List (S52)) (a1_0 : Int) (a1_1 : Int) (l1_2 : List Int) (l1_3 : List Int) (l1_4 : List Int) : Option ((List (S78))) := jacquardref28_Clashes.l0 k ([] : List (S78)) a0_0 0 a0_0 a0_1 a0_2 l0_3 l0_4 l0_5 a1_0 a1_1 l1_2 l1_3 l1_4
theorem jacquardref28_Clashes.mono_l : ∀ k, (∀ y0 y1 y2 y3 y4 y5 y6 y7 y8 y9 y10 y11 y12 y13, LeO (jacquardref28_Clashes.l0 k y0 y1 y2 y3 y4 y5 y6 y7 y8 y9 y10 y11 y12 y13) (jacquardref28_Clashes.l0 (k + 1) y0 y1 y2 y3 y4 y5 y6 y7 y8 y9 y10 y11 y12 y13)) ∧ (∀ y0 y1 y2 y3 y4 y5 y6 y7 y8 y9 y10 y11 y12 y13 y14 y15, LeO (jacquardref28_Clashes.l1 k y0 y1 y2 y3 y4 y5 y6 y7 y8 y9 y10 y11 y12 y13 y14 y15) (jacquardref28_Clashes.l1 (k + 1) y0 y1 y2 y3 y4 y5 y6 y7 y8 y9 y10 y11 y12 y13 y14 y15))
  | 0 => by refine ⟨?_, ?_⟩ <;> intros <;> intro r h <;> simp [jacquardref28_Clashes.l0, jacquardref28_Clashes.l1] at h
  | k + 1 => by
    obtain ⟨ih0, ih1⟩ := jacquardref28_Clashes.mono_l k
    refine ⟨?_, ?_⟩ <;> intros <;> (first | unfold jacquardref28_Clashes.l0 | unfold jacquardref28_Clashes.l1) <;> repeat' first | (with_reducible first | apply ih0 | apply ih1 | apply jacquardref28_Clash.mono | exact LeO.refl _ | exact LeO.none _ | refine LeO.ite ?_ ?_ | refine LeO.bind ?_ (fun _ => ?_)) | apply ih0 | apply ih1 | apply jacquardref28_Clash.mono | exact LeO.none _ | refine LeO.ite ?_ ?_ | refine LeO.bind ?_ (fun _ => ?_)
theorem jacquardref28_Clashes.mono : ∀ a0 a1 a2 a3 a4 a5 a6 a7 a8 a9 a10 k, LeO (jacquardref28_Clashes.f k a0 a1 a2 a3 a4 a5 a6 a7 a8 a9 a10) (jacquardref28_Clashes.f (k + 1) a0 a1 a2 a3 a4 a5 a6 a7 a8 a9 a10) := by
 intro a0 a1 a2 a3 a4 a5 a6 a7 a8 a9 a10 k
 obtain ⟨ih0, ih1⟩ := jacquardref28_Clashes.mono_l k
 unfold jacquardref28_Clashes.f
 repeat' first | (with_reducible first | apply ih0 | apply ih1 | apply jacquardref28_Clash.mono | exact LeO.refl _ | exact LeO.none _ | refine LeO.ite ?_ ?_ | refine LeO.bind ?_ (fun _ => ?_)) | apply ih0 | apply ih1 | apply jacquardref28_Clash.mono | exact LeO.none _ | refine LeO.ite ?_ ?_ | refine LeO.bind ?_ (fun _ => ?_)
set_option maxHeartbeats 8000000 in
set_option maxRecDepth 100000 in
theorem jacquardref28_Clashes.calls (k : Nat) (a0_0 : Int) (a0_1 : Int) (a0_2 : Bool) (A0_3 : Option Addr) (c0_3 : Nat) (l0_3 : List (S48)) (A0_4 : Option Addr) (c0_4 : Nat) (l0_4 : List (S50)) (A0_5 : Option Addr) (c0_5 : Nat) (l0_5 : List (S52)) (a1_0 : Int) (a1_1 : Int) (A1_2 : Option Addr) (c1_2 : Nat) (l1_2 : List Int) (A1_3 : Option Addr) (c1_3 : Nat) (l1_3 : List Int) (A1_4 : Option Addr) (c1_4 : Nat) (l1_4 : List Int) (r : List (S78)) (w : World) (hr0_3 : Kd.C k48 w A0_3 l0_3.length l0_3) (hc0_3 : l0_3.length ≤ c0_3) (hr0_4 : Kd.C k50 w A0_4 l0_4.length l0_4) (hc0_4 : l0_4.length ≤ c0_4) (hr0_5 : Kd.C k52 w A0_5 l0_5.length l0_5) (hc0_5 : l0_5.length ≤ c0_5) (hr1_2 : Kd.C (Kd.int .i64) w A1_2 l1_2.length l1_2) (hc1_2 : l1_2.length ≤ c1_2) (hr1_3 : Kd.C (Kd.int .i64) w A1_3 l1_3.length l1_3) (hc1_3 : l1_3.length ≤ c1_3) (hr1_4 : Kd.C (Kd.int .i64) w A1_4 l1_4.length l1_4) (hc1_4 : l1_4.length ≤ c1_4) (h : jacquardref28_Clashes.f k a0_0 a0_1 a0_2 l0_3 l0_4 l0_5 a1_0 a1_1 l1_2 l1_3 l1_4 = some r) :
    Calls Try.prog 26 #[.agg #[.int .i64 a0_0, .int .i64 a0_1, .bool a0_2, .slice A0_3 l0_3.length c0_3, .slice A0_4 l0_4.length c0_4, .slice A0_5 l0_5.length c0_5], .agg #[.int .i64 a1_0, .int .i64 a1_1, .slice A1_2 l1_2.length c1_2, .slice A1_3 l1_3.length c1_3, .slice A1_4 l1_4.length c1_4]] w fun e w' => ∃ v0_ : Value, e = .returned (v0_) ∧ Kd.R k78 78 w' w.heap.size (fun _ => True) v0_ r ∧ Below w.heap.size w w' := by
 have hu26 := Try.underlying26
 have hu35 := Try.underlying35
 have hu78 := Try.underlying78
 have HR0_3 := Aside0.mk hr0_3
 have HC0_3 := Aside0.mk hc0_3
 clear hr0_3 hc0_3
 have HR0_4 := Aside0.mk hr0_4
 have HC0_4 := Aside0.mk hc0_4
 clear hr0_4 hc0_4
 have HR0_5 := Aside0.mk hr0_5
 have HC0_5 := Aside0.mk hc0_5
 clear hr0_5 hc0_5
 have HR1_2 := Aside0.mk hr1_2
 have HC1_2 := Aside0.mk hc1_2
 clear hr1_2 hc1_2
 have HR1_3 := Aside0.mk hr1_3
 have HC1_3 := Aside0.mk hc1_3
 clear hr1_3 hc1_3
 have HR1_4 := Aside0.mk hr1_4
 have HC1_4 := Aside0.mk hc1_4
 clear hr1_4 hc1_4
 have HB := Aside0.mk (Below.refl w.heap.size w)
 have H : (jacquardref28_Clashes.l0 k ([] : List (S78)) a0_0 0 a0_0 a0_1 a0_2 l0_3 l0_4 l0_5 a1_0 a1_1 l1_2 l1_3 l1_4) = some r := h
 clear h
 have H' := Aside0.mk H
 clear H
 go_enter Try.func26, Try.ntmps26
 go_wp2_with (first | ((with_reducible refine gate_dst (N := 2) rfl ?_); refine box_event ?hg (N := 2) ?hd (cs := #[.int .i64 a0_0, .int .i64 a0_1, .bool a0_2, .slice A0_3 l0_3.length c0_3, .slice A0_4 l0_4.length c0_4, .slice A0_5 l0_5.length c0_5]) (t := 26) ?hr ?_; (case hd => rfl); (case hg => rfl); (case hr => first | (go_simp; done) | (go_simp; rfl)); intro gb359 hg w3 hbox hb; have n0_ := Aside0.mk (below_step bl_ hb); have n1_ := Aside0.mk (hbox); have n2_ := Aside0.mk (gl_ (w := w) hg); have n3_ := Aside0.mk (gl_ (w := w) hg); clear HB; have HB := n0_; have BK359 := n1_; have GW359 := n2_; have GE359 := n3_; clear n0_ n1_ n2_ n3_; clear hb hbox hg) | ((with_reducible refine gate_dst (N := 3) rfl ?_); refine box_event ?hg (N := 3) ?hd (cs := #[.int .i64 a1_0, .int .i64 a1_1, .slice A1_2 l1_2.length c1_2, .slice A1_3 l1_3.length c1_3, .slice A1_4 l1_4.length c1_4]) (t := 35) ?hr ?_; (case hd => rfl); (case hg => rfl); (case hr => first | (go_simp; done) | (go_simp; rfl)); intro gb360 hg w4 hbox hb; have n0_ := Aside0.mk (blk_below (K_ BK359) hb); have n1_ := Aside0.mk (below_step bl_ hb); have n2_ := Aside0.mk (hbox); have n3_ := Aside0.mk (gl_ (w := w) hg); have n4_ := Aside0.mk (gl_ (w := w) hg); have n5_ := Aside0.mk (nl_ hg (K_ BK359)); have n6_ := Aside0.mk (ng_ hg (K_ BK359)); clear BK359; clear HB; have BK359 := n0_; have HB := n1_; have BK360 := n2_; have GW360 := n3_; have GE360 := n4_; have NB359_360 := n5_; have NB360_359 := n6_; clear n0_ n1_ n2_ n3_ n4_ n5_ n6_; clear hb hbox hg; obtain ⟨hcz6_0, hcz6_1, hcz6_2, hcz6_3, hcz6_4, hcz6_5⟩ := cells6 BK359))
 go_loopg [5, 10] k (fun kq v5 v10 w' => ∃ (x5_1 : List (S78)) (x10_1 : Int), v10 = .int .i64 x10_1 ∧ Aside0 (jacquardref28_Clashes.l0 kq x5_1 a0_0 x10_1 a0_0 a0_1 a0_2 l0_3 l0_4 l0_5 a1_0 a1_1 l1_2 l1_3 l1_4 = some r) ∧ Aside0 (kq ≤ k) ∧ Aside0 (Kd.R k78 78 w' w.heap.size (fun _ => True) v5 x5_1) ∧ Aside0 (w'.heap[gb359]? = some (.cells #[.int .i64 a0_0, .int .i64 a0_1, .bool a0_2, (.slice A0_3 l0_3.length c0_3), (.slice A0_4 l0_4.length c0_4), (.slice A0_5 l0_5.length c0_5)] 26 (0, 0))) ∧ Aside0 (w'.heap[gb360]? = some (.cells #[.int .i64 a1_0, .int .i64 a1_1, (.slice A1_2 l1_2.length c1_2), (.slice A1_3 l1_3.length c1_3), (.slice A1_4 l1_4.length c1_4)] 35 (0, 0))) ∧ Aside0 (Below w.heap.size w w'))
 case atStart => exact ⟨(([] : List (S78))), (0), (by first | rfl | (simp; done) | (simp [*]; done)), H', ⟨Nat.le_refl _⟩, ⟨by first | exact Kd.R_nil _ _ _ _ _ | exact Kd.N_nil _ _ _ _ _ | exact Kd.V_nil _ _ _ _ _ | exact Kd.Q_nil _ _ _ _ _ | exact Kd.S_nil _ _ _ _ _⟩, ⟨K_ BK359⟩, ⟨K_ BK360⟩, ⟨bl_⟩⟩
 clear H'
 obtain ⟨x5_1, x10_1, rfl, HA, HK1, HO_5, BK359, BK360, HB⟩ := hrel
 cases gk with
 | zero => exact absurd HA.out (by simp [jacquardref28_Clashes.l0])
 | succ k1 => ?_
 have H := HA.out
 clear HA
 simp only [jacquardref28_Clashes.l0] at H
 by_cases c7 : x10_1 < a0_0
 · rw [if_pos c7] at H
   have c7b0 : decide (x10_1 < a0_0) = true := decide_eq_true c7
   clear c7
   have H' := Aside0.mk H
   clear H
   go_wp2
   go_loopg [5, 7] k1 (fun kq v5 v7 w' => ∃ (x5_2 : List (S78)) (x7_2 : Int), v7 = .int .i64 x7_2 ∧ Aside0 (jacquardref28_Clashes.l1 kq x5_2 x10_1 x7_2 a0_0 x10_1 a0_0 a0_1 a0_2 l0_3 l0_4 l0_5 a1_0 a1_1 l1_2 l1_3 l1_4 = some r) ∧ Aside0 (kq ≤ k1) ∧ Aside0 (Kd.R k78 78 w' w.heap.size (fun _ => True) v5 x5_2) ∧ Aside0 (w'.heap[gb359]? = some (.cells #[.int .i64 a0_0, .int .i64 a0_1, .bool a0_2, (.slice A0_3 l0_3.length c0_3), (.slice A0_4 l0_4.length c0_4), (.slice A0_5 l0_5.length c0_5)] 26 (0, 0))) ∧ Aside0 (w'.heap[gb360]? = some (.cells #[.int .i64 a1_0, .int .i64 a1_1, (.slice A1_2 l1_2.length c1_2), (.slice A1_3 l1_3.length c1_3), (.slice A1_4 l1_4.length c1_4)] 35 (0, 0))) ∧ Aside0 (Below w.heap.size w w'))
   case atStart => exact ⟨(x5_1), (x10_1), (by first | rfl | (simp; done) | (simp [*]; done)), H', ⟨Nat.le_refl _⟩, ⟨R_ HO_5⟩, ⟨K_ BK359⟩, ⟨K_ BK360⟩, ⟨bl_⟩⟩
   clear H'
   obtain ⟨x5_2, x7_2, rfl, HA, HK2, HO_5, BK359, BK360, HB⟩ := hrel
   cases gk with
   | zero => exact absurd HA.out (by simp [jacquardref28_Clashes.l1])
   | succ k2 => ?_
   have H := HA.out
   clear HA
   simp only [jacquardref28_Clashes.l1] at H
   by_cases c8 : x7_2 < a0_0
   · rw [if_pos c8] at H
     have c8b0 : decide (x7_2 < a0_0) = true := decide_eq_true c8
     clear c8
     replace H := Option.bind_eq_some_iff.mp H
     obtain ⟨t361, A90, H⟩ := H
     replace H : (if t361 = true then (if x5_2.length < 8796093022208 then (jacquardref28_Clashes.l1 k2 (x5_2 ++ [(⟨x10_1, x7_2⟩ : S78)]) x10_1 (wrap64 (x7_2 + 1)) a0_0 x10_1 a0_0 a0_1 a0_2 l0_3 l0_4 l0_5 a1_0 a1_1 l1_2 l1_3 l1_4) else (none)) else (jacquardref28_Clashes.l1 k2 x5_2 x10_1 (wrap64 (x7_2 + 1)) a0_0 x10_1 a0_0 a0_1 a0_2 l0_3 l0_4 l0_5 a1_0 a1_1 l1_2 l1_3 l1_4)) = some r := H
     have A9 := Aside0.mk A90
     clear A90
     by_cases c10 : t361 = true
     · subst c10
       have H1 : (if x5_2.length < 8796093022208 then (jacquardref28_Clashes.l1 k2 (x5_2 ++ [(⟨x10_1, x7_2⟩ : S78)]) x10_1 (wrap64 (x7_2 + 1)) a0_0 x10_1 a0_0 a0_1 a0_2 l0_3 l0_4 l0_5 a1_0 a1_1 l1_2 l1_3 l1_4) else (none)) = some r := by rw [if_pos rfl] at H; exact H
       clear H
       have H := H1
       clear H1
       by_cases c11 : x5_2.length < 8796093022208
       · rw [if_pos c11] at H
         have LMc11 := Aside0.mk c11
         clear c11
         obtain ⟨y362, hy362⟩ : ∃ y_ : List (S78), y_ = (x5_2 ++ [(⟨x10_1, x7_2⟩ : S78)]) := ⟨_, rfl⟩
         replace H : (jacquardref28_Clashes.l1 k2 y362 x10_1 (wrap64 (x7_2 + 1)) a0_0 x10_1 a0_0 a0_1 a0_2 l0_3 l0_4 l0_5 a1_0 a1_1 l1_2 l1_3 l1_4) = some r := by first | (rw [hy362]; with_reducible exact H) | (have H2_ := (Option.bind_some _ _).symm.trans H; rw [hy362]; with_reducible exact H2_) | (have H2_ := (Option.bind_some _ _).symm.trans H; with_reducible exact H2_) | with_reducible exact H | (rw [hy362]; exact H) | exact H
         have Ny362 := Aside0.mk hy362
         clear hy362
         have H' := Aside0.mk H
         clear H
         obtain ⟨hcz13_0, hcz13_1, hcz13_2, hcz13_3, hcz13_4, hcz13_5⟩ := cells6 BK359
         obtain ⟨hcz14_0, hcz14_1, hcz14_2, hcz14_3, hcz14_4⟩ := cells5 BK360
         go_wp2_with (first | ((with_reducible refine gate_callee (f := 40) rfl ?_); refine gL_ 24 Try.func40 #[.agg #[.int .i64 a0_0, .int .i64 a0_1, .bool a0_2, .slice A0_3 l0_3.length c0_3, .slice A0_4 l0_4.length c0_4, .slice A0_5 l0_5.length c0_5], .agg #[.int .i64 a1_0, .int .i64 a1_1, .slice A1_2 l1_2.length c1_2, .slice A1_3 l1_3.length c1_3, .slice A1_4 l1_4.length c1_4], .int .i64 x10_1, .int .i64 x7_2] ?_; (with_reducible refine (jacquardref28_Clash.calls k2 a0_0 a0_1 a0_2 _ _ l0_3 _ _ l0_4 _ _ l0_5 a1_0 a1_1 _ _ l1_2 _ _ l1_3 _ _ l1_4 x10_1 x7_2 true _ ?side1 ?side2 ?side3 ?side4 ?side5 ?side6 ?side7 ?side8 ?side9 ?side10 ?side11 ?side12 A9.out).mono ?_); (case side1 => exact CB_ HR0_3); (case side2 => exact HC0_3.out); (case side3 => exact CB_ HR0_4); (case side4 => exact HC0_4.out); (case side5 => exact CB_ HR0_5); (case side6 => exact HC0_5.out); (case side7 => exact CB_ HR1_2); (case side8 => exact HC1_2.out); (case side9 => exact CB_ HR1_3); (case side10 => exact HC1_3.out); (case side11 => exact CB_ HR1_4); (case side12 => exact HC1_4.out); rintro e w15 ⟨rfl, hb⟩; refine ⟨_, rfl, ?_⟩; have n0_ := Aside0.mk (Kd.R_below (R_ HO_5) hb); have n1_ := Aside0.mk (blk_below (K_ BK359) hb); have n2_ := Aside0.mk (blk_below (K_ BK360) hb); have n3_ := Aside0.mk (below_step bl_ hb); clear HO_5; clear BK359; clear BK360; clear HB; have HO_5 := n0_; have BK359 := n1_; have BK360 := n2_; have HB := n3_; clear n0_ n1_ n2_ n3_; (try clear hb); (try clear hb2); (try clear hk); (try clear hi)) | ((with_reducible refine gate_builtin (b := .append) (xs := #[.tmp 25, .tmp 29]) rfl ?_); at_builtin; refine Kd.R_append k78 (w0 := w) w.heap.size rfl (.tmp 25) (.tmp 29) 66 78 (.agg #[(.int .i64 0), (.int .i64 0)]) 16 rfl Try.underlying66 info78 rfl (by decide) (by omega) u5 x5_2 (⟨x10_1, x7_2⟩ : S78) [.int .i64 x10_1, .int .i64 x7_2] (fun _ => True) (fun _ => False) rfl rfl ?aP (fun _ hk => hk.elim) ?aF ?aO ?aB ?aS ?aL ?_; (case aP => exact k78_mkM _ _ _ (⟨x10_1, x7_2⟩ : S78)); (case aB => exact bl_); (case aF => exact (fun _ _ => trivial)); (case aO => exact (R_ HO_5)); (case aS => exact (below_size bl_)); (case aL => have := LMc11.out; omega); intro v363 w16 ho hb hg hat; rw [← Ny362.out] at ho; have n0_ := Aside0.mk (blk_grown (K_ BK359) hg (Kd.R_ne HO_5.out BK359.out (by decide))); have n1_ := Aside0.mk (blk_grown (K_ BK360) hg (Kd.R_ne HO_5.out BK360.out (by decide))); have n2_ := Aside0.mk (hb); have n3_ := Aside0.mk (ho); clear BK359; clear BK360; clear HB; clear HO_5; have BK359 := n0_; have BK360 := n1_; have HB := n2_; have HO364 := n3_; clear n0_ n1_ n2_ n3_; clear ho hb hg hat))
         go_roundg k2
         case measure => have := HK1.out; have := HK2.out; omega
         case rel => exact ⟨(y362), (wrap64 (x7_2 + 1)), (by first | rfl | (simp; done) | (simp [*]; done)), H', ⟨by have := HK1.out; have := HK2.out; omega⟩, ⟨R_ HO364⟩, ⟨K_ BK359⟩, ⟨K_ BK360⟩, ⟨bl_⟩⟩
       rw [if_neg c11] at H
       exact absurd H (by simp)
     replace c10 := Bool.eq_false_iff.mpr c10
     subst c10
     have H1 : (jacquardref28_Clashes.l1 k2 x5_2 x10_1 (wrap64 (x7_2 + 1)) a0_0 x10_1 a0_0 a0_1 a0_2 l0_3 l0_4 l0_5 a1_0 a1_1 l1_2 l1_3 l1_4) = some r := by rw [if_neg (show ¬ (false = true) by decide)] at H; exact H
     clear H
     have H := H1
     clear H1
     have H' := Aside0.mk H
     clear H
     obtain ⟨hcz18_0, hcz18_1, hcz18_2, hcz18_3, hcz18_4, hcz18_5⟩ := cells6 BK359
     obtain ⟨hcz19_0, hcz19_1, hcz19_2, hcz19_3, hcz19_4⟩ := cells5 BK360
     go_wp2_with (first | ((with_reducible refine gate_callee (f := 40) rfl ?_); refine gL_ 24 Try.func40 #[.agg #[.int .i64 a0_0, .int .i64 a0_1, .bool a0_2, .slice A0_3 l0_3.length c0_3, .slice A0_4 l0_4.length c0_4, .slice A0_5 l0_5.length c0_5], .agg #[.int .i64 a1_0, .int .i64 a1_1, .slice A1_2 l1_2.length c1_2, .slice A1_3 l1_3.length c1_3, .slice A1_4 l1_4.length c1_4], .int .i64 x10_1, .int .i64 x7_2] ?_; (with_reducible refine (jacquardref28_Clash.calls k2 a0_0 a0_1 a0_2 _ _ l0_3 _ _ l0_4 _ _ l0_5 a1_0 a1_1 _ _ l1_2 _ _ l1_3 _ _ l1_4 x10_1 x7_2 false _ ?side1 ?side2 ?side3 ?side4 ?side5 ?side6 ?side7 ?side8 ?side9 ?side10 ?side11 ?side12 A9.out).mono ?_); (case side1 => exact CB_ HR0_3); (case side2 => exact HC0_3.out); (case side3 => exact CB_ HR0_4); (case side4 => exact HC0_4.out); (case side5 => exact CB_ HR0_5); (case side6 => exact HC0_5.out); (case side7 => exact CB_ HR1_2); (case side8 => exact HC1_2.out); (case side9 => exact CB_ HR1_3); (case side10 => exact HC1_3.out); (case side11 => exact CB_ HR1_4); (case side12 => exact HC1_4.out); rintro e w20 ⟨rfl, hb⟩; refine ⟨_, rfl, ?_⟩; have n0_ := Aside0.mk (Kd.R_below (R_ HO_5) hb); have n1_ := Aside0.mk (blk_below (K_ BK359) hb); have n2_ := Aside0.mk (blk_below (K_ BK360) hb); have n3_ := Aside0.mk (below_step bl_ hb); clear HO_5; clear BK359; clear BK360; clear HB; have HO_5 := n0_; have BK359 := n1_; have BK360 := n2_; have HB := n3_; clear n0_ n1_ n2_ n3_; (try clear hb); (try clear hb2); (try clear hk); (try clear hi)))
     go_roundg k2
     case measure => have := HK1.out; have := HK2.out; omega
     case rel => exact ⟨(x5_2), (wrap64 (x7_2 + 1)), (by first | rfl | (simp; done) | (simp [*]; done)), H', ⟨by have := HK1.out; have := HK2.out; omega⟩, ⟨R_ HO_5⟩, ⟨K_ BK359⟩, ⟨K_ BK360⟩, ⟨bl_⟩⟩
   rw [if_neg c8] at H
   have c8b0 : decide (x7_2 < a0_0) = false := decide_eq_false c8
   clear c8
   have H' := Aside0.mk H
   clear H
   obtain ⟨hcz22_0, hcz22_1, hcz22_2, hcz22_3, hcz22_4, hcz22_5⟩ := cells6 BK359
   go_wp2
   go_roundg k2
   case measure => have := HK1.out; have := HK2.out; omega
   case rel => exact ⟨(x5_2), (wrap64 (x10_1 + 1)), (by first | rfl | (simp; done) | (simp [*]; done)), H', ⟨by have := HK1.out; have := HK2.out; omega⟩, ⟨R_ HO_5⟩, ⟨K_ BK359⟩, ⟨K_ BK360⟩, ⟨bl_⟩⟩
 rw [if_neg c7] at H
 have c7b0 : decide (x10_1 < a0_0) = false := decide_eq_false c7
 clear c7
 obtain rfl := Option.some.inj H
 go_wp2
 go_ret
 exact ⟨_, by first | rfl | (simp [errW_none, errW_some] <;> rfl) | (simp [*, errW_none, errW_some] <;> rfl), by (with_reducible repeat (first | apply Kd.R_alloc | apply Kd.R_drewN | apply Kd.R_drew)); exact HO_5.out, by repeat (first | (with_reducible first | exact HB.out | apply below_alloc | apply pw_below_drewN | apply below_drew1 | refine below_set ?_ GE359.out | refine below_set ?_ GE360.out) | exact HB.out)⟩
end Go.Proofs.Ytpmlbbglekaidaa.PAll
