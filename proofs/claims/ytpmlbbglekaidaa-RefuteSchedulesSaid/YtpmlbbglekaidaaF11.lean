-- Written for this claim by programs of this session (wip/print2 in its repo: a changed printer, a shortener, a packer). Lean checks it.
import Derived.Test.YtpmlbbglekaidaaP0
import Derived.Test.YtpmlbbglekaidaaF24
import Derived.Test.YtpmlbbglekaidaaF25
import Derived.Test.YtpmlbbglekaidaaF26
namespace Go.Proofs.Ytpmlbbglekaidaa.PAll
open Go.RowKit Go.Proofs.YtpmlbbglekaidaaW.PrintWords Go.Proofs.YtpmlbbglekaidaaW.PrintLast Go.Proofs.YtpmlbbglekaidaaW.PrintMore
attribute [local go_sem] max2_int min2_int max_two min_two max_three min_three max_four min_four   -- for this text's walks alone
set_option linter.unusedVariables false
set_option linter.unusedSimpArgs false

/-! ### jacquardref28_Legal: function 11 -/
mutual
def jacquardref28_Legal.j0 : Nat → Bool → Int → Int → Bool → List (S48) → List (S50) → List (S52) → Int → Int → List Int → List Int → List Int → Option (Bool)
  | 0, _, _, _, _, _, _, _, _, _, _, _, _ => none
  | k + 1, x16, x366000, x366001, x366002, x366003, x366004, x366005, x367000, x367001, x367002, x367003, x367004 => if x16 = true then (some false) else (jacquardref28_Legal.l0 k (x367003.length : Int) 0 x366000 x366001 x366002 x366003 x366004 x366005 x367000 x367001 x367002 x367003 x367004)
def jacquardref28_Legal.l0 : Nat → Int → Int → Int → Int → Bool → List (S48) → List (S50) → List (S52) → Int → Int → List Int → List Int → List Int → Option (Bool)
  | 0, _, _, _, _, _, _, _, _, _, _, _, _, _ => none
  | k + 1, x19, x20, x366000, x366001, x366002, x366003, x366004, x366005, x367000, x367001, x367002, x367003, x367004 => if x20 < x19 then (if x366002 = true then (jacquardref28_Legal.j2 k x19 x20 false x366000 x366001 x366002 x366003 x366004 x366005 x367000 x367001 x367002 x367003 x367004) else (if 0 ≤ x20 then (if x20 < (x367003.length : Int) then (jacquardref28_Legal.j2 k x19 x20 ((rd x367003 x20) != 0) x366000 x366001 x366002 x366003 x366004 x366005 x367000 x367001 x367002 x367003 x367004) else (none)) else (none))) else ((jacquardref28_Late.f k x366000 x366001 x366002 x366003 x366004 x366005 x367000 x367001 x367002 x367003 x367004).bind fun t369 => (if (t369.length : Int) = 0 then ((jacquardref28_Clashes.f k x366000 x366001 x366002 x366003 x366004 x366005 x367000 x367001 x367002 x367003 x367004).bind fun t372 => (some ((t372.length : Int) == 0))) else (some false)))
def jacquardref28_Legal.j2 : Nat → Int → Int → Bool → Int → Int → Bool → List (S48) → List (S50) → List (S52) → Int → Int → List Int → List Int → List Int → Option (Bool)
  | 0, _, _, _, _, _, _, _, _, _, _, _, _, _, _ => none
  | k + 1, x19, x20, x33, x366000, x366001, x366002, x366003, x366004, x366005, x367000, x367001, x367002, x367003, x367004 => if x33 = true then (some false) else (jacquardref28_Legal.l0 k x19 (wrap64 (x20 + 1)) x366000 x366001 x366002 x366003 x366004 x366005 x367000 x367001 x367002 x367003 x367004)
end
def jacquardref28_Legal.f (k : Nat) (a0_0 : Int) (a0_1 : Int) (a0_2 : Bool) (l0_3 : List (S48)) (l0_4 : List (S50)) (l0_5 : List (S52)) (a1_0 : Int) (a1_1 : Int) (l1_2 : List Int) (l1_3 : List Int) (l1_4 : List Int) : Option (Bool) := (jacquardref28_Fits.f k a0_0 a0_1 a0_2 l0_3 l0_4 l0_5 a1_0 a1_1 l1_2 l1_3 l1_4).bind fun t367 => (if t367 = true then (jacquardref28_Legal.j0 k (decide (a1_1 < a1_0)) a0_0 a0_1 a0_2 l0_3 l0_4 l0_5 a1_0 a1_1 l1_2 l1_3 l1_4) else (jacquardref28_Legal.j0 k true a0_0 a0_1 a0_2 l0_3 l0_4 l0_5 a1_0 a1_1 l1_2 l1_3 l1_4))
theorem jacquardref28_Legal.mono_l : ∀ k, (∀ y0 y1 y2 y3 y4 y5 y6 y7 y8 y9 y10 y11, LeO (jacquardref28_Legal.j0 k y0 y1 y2 y3 y4 y5 y6 y7 y8 y9 y10 y11) (jacquardref28_Legal.j0 (k + 1) y0 y1 y2 y3 y4 y5 y6 y7 y8 y9 y10 y11)) ∧ (∀ y0 y1 y2 y3 y4 y5 y6 y7 y8 y9 y10 y11 y12, LeO (jacquardref28_Legal.l0 k y0 y1 y2 y3 y4 y5 y6 y7 y8 y9 y10 y11 y12) (jacquardref28_Legal.l0 (k + 1) y0 y1 y2 y3 y4 y5 y6 y7 y8 y9 y10 y11 y12)) ∧ (∀ y0 y1 y2 y3 y4 y5 y6 y7 y8 y9 y10 y11 y12 y13, LeO (jacquardref28_Legal.j2 k y0 y1 y2 y3 y4 y5 y6 y7 y8 y9 y10 y11 y12 y13) (jacquardref28_Legal.j2 (k + 1) y0 y1 y2 y3 y4 y5 y6 y7 y8 y9 y10 y11 y12 y13))
  | 0 => by refine ⟨?_, ?_, ?_⟩ <;> intros <;> intro r h <;> simp [jacquardref28_Legal.j0, jacquardref28_Legal.l0, jacquardref28_Legal.j2] at h
  | k + 1 => by
    obtain ⟨ih0, ih1, ih2⟩ := jacquardref28_Legal.mono_l k
    refine ⟨?_, ?_, ?_⟩ <;> intros <;> (first | unfold jacquardref28_Legal.j0 | unfold jacquardref28_Legal.l0 | unfold jacquardref28_Legal.j2) <;> repeat' first | (with_reducible first | apply ih0 | apply ih1 | apply ih2 | apply jacquardref28_Clashes.mono | apply jacquardref28_Fits.mono | apply jacquardref28_Late.mono | exact LeO.refl _ | exact LeO.none _ | refine LeO.ite ?_ ?_ | refine LeO.bind ?_ (fun _ => ?_)) | apply ih0 | apply ih1 | apply ih2 | apply jacquardref28_Clashes.mono | apply jacquardref28_Fits.mono | apply jacquardref28_Late.mono | exact LeO.none _ | refine LeO.ite ?_ ?_ | refine LeO.bind ?_ (fun _ => ?_)
theorem jacquardref28_Legal.mono : ∀ a0 a1 a2 a3 a4 a5 a6 a7 a8 a9 a10 k, LeO (jacquardref28_Legal.f k a0 a1 a2 a3 a4 a5 a6 a7 a8 a9 a10) (jacquardref28_Legal.f (k + 1) a0 a1 a2 a3 a4 a5 a6 a7 a8 a9 a10) := by
 intro a0 a1 a2 a3 a4 a5 a6 a7 a8 a9 a10 k
 obtain ⟨ih0, ih1, ih2⟩ := jacquardref28_Legal.mono_l k
 unfold jacquardref28_Legal.f
 repeat' first | (with_reducible first | apply ih0 | apply ih1 | apply ih2 | apply jacquardref28_Clashes.mono | apply jacquardref28_Fits.mono | apply jacquardref28_Late.mono | exact LeO.refl _ | exact LeO.none _ | refine LeO.ite ?_ ?_ | refine LeO.bind ?_ (fun _ => ?_)) | apply ih0 | apply ih1 | apply ih2 | apply jacquardref28_Clashes.mono | apply jacquardref28_Fits.mono | apply jacquardref28_Late.mono | exact LeO.none _ | refine LeO.ite ?_ ?_ | refine LeO.bind ?_ (fun _ => ?_)
set_option maxHeartbeats 8000000 in
set_option maxRecDepth 100000 in
theorem jacquardref28_Legal.calls (k : Nat) (a0_0 : Int) (a0_1 : Int) (a0_2 : Bool) (A0_3 : Option Addr) (c0_3 : Nat) (l0_3 : List (S48)) (A0_4 : Option Addr) (c0_4 : Nat) (l0_4 : List (S50)) (A0_5 : Option Addr) (c0_5 : Nat) (l0_5 : List (S52)) (a1_0 : Int) (a1_1 : Int) (A1_2 : Option Addr) (c1_2 : Nat) (l1_2 : List Int) (A1_3 : Option Addr) (c1_3 : Nat) (l1_3 : List Int) (A1_4 : Option Addr) (c1_4 : Nat) (l1_4 : List Int) (r : Bool) (w : World) (hr0_3 : Kd.C k48 w A0_3 l0_3.length l0_3) (hc0_3 : l0_3.length ≤ c0_3) (hr0_4 : Kd.C k50 w A0_4 l0_4.length l0_4) (hc0_4 : l0_4.length ≤ c0_4) (hr0_5 : Kd.C k52 w A0_5 l0_5.length l0_5) (hc0_5 : l0_5.length ≤ c0_5) (hr1_2 : Kd.C (Kd.int .i64) w A1_2 l1_2.length l1_2) (hc1_2 : l1_2.length ≤ c1_2) (hr1_3 : Kd.C (Kd.int .i64) w A1_3 l1_3.length l1_3) (hc1_3 : l1_3.length ≤ c1_3) (hr1_4 : Kd.C (Kd.int .i64) w A1_4 l1_4.length l1_4) (hc1_4 : l1_4.length ≤ c1_4) (h : jacquardref28_Legal.f k a0_0 a0_1 a0_2 l0_3 l0_4 l0_5 a1_0 a1_1 l1_2 l1_3 l1_4 = some r) :
    Calls Try.prog 11 #[.agg #[.int .i64 a0_0, .int .i64 a0_1, .bool a0_2, .slice A0_3 l0_3.length c0_3, .slice A0_4 l0_4.length c0_4, .slice A0_5 l0_5.length c0_5], .agg #[.int .i64 a1_0, .int .i64 a1_1, .slice A1_2 l1_2.length c1_2, .slice A1_3 l1_3.length c1_3, .slice A1_4 l1_4.length c1_4]] w fun e w' => e = .returned (.bool r) ∧ Below w.heap.size w w' := by
 have hu26 := Try.underlying26
 have hu35 := Try.underlying35
 have HR0_3 := Aside0.mk hr0_3
 have HC0_3 := Aside0.mk hc0_3
 clear hr0_3 hc0_3
 have HR0_4 := Aside0.mk hr0_4
 have HC0_4 := Aside0.mk hc0_4
 clear hr0_4 hc0_4
 have HR0_5 := Aside0.mk hr0_5
 have HC0_5 := Aside0.mk hc0_5
 clear hr0_5 hc0_5
 have HR1_2 := Aside0.mk hr1_2
 have HC1_2 := Aside0.mk hc1_2
 clear hr1_2 hc1_2
 have HR1_3 := Aside0.mk hr1_3
 have HC1_3 := Aside0.mk hc1_3
 clear hr1_3 hc1_3
 have HR1_4 := Aside0.mk hr1_4
 have HC1_4 := Aside0.mk hc1_4
 clear hr1_4 hc1_4
 have HB := Aside0.mk (Below.refl w.heap.size w)
 have H : ((jacquardref28_Fits.f k a0_0 a0_1 a0_2 l0_3 l0_4 l0_5 a1_0 a1_1 l1_2 l1_3 l1_4).bind fun t367 => (if t367 = true then (jacquardref28_Legal.j0 k (decide (a1_1 < a1_0)) a0_0 a0_1 a0_2 l0_3 l0_4 l0_5 a1_0 a1_1 l1_2 l1_3 l1_4) else (jacquardref28_Legal.j0 k true a0_0 a0_1 a0_2 l0_3 l0_4 l0_5 a1_0 a1_1 l1_2 l1_3 l1_4))) = some r := h
 clear h
 have HC3 := Aside0.mk H
 clear H
 go_enter Try.func11, Try.ntmps11
 go_upto_region 1 with (first | ((with_reducible refine gate_dst (N := 2) rfl ?_); (try (refine gate_guard (by rfl) ?_; dsimp only)); refine box_event ?hg (N := 2) ?hd (cs := #[.int .i64 a0_0, .int .i64 a0_1, .bool a0_2, .slice A0_3 l0_3.length c0_3, .slice A0_4 l0_4.length c0_4, .slice A0_5 l0_5.length c0_5]) (t := 26) ?hr ?_; (case hd => rfl); (case hg => rfl); (case hr => first | (go_simp; done) | (go_simp; rfl)); intro gb365 hg w4 hbox hb; have n0_ := Aside0.mk (below_step bl_ hb); have n1_ := Aside0.mk (hbox); have n2_ := Aside0.mk (gl_ (w := w) hg); have n3_ := Aside0.mk (gl_ (w := w) hg); clear HB; have HB := n0_; have BK365 := n1_; have GW365 := n2_; have GE365 := n3_; clear n0_ n1_ n2_ n3_; clear hb hbox hg) | ((with_reducible refine gate_dst (N := 3) rfl ?_); (try (refine gate_guard (by rfl) ?_; dsimp only)); refine box_event ?hg (N := 3) ?hd (cs := #[.int .i64 a1_0, .int .i64 a1_1, .slice A1_2 l1_2.length c1_2, .slice A1_3 l1_3.length c1_3, .slice A1_4 l1_4.length c1_4]) (t := 35) ?hr ?_; (case hd => rfl); (case hg => rfl); (case hr => first | (go_simp; done) | (go_simp; rfl)); intro gb366 hg w5 hbox hb; have n0_ := Aside0.mk (blk_below (K_ BK365) hb); have n1_ := Aside0.mk (below_step bl_ hb); have n2_ := Aside0.mk (hbox); have n3_ := Aside0.mk (gl_ (w := w) hg); have n4_ := Aside0.mk (gl_ (w := w) hg); have n5_ := Aside0.mk (nl_ hg (K_ BK365)); have n6_ := Aside0.mk (ng_ hg (K_ BK365)); clear BK365; clear HB; have BK365 := n0_; have HB := n1_; have BK366 := n2_; have GW366 := n3_; have GE366 := n4_; have NB365_366 := n5_; have NB366_365 := n6_; clear n0_ n1_ n2_ n3_ n4_ n5_ n6_; clear hb hbox hg))
 (try simp only [Act.put, List.setIfInBounds_toArray, List.set_cons_zero, List.set_cons_succ])
 go_cut [16] (fun v16 wc => ∃ (kq : Nat) (x16_2 : Bool), v16 = .bool x16_2 ∧ Aside0 (jacquardref28_Legal.j0 kq x16_2 a0_0 a0_1 a0_2 l0_3 l0_4 l0_5 a1_0 a1_1 l1_2 l1_3 l1_4 = some r) ∧ Aside0 (kq ≤ k) ∧ Aside0 (wc.heap[gb365]? = some (.cells #[.int .i64 a0_0, .int .i64 a0_1, .bool a0_2, (.slice A0_3 l0_3.length c0_3), (.slice A0_4 l0_4.length c0_4), (.slice A0_5 l0_5.length c0_5)] 26 (0, 0))) ∧ Aside0 (wc.heap[gb366]? = some (.cells #[.int .i64 a1_0, .int .i64 a1_1, (.slice A1_2 l1_2.length c1_2), (.slice A1_3 l1_3.length c1_3), (.slice A1_4 l1_4.length c1_4)] 35 (0, 0))) ∧ Aside0 (Below w.heap.size w wc))
 case first =>
  have H := HC3.out
  clear HC3
  replace H := Option.bind_eq_some_iff.mp H
  obtain ⟨t367, A60, H⟩ := H
  replace H : (if t367 = true then (jacquardref28_Legal.j0 k (decide (a1_1 < a1_0)) a0_0 a0_1 a0_2 l0_3 l0_4 l0_5 a1_0 a1_1 l1_2 l1_3 l1_4) else (jacquardref28_Legal.j0 k true a0_0 a0_1 a0_2 l0_3 l0_4 l0_5 a1_0 a1_1 l1_2 l1_3 l1_4)) = some r := H
  have A6 := Aside0.mk A60
  clear A60
  by_cases c7 : t367 = true
  · subst c7
    have H1 : (jacquardref28_Legal.j0 k (decide (a1_1 < a1_0)) a0_0 a0_1 a0_2 l0_3 l0_4 l0_5 a1_0 a1_1 l1_2 l1_3 l1_4) = some r := by rw [if_pos rfl] at H; exact H
    clear H
    have H := H1
    clear H1
    have H' := Aside0.mk H
    clear H
    obtain ⟨hcz9_0, hcz9_1, hcz9_2, hcz9_3, hcz9_4, hcz9_5⟩ := cells6 BK365
    obtain ⟨hcz10_0, hcz10_1, hcz10_2, hcz10_3, hcz10_4⟩ := cells5 BK366
    go_wp2_with (first | ((with_reducible refine gate_callee (f := 24) rfl ?_); refine gL_ 8 Try.func24 #[.agg #[.int .i64 a0_0, .int .i64 a0_1, .bool a0_2, .slice A0_3 l0_3.length c0_3, .slice A0_4 l0_4.length c0_4, .slice A0_5 l0_5.length c0_5], .agg #[.int .i64 a1_0, .int .i64 a1_1, .slice A1_2 l1_2.length c1_2, .slice A1_3 l1_3.length c1_3, .slice A1_4 l1_4.length c1_4]] ?_; (with_reducible refine (jacquardref28_Fits.calls k a0_0 a0_1 a0_2 _ _ l0_3 _ _ l0_4 _ _ l0_5 a1_0 a1_1 _ _ l1_2 _ _ l1_3 _ _ l1_4 true _ ?side1 ?side2 ?side3 ?side4 ?side5 ?side6 ?side7 ?side8 ?side9 ?side10 ?side11 ?side12 A6.out).mono ?_); (case side1 => exact CB_ HR0_3); (case side2 => exact HC0_3.out); (case side3 => exact CB_ HR0_4); (case side4 => exact HC0_4.out); (case side5 => exact CB_ HR0_5); (case side6 => exact HC0_5.out); (case side7 => exact CB_ HR1_2); (case side8 => exact HC1_2.out); (case side9 => exact CB_ HR1_3); (case side10 => exact HC1_3.out); (case side11 => exact CB_ HR1_4); (case side12 => exact HC1_4.out); rintro e w11 ⟨rfl, hb⟩; refine ⟨_, rfl, ?_⟩; have n0_ := Aside0.mk (blk_below (K_ BK365) hb); have n1_ := Aside0.mk (blk_below (K_ BK366) hb); have n2_ := Aside0.mk (below_step bl_ hb); clear BK365; clear BK366; clear HB; have BK365 := n0_; have BK366 := n1_; have HB := n2_; clear n0_ n1_ n2_; (try clear hb); (try clear hb2); (try clear hk); (try clear hi); obtain ⟨hcz12_0, hcz12_1, hcz12_2, hcz12_3, hcz12_4⟩ := cells5 BK366))
    go_meet
    case rel => exact ⟨_, (decide (a1_1 < a1_0)), (by first | rfl | (simp; done) | (simp [*]; done)), H', ⟨by first | omega | exact Nat.le_refl _⟩, ⟨K_ BK365⟩, ⟨K_ BK366⟩, ⟨bl_⟩⟩
  replace c7 := Bool.eq_false_iff.mpr c7
  subst c7
  have H1 : (jacquardref28_Legal.j0 k true a0_0 a0_1 a0_2 l0_3 l0_4 l0_5 a1_0 a1_1 l1_2 l1_3 l1_4) = some r := by rw [if_neg (show ¬ (false = true) by decide)] at H; exact H
  clear H
  have H := H1
  clear H1
  have H' := Aside0.mk H
  clear H
  obtain ⟨hcz14_0, hcz14_1, hcz14_2, hcz14_3, hcz14_4, hcz14_5⟩ := cells6 BK365
  obtain ⟨hcz15_0, hcz15_1, hcz15_2, hcz15_3, hcz15_4⟩ := cells5 BK366
  go_wp2_with (first | ((with_reducible refine gate_callee (f := 24) rfl ?_); refine gL_ 8 Try.func24 #[.agg #[.int .i64 a0_0, .int .i64 a0_1, .bool a0_2, .slice A0_3 l0_3.length c0_3, .slice A0_4 l0_4.length c0_4, .slice A0_5 l0_5.length c0_5], .agg #[.int .i64 a1_0, .int .i64 a1_1, .slice A1_2 l1_2.length c1_2, .slice A1_3 l1_3.length c1_3, .slice A1_4 l1_4.length c1_4]] ?_; (with_reducible refine (jacquardref28_Fits.calls k a0_0 a0_1 a0_2 _ _ l0_3 _ _ l0_4 _ _ l0_5 a1_0 a1_1 _ _ l1_2 _ _ l1_3 _ _ l1_4 false _ ?side1 ?side2 ?side3 ?side4 ?side5 ?side6 ?side7 ?side8 ?side9 ?side10 ?side11 ?side12 A6.out).mono ?_); (case side1 => exact CB_ HR0_3); (case side2 => exact HC0_3.out); (case side3 => exact CB_ HR0_4); (case side4 => exact HC0_4.out); (case side5 => exact CB_ HR0_5); (case side6 => exact HC0_5.out); (case side7 => exact CB_ HR1_2); (case side8 => exact HC1_2.out); (case side9 => exact CB_ HR1_3); (case side10 => exact HC1_3.out); (case side11 => exact CB_ HR1_4); (case side12 => exact HC1_4.out); rintro e w16 ⟨rfl, hb⟩; refine ⟨_, rfl, ?_⟩; have n0_ := Aside0.mk (blk_below (K_ BK365) hb); have n1_ := Aside0.mk (blk_below (K_ BK366) hb); have n2_ := Aside0.mk (below_step bl_ hb); clear BK365; clear BK366; clear HB; have BK365 := n0_; have BK366 := n1_; have HB := n2_; clear n0_ n1_ n2_; (try clear hb); (try clear hb2); (try clear hk); (try clear hi)))
  go_meet
  case rel => exact ⟨_, (true), (by first | rfl | (simp; done) | (simp [*]; done)), H', ⟨by first | omega | exact Nat.le_refl _⟩, ⟨K_ BK365⟩, ⟨K_ BK366⟩, ⟨bl_⟩⟩
 clear HC3
 obtain ⟨kq, x16_2, rfl, HA, HJ2, BK365, BK366, HB⟩ := hcut
 cases kq with
 | zero => exact absurd HA.out (by simp [jacquardref28_Legal.j0])
 | succ kj2 => ?_
 have H := HA.out
 clear HA
 simp only [jacquardref28_Legal.j0] at H
 by_cases c17 : x16_2 = true
 · subst c17
   have H1 : (some false) = some r := by rw [if_pos rfl] at H; exact H
   clear H
   have H := H1
   clear H1
   obtain rfl := Option.some.inj H
   go_wp2
   go_ret
   exact ⟨by first | rfl | (simp [errW_none, errW_some] <;> rfl) | (simp [*, errW_none, errW_some] <;> rfl), by repeat (first | (with_reducible first | exact HB.out | apply below_alloc | apply pw_below_drewN | apply below_drew1 | refine below_set ?_ GE365.out | refine below_set ?_ GE366.out) | exact HB.out)⟩
 replace c17 := Bool.eq_false_iff.mpr c17
 subst c17
 have H1 : (jacquardref28_Legal.l0 kj2 (l1_3.length : Int) 0 a0_0 a0_1 a0_2 l0_3 l0_4 l0_5 a1_0 a1_1 l1_2 l1_3 l1_4) = some r := by rw [if_neg (show ¬ (false = true) by decide)] at H; exact H
 clear H
 have H := H1
 clear H1
 have H' := Aside0.mk H
 clear H
 obtain ⟨hcz19_0, hcz19_1, hcz19_2, hcz19_3, hcz19_4⟩ := cells5 BK366
 go_wp2
 go_loopg [20] kj2 (fun kq v20 w' => ∃ (x20_2 : Int), v20 = .int .i64 x20_2 ∧ Aside0 (jacquardref28_Legal.l0 kq (l1_3.length : Int) x20_2 a0_0 a0_1 a0_2 l0_3 l0_4 l0_5 a1_0 a1_1 l1_2 l1_3 l1_4 = some r) ∧ Aside0 (kq ≤ kj2) ∧ Aside0 (w'.heap[gb365]? = some (.cells #[.int .i64 a0_0, .int .i64 a0_1, .bool a0_2, (.slice A0_3 l0_3.length c0_3), (.slice A0_4 l0_4.length c0_4), (.slice A0_5 l0_5.length c0_5)] 26 (0, 0))) ∧ Aside0 (w'.heap[gb366]? = some (.cells #[.int .i64 a1_0, .int .i64 a1_1, (.slice A1_2 l1_2.length c1_2), (.slice A1_3 l1_3.length c1_3), (.slice A1_4 l1_4.length c1_4)] 35 (0, 0))) ∧ Aside0 (Below w.heap.size w w'))
 case atStart => exact ⟨(0), (by first | rfl | (simp; done) | (simp [*]; done)), H', ⟨Nat.le_refl _⟩, ⟨K_ BK365⟩, ⟨K_ BK366⟩, ⟨bl_⟩⟩
 clear H'
 obtain ⟨x20_2, rfl, HA, HK2, BK365, BK366, HB⟩ := hrel
 cases gk with
 | zero => exact absurd HA.out (by simp [jacquardref28_Legal.l0])
 | succ k2 => ?_
 have H := HA.out
 clear HA
 simp only [jacquardref28_Legal.l0] at H
 by_cases c20 : x20_2 < (l1_3.length : Int)
 · rw [if_pos c20] at H
   have c20b0 : decide (x20_2 < (l1_3.length : Int)) = true := decide_eq_true c20
   clear c20
   have HC21 := Aside0.mk H
   clear H
   go_upto_region 6 with (fail)
   go_cut [33] (fun v33 wc => ∃ (kq : Nat) (x33_20 : Bool), v33 = .bool x33_20 ∧ Aside0 (jacquardref28_Legal.j2 kq (l1_3.length : Int) x20_2 x33_20 a0_0 a0_1 a0_2 l0_3 l0_4 l0_5 a1_0 a1_1 l1_2 l1_3 l1_4 = some r) ∧ Aside0 (kq ≤ k2) ∧ Aside0 (wc.heap[gb365]? = some (.cells #[.int .i64 a0_0, .int .i64 a0_1, .bool a0_2, (.slice A0_3 l0_3.length c0_3), (.slice A0_4 l0_4.length c0_4), (.slice A0_5 l0_5.length c0_5)] 26 (0, 0))) ∧ Aside0 (wc.heap[gb366]? = some (.cells #[.int .i64 a1_0, .int .i64 a1_1, (.slice A1_2 l1_2.length c1_2), (.slice A1_3 l1_3.length c1_3), (.slice A1_4 l1_4.length c1_4)] 35 (0, 0))) ∧ Aside0 (Below w.heap.size w wc))
   case first =>
    have H := HC21.out
    clear HC21
    by_cases c22 : a0_2 = true
    · subst c22
      have H1 : (jacquardref28_Legal.j2 k2 (l1_3.length : Int) x20_2 false a0_0 a0_1 true l0_3 l0_4 l0_5 a1_0 a1_1 l1_2 l1_3 l1_4) = some r := by rw [if_pos rfl] at H; exact H
      clear H
      have H := H1
      clear H1
      have H' := Aside0.mk H
      clear H
      obtain ⟨hcz24_0, hcz24_1, hcz24_2, hcz24_3, hcz24_4, hcz24_5⟩ := cells6 BK365
      go_wp2
      go_meet
      case rel => exact ⟨_, (false), (by first | rfl | (simp; done) | (simp [*]; done)), H', ⟨by have := HJ2.out; have := HK2.out; first | omega | exact Nat.le_refl _⟩, ⟨K_ BK365⟩, ⟨K_ BK366⟩, ⟨bl_⟩⟩
    replace c22 := Bool.eq_false_iff.mpr c22
    subst c22
    have H1 : (if 0 ≤ x20_2 then (if x20_2 < (l1_3.length : Int) then (jacquardref28_Legal.j2 k2 (l1_3.length : Int) x20_2 ((rd l1_3 x20_2) != 0) a0_0 a0_1 false l0_3 l0_4 l0_5 a1_0 a1_1 l1_2 l1_3 l1_4) else (none)) else (none)) = some r := by rw [if_neg (show ¬ (false = true) by decide)] at H; exact H
    clear H
    have H := H1
    clear H1
    by_cases c25 : 0 ≤ x20_2
    · rw [if_pos c25] at H
      have c25b0 : decide (0 ≤ x20_2) = true := decide_eq_true c25
      clear c25
      (first | rw [c25b0] | (simp only [i64_w, i32_w]; rw [c25b0]) | skip)
      by_cases c26 : x20_2 < (l1_3.length : Int)
      · rw [if_pos c26] at H
        have c26b0 : decide (x20_2 < (l1_3.length : Int)) = true := decide_eq_true c26
        clear c26
        have H' := Aside0.mk H
        clear H
        obtain ⟨hcz28_0, hcz28_1, hcz28_2, hcz28_3, hcz28_4, hcz28_5⟩ := cells6 BK365
        obtain ⟨hcz29_0, hcz29_1, hcz29_2, hcz29_3, hcz29_4⟩ := cells5 BK366
        have p368 : 0 ≤ (x20_2 : Int) := of_decide_eq_true (by first | (with_reducible assumption) | assumption)
        have q368 : x20_2 < (l1_3.length : Int) := of_decide_eq_true (by first | (with_reducible assumption) | assumption)
        obtain ⟨ad368, e368, hx368_0⟩ := Kd.at_int HR1_3.out x20_2 p368 q368
        cases e368
        replace hx368_0 := hc_ HB hx368_0
        replace p368 := eq_true p368
        replace q368 := eq_true q368
        go_wp2
        go_meet
        case rel => exact ⟨_, (((rd l1_3 x20_2) != 0)), (by first | rfl | (simp; done) | (simp [*]; done)), H', ⟨by have := HJ2.out; have := HK2.out; first | omega | exact Nat.le_refl _⟩, ⟨K_ BK365⟩, ⟨K_ BK366⟩, ⟨bl_⟩⟩
      rw [if_neg c26] at H
      exact absurd H (by simp)
    rw [if_neg c25] at H
    exact absurd H (by simp)
   clear HC21
   obtain ⟨kq, x33_20, rfl, HA, HJ20, BK365, BK366, HB⟩ := hcut
   cases kq with
   | zero => exact absurd HA.out (by simp [jacquardref28_Legal.j2])
   | succ kj20 => ?_
   have H := HA.out
   clear HA
   simp only [jacquardref28_Legal.j2] at H
   by_cases c30 : x33_20 = true
   · subst c30
     have H1 : (some false) = some r := by rw [if_pos rfl] at H; exact H
     clear H
     have H := H1
     clear H1
     obtain rfl := Option.some.inj H
     go_wp2
     go_ret
     exact ⟨by first | rfl | (simp [errW_none, errW_some] <;> rfl) | (simp [*, errW_none, errW_some] <;> rfl), by repeat (first | (with_reducible first | exact HB.out | apply below_alloc | apply pw_below_drewN | apply below_drew1 | refine below_set ?_ GE365.out | refine below_set ?_ GE366.out) | exact HB.out)⟩
   replace c30 := Bool.eq_false_iff.mpr c30
   subst c30
   have H1 : (jacquardref28_Legal.l0 kj20 (l1_3.length : Int) (wrap64 (x20_2 + 1)) a0_0 a0_1 a0_2 l0_3 l0_4 l0_5 a1_0 a1_1 l1_2 l1_3 l1_4) = some r := by rw [if_neg (show ¬ (false = true) by decide)] at H; exact H
   clear H
   have H := H1
   clear H1
   have H' := Aside0.mk H
   clear H
   go_wp2
   go_roundg kj20
   case measure => have := HJ2.out; have := HK2.out; have := HJ20.out; omega
   case rel => exact ⟨(wrap64 (x20_2 + 1)), (by first | rfl | (simp; done) | (simp [*]; done)), H', ⟨by have := HJ2.out; have := HK2.out; have := HJ20.out; omega⟩, ⟨K_ BK365⟩, ⟨K_ BK366⟩, ⟨bl_⟩⟩
 rw [if_neg c20] at H
 have c20b0 : decide (x20_2 < (l1_3.length : Int)) = false := decide_eq_false c20
 clear c20
 replace H := Option.bind_eq_some_iff.mp H
 obtain ⟨t369, A310, H⟩ := H
 replace H : (if (t369.length : Int) = 0 then ((jacquardref28_Clashes.f k2 a0_0 a0_1 a0_2 l0_3 l0_4 l0_5 a1_0 a1_1 l1_2 l1_3 l1_4).bind fun t372 => (some ((t372.length : Int) == 0))) else (some false)) = some r := H
 have A31 := Aside0.mk A310
 clear A310
 by_cases c32 : (t369.length : Int) = 0
 · rw [if_pos c32] at H
   have c32b0 : ((t369.length : Int) == 0) = true := beq_iff_eq.mpr c32
   have c32b1 : ((t369.length : Int) != 0) = false := bne_eq_false_iff_eq.mpr c32
   clear c32
   replace H := Option.bind_eq_some_iff.mp H
   obtain ⟨t372, A330, H⟩ := H
   replace H : (some ((t372.length : Int) == 0)) = some r := H
   have A33 := Aside0.mk A330
   clear A330
   obtain rfl := Option.some.inj H
   obtain ⟨hcz35_0, hcz35_1, hcz35_2, hcz35_3, hcz35_4, hcz35_5⟩ := cells6 BK365
   obtain ⟨hcz36_0, hcz36_1, hcz36_2, hcz36_3, hcz36_4⟩ := cells5 BK366
   go_wp2_with (first | ((with_reducible refine gate_callee (f := 25) rfl ?_); refine gL_ 37 Try.func25 #[.agg #[.int .i64 a0_0, .int .i64 a0_1, .bool a0_2, .slice A0_3 l0_3.length c0_3, .slice A0_4 l0_4.length c0_4, .slice A0_5 l0_5.length c0_5], .agg #[.int .i64 a1_0, .int .i64 a1_1, .slice A1_2 l1_2.length c1_2, .slice A1_3 l1_3.length c1_3, .slice A1_4 l1_4.length c1_4]] ?_; (with_reducible refine (jacquardref28_Late.calls k2 a0_0 a0_1 a0_2 _ _ l0_3 _ _ l0_4 _ _ l0_5 a1_0 a1_1 _ _ l1_2 _ _ l1_3 _ _ l1_4 t369 _ ?side1 ?side2 ?side3 ?side4 ?side5 ?side6 ?side7 ?side8 ?side9 ?side10 ?side11 ?side12 A31.out).mono ?_); (case side1 => exact CB_ HR0_3); (case side2 => exact HC0_3.out); (case side3 => exact CB_ HR0_4); (case side4 => exact HC0_4.out); (case side5 => exact CB_ HR0_5); (case side6 => exact HC0_5.out); (case side7 => exact CB_ HR1_2); (case side8 => exact HC1_2.out); (case side9 => exact CB_ HR1_3); (case side10 => exact HC1_3.out); (case side11 => exact CB_ HR1_4); (case side12 => exact HC1_4.out); rintro e w37 ⟨v370, rfl, ho0, hb⟩; refine ⟨_, rfl, ?_⟩; have n0_ := Aside0.mk (Kd.R_lower ho0 (below_size bl_)); have n1_ := Aside0.mk (blk_below (K_ BK365) hb); have n2_ := Aside0.mk (blk_below (K_ BK366) hb); have n3_ := Aside0.mk (below_step bl_ hb); clear BK365; clear BK366; clear HB; have HO371 := n0_; have BK365 := n1_; have BK366 := n2_; have HB := n3_; clear n0_ n1_ n2_ n3_; (try clear hb); (try clear hb2); (try clear hk); (try clear hi); (try clear ho0); obtain ⟨Ao38, co38, eo38⟩ := Kd.R_slice HO371.out; subst eo38; obtain ⟨hcz39_0, hcz39_1, hcz39_2, hcz39_3, hcz39_4, hcz39_5⟩ := cells6 BK365; obtain ⟨hcz40_0, hcz40_1, hcz40_2, hcz40_3, hcz40_4⟩ := cells5 BK366) | (go_at_call 26; (with_reducible refine (jacquardref28_Clashes.calls k2 a0_0 a0_1 a0_2 _ _ l0_3 _ _ l0_4 _ _ l0_5 a1_0 a1_1 _ _ l1_2 _ _ l1_3 _ _ l1_4 t372 _ ?side1 ?side2 ?side3 ?side4 ?side5 ?side6 ?side7 ?side8 ?side9 ?side10 ?side11 ?side12 A33.out).mono ?_); (case side1 => exact CB_ HR0_3); (case side2 => exact HC0_3.out); (case side3 => exact CB_ HR0_4); (case side4 => exact HC0_4.out); (case side5 => exact CB_ HR0_5); (case side6 => exact HC0_5.out); (case side7 => exact CB_ HR1_2); (case side8 => exact HC1_2.out); (case side9 => exact CB_ HR1_3); (case side10 => exact HC1_3.out); (case side11 => exact CB_ HR1_4); (case side12 => exact HC1_4.out); rintro e w41 ⟨v373, rfl, ho0, hb⟩; have n0_ := Aside0.mk (Kd.R_below (R_ HO371) hb); have n1_ := Aside0.mk (Kd.R_lower ho0 (below_size bl_)); have n2_ := Aside0.mk (blk_below (K_ BK365) hb); have n3_ := Aside0.mk (blk_below (K_ BK366) hb); have n4_ := Aside0.mk (below_step bl_ hb); clear HO371; clear BK365; clear BK366; clear HB; have HO371 := n0_; have HO374 := n1_; have BK365 := n2_; have BK366 := n3_; have HB := n4_; clear n0_ n1_ n2_ n3_ n4_; (try clear hb); (try clear hb2); (try clear hk); (try clear hi); (try clear ho0); obtain ⟨Ao42, co42, eo42⟩ := Kd.R_slice HO374.out; subst eo42))
   go_ret
   exact ⟨by first | rfl | (simp [errW_none, errW_some] <;> rfl) | (simp [*, errW_none, errW_some] <;> rfl), by repeat (first | (with_reducible first | exact HB.out | apply below_alloc | apply pw_below_drewN | apply below_drew1 | refine below_set ?_ GE365.out | refine below_set ?_ GE366.out) | exact HB.out)⟩
 rw [if_neg c32] at H
 have c32b0 : ((t369.length : Int) == 0) = false := beq_eq_false_iff_ne.mpr c32
 have c32b1 : ((t369.length : Int) != 0) = true := bne_iff_ne.mpr c32
 have c32b2 : ¬ (t369 = []) := fun h_ => c32 (by rw [h_]; rfl)
 obtain rfl := Option.some.inj H
 obtain ⟨hcz44_0, hcz44_1, hcz44_2, hcz44_3, hcz44_4, hcz44_5⟩ := cells6 BK365
 obtain ⟨hcz45_0, hcz45_1, hcz45_2, hcz45_3, hcz45_4⟩ := cells5 BK366
 go_wp2_with (first | ((with_reducible refine gate_callee (f := 25) rfl ?_); refine gL_ 37 Try.func25 #[.agg #[.int .i64 a0_0, .int .i64 a0_1, .bool a0_2, .slice A0_3 l0_3.length c0_3, .slice A0_4 l0_4.length c0_4, .slice A0_5 l0_5.length c0_5], .agg #[.int .i64 a1_0, .int .i64 a1_1, .slice A1_2 l1_2.length c1_2, .slice A1_3 l1_3.length c1_3, .slice A1_4 l1_4.length c1_4]] ?_; (with_reducible refine (jacquardref28_Late.calls k2 a0_0 a0_1 a0_2 _ _ l0_3 _ _ l0_4 _ _ l0_5 a1_0 a1_1 _ _ l1_2 _ _ l1_3 _ _ l1_4 t369 _ ?side1 ?side2 ?side3 ?side4 ?side5 ?side6 ?side7 ?side8 ?side9 ?side10 ?side11 ?side12 A31.out).mono ?_); (case side1 => exact CB_ HR0_3); (case side2 => exact HC0_3.out); (case side3 => exact CB_ HR0_4); (case side4 => exact HC0_4.out); (case side5 => exact CB_ HR0_5); (case side6 => exact HC0_5.out); (case side7 => exact CB_ HR1_2); (case side8 => exact HC1_2.out); (case side9 => exact CB_ HR1_3); (case side10 => exact HC1_3.out); (case side11 => exact CB_ HR1_4); (case side12 => exact HC1_4.out); rintro e w46 ⟨v370, rfl, ho0, hb⟩; refine ⟨_, rfl, ?_⟩; have n0_ := Aside0.mk (Kd.R_lower ho0 (below_size bl_)); have n1_ := Aside0.mk (blk_below (K_ BK365) hb); have n2_ := Aside0.mk (blk_below (K_ BK366) hb); have n3_ := Aside0.mk (below_step bl_ hb); clear BK365; clear BK366; clear HB; have HO371 := n0_; have BK365 := n1_; have BK366 := n2_; have HB := n3_; clear n0_ n1_ n2_ n3_; (try clear hb); (try clear hb2); (try clear hk); (try clear hi); (try clear ho0); obtain ⟨Ao47, co47, eo47⟩ := Kd.R_slice HO371.out; subst eo47))
 go_ret
 exact ⟨by first | rfl | (simp [errW_none, errW_some] <;> rfl) | (simp [*, errW_none, errW_some] <;> rfl), by repeat (first | (with_reducible first | exact HB.out | apply below_alloc | apply pw_below_drewN | apply below_drew1 | refine below_set ?_ GE365.out | refine below_set ?_ GE366.out) | exact HB.out)⟩
end Go.Proofs.Ytpmlbbglekaidaa.PAll
