-- Written for this claim by programs of this session (wip/print2 in its repo: a changed printer, a shortener, a packer). Lean checks it.
import Derived.Test.YtpmlbbglekaidaaP0
import Derived.Test.YtpmlbbglekaidaaF12
import Derived.Test.YtpmlbbglekaidaaF13
import Derived.Test.YtpmlbbglekaidaaF14
import Derived.Test.YtpmlbbglekaidaaF6
import Derived.Test.YtpmlbbglekaidaaF7
namespace Go.Proofs.Ytpmlbbglekaidaa.PAll
open Go.RowKit Go.Proofs.YtpmlbbglekaidaaW.PrintWords Go.Proofs.YtpmlbbglekaidaaW.PrintLast Go.Proofs.YtpmlbbglekaidaaW.PrintMore
attribute [local go_sem] max2_int min2_int max_two min_two max_three min_three max_four min_four   -- for this text's walks alone
set_option linter.unusedVariables false
set_option linter.unusedSimpArgs false

/-! ### jacquardlaw34_RefuteWalks: function 5 -/
mutual
def jacquardlaw34_RefuteWalks.j0 : Nat → Int → Bool → Int → Int → Bool → List (S48) → List (S50) → List (S52) → List Int → List Int → Option (Bool)
  | 0, _, _, _, _, _, _, _, _, _, _ => none
  | k + 1, x1, x31, x294000, x294001, x294002, x294003, x294004, x294005, x295000, x295001 => if x31 = true then ((jacquardlaw34_awake.f k).bind fun t297 => (some t297)) else ((refute_Walk.f k x294000 x294001 x294002 x294003 x294004 x294005 x1 x295000 x295001).bind fun bt298 => ((jacquardref28_Valid.f k x294000 x294001 x294002 x294003 x294004 x294005).bind fun t300 => (if t300 = true then (if x294002 = true then (if x1 < 1 then (jacquardlaw34_RefuteWalks.j1 k x1 bt298.1 bt298.2 true x294000 x294001 x294002 x294003 x294004 x294005 x295000 x295001) else (jacquardlaw34_RefuteWalks.j1 k x1 bt298.1 bt298.2 (decide (x1 > 256)) x294000 x294001 x294002 x294003 x294004 x294005 x295000 x295001)) else (jacquardlaw34_RefuteWalks.j1 k x1 bt298.1 bt298.2 true x294000 x294001 x294002 x294003 x294004 x294005 x295000 x295001)) else (jacquardlaw34_RefuteWalks.j1 k x1 bt298.1 bt298.2 true x294000 x294001 x294002 x294003 x294004 x294005 x295000 x295001))))
def jacquardlaw34_RefuteWalks.j1 : Nat → Int → Int → Bool → Bool → Int → Int → Bool → List (S48) → List (S50) → List (S52) → List Int → List Int → Option (Bool)
  | 0, _, _, _, _, _, _, _, _, _, _, _, _ => none
  | k + 1, x1, x7, x8, x58, x294000, x294001, x294002, x294003, x294004, x294005, x295000, x295001 => if x58 = true then (if x8 = true then (some false) else (some (x7 == 0))) else (jacquardlaw34_RefuteWalks.l0 k x1 x7 x8 ([] : List (S44)) (x295000.length : Int) 0 x294000 x294001 x294002 x294003 x294004 x294005 x295000 x295001)
def jacquardlaw34_RefuteWalks.l0 : Nat → Int → Int → Bool → List (S44) → Int → Int → Int → Int → Bool → List (S48) → List (S50) → List (S52) → List Int → List Int → Option (Bool)
  | 0, _, _, _, _, _, _, _, _, _, _, _, _, _, _ => none
  | k + 1, x1, x7, x8, x9, x67, x68, x294000, x294001, x294002, x294003, x294004, x294005, x295000, x295001 => if x68 < x67 then (if x68 < x294000 then (if 0 ≤ x68 then (if x68 < (x295000.length : Int) then (jacquardlaw34_RefuteWalks.j3 k x1 x7 x8 x9 x68 x67 x68 (decide ((rd x295000 x68) ≥ 0)) x294000 x294001 x294002 x294003 x294004 x294005 x295000 x295001) else (none)) else (none)) else (jacquardlaw34_RefuteWalks.j3 k x1 x7 x8 x9 x68 x67 x68 false x294000 x294001 x294002 x294003 x294004 x294005 x295000 x295001)) else ((jacquardref33_Walk.f k x294000 x294001 x294002 x294003 x294004 x294005 x1 x9 x295001).bind fun bt306 => (if x7 = bt306.1 then (some (x8 == bt306.2)) else (some false)))
def jacquardlaw34_RefuteWalks.j3 : Nat → Int → Int → Bool → List (S44) → Int → Int → Int → Bool → Int → Int → Bool → List (S48) → List (S50) → List (S52) → List Int → List Int → Option (Bool)
  | 0, _, _, _, _, _, _, _, _, _, _, _, _, _, _, _, _ => none
  | k + 1, x1, x7, x8, x9, x10, x67, x68, x82, x294000, x294001, x294002, x294003, x294004, x294005, x295000, x295001 => if x82 = true then (if 0 ≤ x10 then (if x10 < (x295000.length : Int) then (if x1 = 0 then (none) else (if x9.length < 5864062014805 then (jacquardlaw34_RefuteWalks.l0 k x1 x7 x8 (x9 ++ [(⟨x10, Int.tmod (rd x295000 x10) x1, 0⟩ : S44)]) x67 (wrap64 (x68 + 1)) x294000 x294001 x294002 x294003 x294004 x294005 x295000 x295001) else (none))) else (none)) else (none)) else (jacquardlaw34_RefuteWalks.l0 k x1 x7 x8 x9 x67 (wrap64 (x68 + 1)) x294000 x294001 x294002 x294003 x294004 x294005 x295000 x295001)
end
def jacquardlaw34_RefuteWalks.f (k : Nat) (a0_0 : Int) (a0_1 : Int) (a0_2 : Bool) (l0_3 : List (S48)) (l0_4 : List (S50)) (l0_5 : List (S52)) (a1 : Int) (l2_0 : List Int) (l2_1 : List Int) : Option (Bool) := (jacquardlaw34_awake.f k).bind fun t295 => (if t295 = true then ((jacquardlaw34_few.f k a0_0 a0_1 a0_2 l0_3 l0_4 l0_5 ([] : List (S54))).bind fun t296 => (if t296 = true then (if (l2_0.length : Int) > 20 then (jacquardlaw34_RefuteWalks.j0 k a1 true a0_0 a0_1 a0_2 l0_3 l0_4 l0_5 l2_0 l2_1) else (jacquardlaw34_RefuteWalks.j0 k a1 (decide ((l2_1.length : Int) > 20)) a0_0 a0_1 a0_2 l0_3 l0_4 l0_5 l2_0 l2_1)) else (jacquardlaw34_RefuteWalks.j0 k a1 true a0_0 a0_1 a0_2 l0_3 l0_4 l0_5 l2_0 l2_1))) else (jacquardlaw34_RefuteWalks.j0 k a1 true a0_0 a0_1 a0_2 l0_3 l0_4 l0_5 l2_0 l2_1))
theorem jacquardlaw34_RefuteWalks.mono_l : ∀ k, (∀ y0 y1 y2 y3 y4 y5 y6 y7 y8 y9, LeO (jacquardlaw34_RefuteWalks.j0 k y0 y1 y2 y3 y4 y5 y6 y7 y8 y9) (jacquardlaw34_RefuteWalks.j0 (k + 1) y0 y1 y2 y3 y4 y5 y6 y7 y8 y9)) ∧ (∀ y0 y1 y2 y3 y4 y5 y6 y7 y8 y9 y10 y11, LeO (jacquardlaw34_RefuteWalks.j1 k y0 y1 y2 y3 y4 y5 y6 y7 y8 y9 y10 y11) (jacquardlaw34_RefuteWalks.j1 (k + 1) y0 y1 y2 y3 y4 y5 y6 y7 y8 y9 y10 y11)) ∧ (∀ y0 y1 y2 y3 y4 y5 y6 y7 y8 y9 y10 y11 y12 y13, LeO (jacquardlaw34_RefuteWalks.l0 k y0 y1 y2 y3 y4 y5 y6 y7 y8 y9 y10 y11 y12 y13) (jacquardlaw34_RefuteWalks.l0 (k + 1) y0 y1 y2 y3 y4 y5 y6 y7 y8 y9 y10 y11 y12 y13)) ∧ (∀ y0 y1 y2 y3 y4 y5 y6 y7 y8 y9 y10 y11 y12 y13 y14 y15, LeO (jacquardlaw34_RefuteWalks.j3 k y0 y1 y2 y3 y4 y5 y6 y7 y8 y9 y10 y11 y12 y13 y14 y15) (jacquardlaw34_RefuteWalks.j3 (k + 1) y0 y1 y2 y3 y4 y5 y6 y7 y8 y9 y10 y11 y12 y13 y14 y15))
  | 0 => by refine ⟨?_, ?_, ?_, ?_⟩ <;> intros <;> intro r h <;> simp [jacquardlaw34_RefuteWalks.j0, jacquardlaw34_RefuteWalks.j1, jacquardlaw34_RefuteWalks.l0, jacquardlaw34_RefuteWalks.j3] at h
  | k + 1 => by
    obtain ⟨ih0, ih1, ih2, ih3⟩ := jacquardlaw34_RefuteWalks.mono_l k
    refine ⟨?_, ?_, ?_, ?_⟩ <;> intros <;> (first | unfold jacquardlaw34_RefuteWalks.j0 | unfold jacquardlaw34_RefuteWalks.j1 | unfold jacquardlaw34_RefuteWalks.l0 | unfold jacquardlaw34_RefuteWalks.j3) <;> repeat' first | (with_reducible first | apply ih0 | apply ih1 | apply ih2 | apply ih3 | apply jacquardlaw34_awake.mono | apply jacquardlaw34_few.mono | apply jacquardref28_Valid.mono | apply jacquardref33_Walk.mono | apply refute_Walk.mono | exact LeO.refl _ | exact LeO.none _ | refine LeO.ite ?_ ?_ | refine LeO.bind ?_ (fun _ => ?_)) | apply ih0 | apply ih1 | apply ih2 | apply ih3 | apply jacquardlaw34_awake.mono | apply jacquardlaw34_few.mono | apply jacquardref28_Valid.mono | apply jacquardref33_Walk.mono | apply refute_Walk.mono | exact LeO.none _ | refine LeO.ite ?_ ?_ | refine LeO.bind ?_ (fun _ => ?_)
theorem jacquardlaw34_RefuteWalks.mono : ∀ a0 a1 a2 a3 a4 a5 a6 a7 a8 k, LeO (jacquardlaw34_RefuteWalks.f k a0 a1 a2 a3 a4 a5 a6 a7 a8) (jacquardlaw34_RefuteWalks.f (k + 1) a0 a1 a2 a3 a4 a5 a6 a7 a8) := by
 intro a0 a1 a2 a3 a4 a5 a6 a7 a8 k
 obtain ⟨ih0, ih1, ih2, ih3⟩ := jacquardlaw34_RefuteWalks.mono_l k
 unfold jacquardlaw34_RefuteWalks.f
 repeat' first | (with_reducible first | apply ih0 | apply ih1 | apply ih2 | apply ih3 | apply jacquardlaw34_awake.mono | apply jacquardlaw34_few.mono | apply jacquardref28_Valid.mono | apply jacquardref33_Walk.mono | apply refute_Walk.mono | exact LeO.refl _ | exact LeO.none _ | refine LeO.ite ?_ ?_ | refine LeO.bind ?_ (fun _ => ?_)) | apply ih0 | apply ih1 | apply ih2 | apply ih3 | apply jacquardlaw34_awake.mono | apply jacquardlaw34_few.mono | apply jacquardref28_Valid.mono | apply jacquardref33_Walk.mono | apply refute_Walk.mono | exact LeO.none _ | refine LeO.ite ?_ ?_ | refine LeO.bind ?_ (fun _ => ?_)
set_option maxHeartbeats 8000000 in
set_option maxRecDepth 100000 in
theorem jacquardlaw34_RefuteWalks.calls (k : Nat) (a0_0 : Int) (a0_1 : Int) (a0_2 : Bool) (A0_3 : Option Addr) (c0_3 : Nat) (l0_3 : List (S48)) (A0_4 : Option Addr) (c0_4 : Nat) (l0_4 : List (S50)) (A0_5 : Option Addr) (c0_5 : Nat) (l0_5 : List (S52)) (a1 : Int) (A2_0 : Option Addr) (c2_0 : Nat) (l2_0 : List Int) (A2_1 : Option Addr) (c2_1 : Nat) (l2_1 : List Int) (r : Bool) (w : World) (hr0_3 : Kd.C k48 w A0_3 l0_3.length l0_3) (hc0_3 : l0_3.length ≤ c0_3) (hr0_4 : Kd.C k50 w A0_4 l0_4.length l0_4) (hc0_4 : l0_4.length ≤ c0_4) (hr0_5 : Kd.C k52 w A0_5 l0_5.length l0_5) (hc0_5 : l0_5.length ≤ c0_5) (hr2_0 : Kd.C (Kd.int .i64) w A2_0 l2_0.length l2_0) (hc2_0 : l2_0.length ≤ c2_0) (hr2_1 : Kd.C (Kd.int .i64) w A2_1 l2_1.length l2_1) (hc2_1 : l2_1.length ≤ c2_1) (h : jacquardlaw34_RefuteWalks.f k a0_0 a0_1 a0_2 l0_3 l0_4 l0_5 a1 l2_0 l2_1 = some r) (hr_ : r = true) :
    Calls Try.prog 5 #[.agg #[.int .i64 a0_0, .int .i64 a0_1, .bool a0_2, .slice A0_3 l0_3.length c0_3, .slice A0_4 l0_4.length c0_4, .slice A0_5 l0_5.length c0_5], .int .i64 a1, .agg #[.slice A2_0 l2_0.length c2_0, .slice A2_1 l2_1.length c2_1]] w fun e w' => e = .returned (.bool r) ∧ Below w.heap.size w w' := by
 have hu26 := Try.underlying26
 have hu38 := Try.underlying38
 have hu44 := Try.underlying44
 have HR0_3 := Aside0.mk hr0_3
 have HC0_3 := Aside0.mk hc0_3
 clear hr0_3 hc0_3
 have HR0_4 := Aside0.mk hr0_4
 have HC0_4 := Aside0.mk hc0_4
 clear hr0_4 hc0_4
 have HR0_5 := Aside0.mk hr0_5
 have HC0_5 := Aside0.mk hc0_5
 clear hr0_5 hc0_5
 have HR2_0 := Aside0.mk hr2_0
 have HC2_0 := Aside0.mk hc2_0
 clear hr2_0 hc2_0
 have HR2_1 := Aside0.mk hr2_1
 have HC2_1 := Aside0.mk hc2_1
 clear hr2_1 hc2_1
 have HB := Aside0.mk (Below.refl w.heap.size w)
 have HRT_ := Aside0.mk hr_
 clear hr_
 have H : ((jacquardlaw34_awake.f k).bind fun t295 => (if t295 = true then ((jacquardlaw34_few.f k a0_0 a0_1 a0_2 l0_3 l0_4 l0_5 ([] : List (S54))).bind fun t296 => (if t296 = true then (if (l2_0.length : Int) > 20 then (jacquardlaw34_RefuteWalks.j0 k a1 true a0_0 a0_1 a0_2 l0_3 l0_4 l0_5 l2_0 l2_1) else (jacquardlaw34_RefuteWalks.j0 k a1 (decide ((l2_1.length : Int) > 20)) a0_0 a0_1 a0_2 l0_3 l0_4 l0_5 l2_0 l2_1)) else (jacquardlaw34_RefuteWalks.j0 k a1 true a0_0 a0_1 a0_2 l0_3 l0_4 l0_5 l2_0 l2_1))) else (jacquardlaw34_RefuteWalks.j0 k a1 true a0_0 a0_1 a0_2 l0_3 l0_4 l0_5 l2_0 l2_1))) = some r := h
 clear h
 have HC4 := Aside0.mk H
 clear H
 go_enter Try.func5, Try.ntmps5
 go_upto_region 1 with (first | ((with_reducible refine gate_dst (N := 3) rfl ?_); (try (refine gate_guard (by rfl) ?_; dsimp only)); refine box_event ?hg (N := 3) ?hd (cs := #[.int .i64 a0_0, .int .i64 a0_1, .bool a0_2, .slice A0_3 l0_3.length c0_3, .slice A0_4 l0_4.length c0_4, .slice A0_5 l0_5.length c0_5]) (t := 26) ?hr ?_; (case hd => rfl); (case hg => rfl); (case hr => first | (go_simp; done) | (go_simp; rfl)); intro gb293 hg w5 hbox hb; have n0_ := Aside0.mk (below_step bl_ hb); have n1_ := Aside0.mk (hbox); have n2_ := Aside0.mk (gl_ (w := w) hg); have n3_ := Aside0.mk (gl_ (w := w) hg); clear HB; have HB := n0_; have BK293 := n1_; have GW293 := n2_; have GE293 := n3_; clear n0_ n1_ n2_ n3_; clear hb hbox hg) | ((with_reducible refine gate_dst (N := 5) rfl ?_); (try (refine gate_guard (by rfl) ?_; dsimp only)); refine box_event ?hg (N := 5) ?hd (cs := #[.slice A2_0 l2_0.length c2_0, .slice A2_1 l2_1.length c2_1]) (t := 38) ?hr ?_; (case hd => rfl); (case hg => rfl); (case hr => first | (go_simp; done) | (go_simp; rfl)); intro gb294 hg w6 hbox hb; have n0_ := Aside0.mk (blk_below (K_ BK293) hb); have n1_ := Aside0.mk (below_step bl_ hb); have n2_ := Aside0.mk (hbox); have n3_ := Aside0.mk (gl_ (w := w) hg); have n4_ := Aside0.mk (gl_ (w := w) hg); have n5_ := Aside0.mk (nl_ hg (K_ BK293)); have n6_ := Aside0.mk (ng_ hg (K_ BK293)); clear BK293; clear HB; have BK293 := n0_; have HB := n1_; have BK294 := n2_; have GW294 := n3_; have GE294 := n4_; have NB293_294 := n5_; have NB294_293 := n6_; clear n0_ n1_ n2_ n3_ n4_ n5_ n6_; clear hb hbox hg))
 (try simp only [Act.put, List.setIfInBounds_toArray, List.set_cons_zero, List.set_cons_succ])
 go_cut [31] (fun v31 wc => ∃ (kq : Nat) (x31_3 : Bool), v31 = .bool x31_3 ∧ Aside0 (jacquardlaw34_RefuteWalks.j0 kq a1 x31_3 a0_0 a0_1 a0_2 l0_3 l0_4 l0_5 l2_0 l2_1 = some r) ∧ Aside0 (kq ≤ k) ∧ Aside0 (wc.heap[gb293]? = some (.cells #[.int .i64 a0_0, .int .i64 a0_1, .bool a0_2, (.slice A0_3 l0_3.length c0_3), (.slice A0_4 l0_4.length c0_4), (.slice A0_5 l0_5.length c0_5)] 26 (0, 0))) ∧ Aside0 (wc.heap[gb294]? = some (.cells #[(.slice A2_0 l2_0.length c2_0), (.slice A2_1 l2_1.length c2_1)] 38 (0, 0))) ∧ Aside0 (Below w.heap.size w wc))
 case first =>
  have H := HC4.out
  clear HC4
  replace H := Option.bind_eq_some_iff.mp H
  obtain ⟨t295, A70, H⟩ := H
  replace H : (if t295 = true then ((jacquardlaw34_few.f k a0_0 a0_1 a0_2 l0_3 l0_4 l0_5 ([] : List (S54))).bind fun t296 => (if t296 = true then (if (l2_0.length : Int) > 20 then (jacquardlaw34_RefuteWalks.j0 k a1 true a0_0 a0_1 a0_2 l0_3 l0_4 l0_5 l2_0 l2_1) else (jacquardlaw34_RefuteWalks.j0 k a1 (decide ((l2_1.length : Int) > 20)) a0_0 a0_1 a0_2 l0_3 l0_4 l0_5 l2_0 l2_1)) else (jacquardlaw34_RefuteWalks.j0 k a1 true a0_0 a0_1 a0_2 l0_3 l0_4 l0_5 l2_0 l2_1))) else (jacquardlaw34_RefuteWalks.j0 k a1 true a0_0 a0_1 a0_2 l0_3 l0_4 l0_5 l2_0 l2_1)) = some r := H
  have A7 := Aside0.mk A70
  clear A70
  by_cases c8 : t295 = true
  · subst c8
    have H1 : ((jacquardlaw34_few.f k a0_0 a0_1 a0_2 l0_3 l0_4 l0_5 ([] : List (S54))).bind fun t296 => (if t296 = true then (if (l2_0.length : Int) > 20 then (jacquardlaw34_RefuteWalks.j0 k a1 true a0_0 a0_1 a0_2 l0_3 l0_4 l0_5 l2_0 l2_1) else (jacquardlaw34_RefuteWalks.j0 k a1 (decide ((l2_1.length : Int) > 20)) a0_0 a0_1 a0_2 l0_3 l0_4 l0_5 l2_0 l2_1)) else (jacquardlaw34_RefuteWalks.j0 k a1 true a0_0 a0_1 a0_2 l0_3 l0_4 l0_5 l2_0 l2_1))) = some r := by rw [if_pos rfl] at H; exact H
    clear H
    have H := H1
    clear H1
    replace H := Option.bind_eq_some_iff.mp H
    obtain ⟨t296, A90, H⟩ := H
    replace H : (if t296 = true then (if (l2_0.length : Int) > 20 then (jacquardlaw34_RefuteWalks.j0 k a1 true a0_0 a0_1 a0_2 l0_3 l0_4 l0_5 l2_0 l2_1) else (jacquardlaw34_RefuteWalks.j0 k a1 (decide ((l2_1.length : Int) > 20)) a0_0 a0_1 a0_2 l0_3 l0_4 l0_5 l2_0 l2_1)) else (jacquardlaw34_RefuteWalks.j0 k a1 true a0_0 a0_1 a0_2 l0_3 l0_4 l0_5 l2_0 l2_1)) = some r := H
    have A9 := Aside0.mk A90
    clear A90
    by_cases c10 : t296 = true
    · subst c10
      have H1 : (if (l2_0.length : Int) > 20 then (jacquardlaw34_RefuteWalks.j0 k a1 true a0_0 a0_1 a0_2 l0_3 l0_4 l0_5 l2_0 l2_1) else (jacquardlaw34_RefuteWalks.j0 k a1 (decide ((l2_1.length : Int) > 20)) a0_0 a0_1 a0_2 l0_3 l0_4 l0_5 l2_0 l2_1)) = some r := by rw [if_pos rfl] at H; exact H
      clear H
      have H := H1
      clear H1
      by_cases c11 : (l2_0.length : Int) > 20
      · rw [if_pos c11] at H
        have c11b0 : decide (20 < (l2_0.length : Int)) = true := decide_eq_true c11
        have c11b1 : decide (20 < l2_0.length) = true := decide_eq_true (by omega)
        clear c11
        (first | rw [c11b0] | (simp only [i64_w, i32_w]; rw [c11b0]) | skip)
        have H' := Aside0.mk H
        clear H
        go_wp2_with (first | ((with_reducible refine gate_callee (f := 6) rfl ?_); refine gL_ 13 Try.func6 #[] ?_; (with_reducible refine (jacquardlaw34_awake.calls k  true _ A7.out).mono ?_); rintro e w12 ⟨rfl, hb⟩; refine ⟨_, rfl, ?_⟩; have n0_ := Aside0.mk (blk_below (K_ BK293) hb); have n1_ := Aside0.mk (blk_below (K_ BK294) hb); have n2_ := Aside0.mk (below_step bl_ hb); clear BK293; clear BK294; clear HB; have BK293 := n0_; have BK294 := n1_; have HB := n2_; clear n0_ n1_ n2_; (try clear hb); (try clear hb2); (try clear hk); (try clear hi); have hnb13 := NB293_294.out; have hnc13 := NB294_293.out; obtain ⟨hcz14_0, hcz14_1, hcz14_2, hcz14_3, hcz14_4, hcz14_5⟩ := cells6 BK293; obtain ⟨hfz14_0, hfz14_1, hfz14_2, hfz14_3, hfz14_4, hfz14_5⟩ := fz6 BK293) | (go_at_call 7; (refine (jacquardlaw34_few.calls k a0_0 a0_1 a0_2 _ _ l0_3 _ _ l0_4 _ _ l0_5 _ _ ([] : List (S54)) true _ ?side1 ?side2 ?side3 ?side4 ?side5 ?side6 ?side7 ?side8 A9.out).mono ?_); (case side1 => exact CB_ HR0_3); (case side2 => exact HC0_3.out); (case side3 => exact CB_ HR0_4); (case side4 => exact HC0_4.out); (case side5 => exact CB_ HR0_5); (case side6 => exact HC0_5.out); (case side7 => exact Kd.C_nil _ _); (case side8 => exact Nat.le_refl _); rintro e w15 ⟨rfl, hb⟩; have n0_ := Aside0.mk (blk_below (K_ BK293) hb); have n1_ := Aside0.mk (blk_below (K_ BK294) hb); have n2_ := Aside0.mk (below_step bl_ hb); clear BK293; clear BK294; clear HB; have BK293 := n0_; have BK294 := n1_; have HB := n2_; clear n0_ n1_ n2_; (try clear hb); (try clear hb2); (try clear hk); (try clear hi); obtain ⟨hcz16_0, hcz16_1⟩ := cells2 BK294; obtain ⟨hfz16_0, hfz16_1⟩ := fz2 BK294))
        go_meet
        case rel => exact ⟨_, (true), (by first | rfl | (simp; done) | (simp [*]; done)), H', ⟨by first | omega | exact Nat.le_refl _⟩, ⟨K_ BK293⟩, ⟨K_ BK294⟩, ⟨bl_⟩⟩
      rw [if_neg c11] at H
      have c11b0 : decide (20 < (l2_0.length : Int)) = false := decide_eq_false c11
      have c11b1 : decide (20 < l2_0.length) = false := decide_eq_false (by omega)
      clear c11
      (first | rw [c11b0] | (simp only [i64_w, i32_w]; rw [c11b0]) | skip)
      have H' := Aside0.mk H
      clear H
      go_wp2_with (first | ((with_reducible refine gate_callee (f := 6) rfl ?_); refine gL_ 13 Try.func6 #[] ?_; (with_reducible refine (jacquardlaw34_awake.calls k  true _ A7.out).mono ?_); rintro e w17 ⟨rfl, hb⟩; refine ⟨_, rfl, ?_⟩; have n0_ := Aside0.mk (blk_below (K_ BK293) hb); have n1_ := Aside0.mk (blk_below (K_ BK294) hb); have n2_ := Aside0.mk (below_step bl_ hb); clear BK293; clear BK294; clear HB; have BK293 := n0_; have BK294 := n1_; have HB := n2_; clear n0_ n1_ n2_; (try clear hb); (try clear hb2); (try clear hk); (try clear hi); have hnb18 := NB293_294.out; have hnc18 := NB294_293.out; obtain ⟨hcz19_0, hcz19_1, hcz19_2, hcz19_3, hcz19_4, hcz19_5⟩ := cells6 BK293; obtain ⟨hfz19_0, hfz19_1, hfz19_2, hfz19_3, hfz19_4, hfz19_5⟩ := fz6 BK293) | (go_at_call 7; (refine (jacquardlaw34_few.calls k a0_0 a0_1 a0_2 _ _ l0_3 _ _ l0_4 _ _ l0_5 _ _ ([] : List (S54)) true _ ?side1 ?side2 ?side3 ?side4 ?side5 ?side6 ?side7 ?side8 A9.out).mono ?_); (case side1 => exact CB_ HR0_3); (case side2 => exact HC0_3.out); (case side3 => exact CB_ HR0_4); (case side4 => exact HC0_4.out); (case side5 => exact CB_ HR0_5); (case side6 => exact HC0_5.out); (case side7 => exact Kd.C_nil _ _); (case side8 => exact Nat.le_refl _); rintro e w20 ⟨rfl, hb⟩; have n0_ := Aside0.mk (blk_below (K_ BK293) hb); have n1_ := Aside0.mk (blk_below (K_ BK294) hb); have n2_ := Aside0.mk (below_step bl_ hb); clear BK293; clear BK294; clear HB; have BK293 := n0_; have BK294 := n1_; have HB := n2_; clear n0_ n1_ n2_; (try clear hb); (try clear hb2); (try clear hk); (try clear hi); obtain ⟨hcz21_0, hcz21_1⟩ := cells2 BK294; obtain ⟨hfz21_0, hfz21_1⟩ := fz2 BK294))
      go_meet
      case rel => exact ⟨_, (decide ((l2_1.length : Int) > 20)), (by first | rfl | (simp; done) | (simp [*]; done)), H', ⟨by first | omega | exact Nat.le_refl _⟩, ⟨K_ BK293⟩, ⟨K_ BK294⟩, ⟨bl_⟩⟩
    replace c10 := Bool.eq_false_iff.mpr c10
    subst c10
    have H1 : (jacquardlaw34_RefuteWalks.j0 k a1 true a0_0 a0_1 a0_2 l0_3 l0_4 l0_5 l2_0 l2_1) = some r := by rw [if_neg (show ¬ (false = true) by decide)] at H; exact H
    clear H
    have H := H1
    clear H1
    have H' := Aside0.mk H
    clear H
    go_wp2_with (first | ((with_reducible refine gate_callee (f := 6) rfl ?_); refine gL_ 13 Try.func6 #[] ?_; (with_reducible refine (jacquardlaw34_awake.calls k  true _ A7.out).mono ?_); rintro e w22 ⟨rfl, hb⟩; refine ⟨_, rfl, ?_⟩; have n0_ := Aside0.mk (blk_below (K_ BK293) hb); have n1_ := Aside0.mk (blk_below (K_ BK294) hb); have n2_ := Aside0.mk (below_step bl_ hb); clear BK293; clear BK294; clear HB; have BK293 := n0_; have BK294 := n1_; have HB := n2_; clear n0_ n1_ n2_; (try clear hb); (try clear hb2); (try clear hk); (try clear hi); have hnb23 := NB293_294.out; have hnc23 := NB294_293.out; obtain ⟨hcz24_0, hcz24_1, hcz24_2, hcz24_3, hcz24_4, hcz24_5⟩ := cells6 BK293; obtain ⟨hfz24_0, hfz24_1, hfz24_2, hfz24_3, hfz24_4, hfz24_5⟩ := fz6 BK293) | (go_at_call 7; (refine (jacquardlaw34_few.calls k a0_0 a0_1 a0_2 _ _ l0_3 _ _ l0_4 _ _ l0_5 _ _ ([] : List (S54)) false _ ?side1 ?side2 ?side3 ?side4 ?side5 ?side6 ?side7 ?side8 A9.out).mono ?_); (case side1 => exact CB_ HR0_3); (case side2 => exact HC0_3.out); (case side3 => exact CB_ HR0_4); (case side4 => exact HC0_4.out); (case side5 => exact CB_ HR0_5); (case side6 => exact HC0_5.out); (case side7 => exact Kd.C_nil _ _); (case side8 => exact Nat.le_refl _); rintro e w25 ⟨rfl, hb⟩; have n0_ := Aside0.mk (blk_below (K_ BK293) hb); have n1_ := Aside0.mk (blk_below (K_ BK294) hb); have n2_ := Aside0.mk (below_step bl_ hb); clear BK293; clear BK294; clear HB; have BK293 := n0_; have BK294 := n1_; have HB := n2_; clear n0_ n1_ n2_; (try clear hb); (try clear hb2); (try clear hk); (try clear hi)))
    go_meet
    case rel => exact ⟨_, (true), (by first | rfl | (simp; done) | (simp [*]; done)), H', ⟨by first | omega | exact Nat.le_refl _⟩, ⟨K_ BK293⟩, ⟨K_ BK294⟩, ⟨bl_⟩⟩
  replace c8 := Bool.eq_false_iff.mpr c8
  subst c8
  have H1 : (jacquardlaw34_RefuteWalks.j0 k a1 true a0_0 a0_1 a0_2 l0_3 l0_4 l0_5 l2_0 l2_1) = some r := by rw [if_neg (show ¬ (false = true) by decide)] at H; exact H
  clear H
  have H := H1
  clear H1
  have H' := Aside0.mk H
  clear H
  go_wp2_with (first | ((with_reducible refine gate_callee (f := 6) rfl ?_); refine gL_ 13 Try.func6 #[] ?_; (with_reducible refine (jacquardlaw34_awake.calls k  false _ A7.out).mono ?_); rintro e w26 ⟨rfl, hb⟩; refine ⟨_, rfl, ?_⟩; have n0_ := Aside0.mk (blk_below (K_ BK293) hb); have n1_ := Aside0.mk (blk_below (K_ BK294) hb); have n2_ := Aside0.mk (below_step bl_ hb); clear BK293; clear BK294; clear HB; have BK293 := n0_; have BK294 := n1_; have HB := n2_; clear n0_ n1_ n2_; (try clear hb); (try clear hb2); (try clear hk); (try clear hi)))
  go_meet
  case rel => exact ⟨_, (true), (by first | rfl | (simp; done) | (simp [*]; done)), H', ⟨by first | omega | exact Nat.le_refl _⟩, ⟨K_ BK293⟩, ⟨K_ BK294⟩, ⟨bl_⟩⟩
 clear HC4
 (try clear c1); (try clear c2); (try clear p2); (try clear c5); (try clear c6); (try clear c8); (try clear c10); (try clear c11); (try clear c11b0); (try clear c11b1); (try clear c13); (try clear c18); (try clear c23); (try clear hcz14_0); (try clear hcz14_1); (try clear hcz14_2); (try clear hcz14_3); (try clear hcz14_4); (try clear hcz14_5); (try clear hcz16_0); (try clear hcz16_1); (try clear hcz19_0); (try clear hcz19_1); (try clear hcz19_2); (try clear hcz19_3); (try clear hcz19_4); (try clear hcz19_5); (try clear hcz21_0); (try clear hcz21_1); (try clear hcz24_0); (try clear hcz24_1); (try clear hcz24_2); (try clear hcz24_3); (try clear hcz24_4); (try clear hcz24_5); (try clear hfz14_0); (try clear hfz14_1); (try clear hfz14_2); (try clear hfz14_3); (try clear hfz14_4)
 (try clear hfz14_5); (try clear hfz16_0); (try clear hfz16_1); (try clear hfz19_0); (try clear hfz19_1); (try clear hfz19_2); (try clear hfz19_3); (try clear hfz19_4); (try clear hfz19_5); (try clear hfz21_0); (try clear hfz21_1); (try clear hfz24_0); (try clear hfz24_1); (try clear hfz24_2); (try clear hfz24_3); (try clear hfz24_4); (try clear hfz24_5)
 obtain ⟨kq, x31_3, rfl, HA, HJ3, BK293, BK294, HB⟩ := hcut
 cases kq with
 | zero => exact absurd HA.out (by simp [jacquardlaw34_RefuteWalks.j0])
 | succ kj3 => ?_
 have H := HA.out
 clear HA
 simp only [jacquardlaw34_RefuteWalks.j0] at H
 by_cases c27 : x31_3 = true
 · subst c27
   have H1 : ((jacquardlaw34_awake.f kj3).bind fun t297 => (some t297)) = some r := by rw [if_pos rfl] at H; exact H
   clear H
   have H := H1
   clear H1
   replace H := Option.bind_eq_some_iff.mp H
   obtain ⟨t297, A280, H⟩ := H
   replace H : (some t297) = some r := H
   have A28 := Aside0.mk A280
   clear A280
   obtain rfl := Option.some.inj H
   go_wp2_with (first | ((with_reducible refine gate_callee (f := 6) rfl ?_); refine gL_ 32 Try.func6 #[] ?_; (with_reducible refine (jacquardlaw34_awake.calls kj3  t297 _ A28.out).mono ?_); rintro e w29 ⟨rfl, hb⟩; refine ⟨_, rfl, ?_⟩; have n0_ := Aside0.mk (blk_below (K_ BK293) hb); have n1_ := Aside0.mk (blk_below (K_ BK294) hb); have n2_ := Aside0.mk (below_step bl_ hb); clear BK293; clear BK294; clear HB; have BK293 := n0_; have BK294 := n1_; have HB := n2_; clear n0_ n1_ n2_; (try clear hb); (try clear hb2); (try clear hk); (try clear hi)))
   go_ret
   exact ⟨by first | rfl | (simp [errW_none, errW_some] <;> rfl) | (simp [*, errW_none, errW_some] <;> rfl), by repeat (first | (with_reducible first | exact HB.out | apply below_alloc | apply pw_below_drewN | apply below_drew1 | refine below_set ?_ GE293.out | refine below_set ?_ GE294.out) | exact HB.out)⟩
 replace c27 := Bool.eq_false_iff.mpr c27
 subst c27
 have H1 : ((refute_Walk.f kj3 a0_0 a0_1 a0_2 l0_3 l0_4 l0_5 a1 l2_0 l2_1).bind fun bt298 => ((jacquardref28_Valid.f kj3 a0_0 a0_1 a0_2 l0_3 l0_4 l0_5).bind fun t300 => (if t300 = true then (if a0_2 = true then (if a1 < 1 then (jacquardlaw34_RefuteWalks.j1 kj3 a1 bt298.1 bt298.2 true a0_0 a0_1 a0_2 l0_3 l0_4 l0_5 l2_0 l2_1) else (jacquardlaw34_RefuteWalks.j1 kj3 a1 bt298.1 bt298.2 (decide (a1 > 256)) a0_0 a0_1 a0_2 l0_3 l0_4 l0_5 l2_0 l2_1)) else (jacquardlaw34_RefuteWalks.j1 kj3 a1 bt298.1 bt298.2 true a0_0 a0_1 a0_2 l0_3 l0_4 l0_5 l2_0 l2_1)) else (jacquardlaw34_RefuteWalks.j1 kj3 a1 bt298.1 bt298.2 true a0_0 a0_1 a0_2 l0_3 l0_4 l0_5 l2_0 l2_1)))) = some r := by rw [if_neg (show ¬ (false = true) by decide)] at H; exact H
 clear H
 have H := H1
 clear H1
 replace H := Option.bind_eq_some_iff.mp H
 obtain ⟨⟨t298, t299⟩, A300, H⟩ := H
 replace H : ((jacquardref28_Valid.f kj3 a0_0 a0_1 a0_2 l0_3 l0_4 l0_5).bind fun t300 => (if t300 = true then (if a0_2 = true then (if a1 < 1 then (jacquardlaw34_RefuteWalks.j1 kj3 a1 t298 t299 true a0_0 a0_1 a0_2 l0_3 l0_4 l0_5 l2_0 l2_1) else (jacquardlaw34_RefuteWalks.j1 kj3 a1 t298 t299 (decide (a1 > 256)) a0_0 a0_1 a0_2 l0_3 l0_4 l0_5 l2_0 l2_1)) else (jacquardlaw34_RefuteWalks.j1 kj3 a1 t298 t299 true a0_0 a0_1 a0_2 l0_3 l0_4 l0_5 l2_0 l2_1)) else (jacquardlaw34_RefuteWalks.j1 kj3 a1 t298 t299 true a0_0 a0_1 a0_2 l0_3 l0_4 l0_5 l2_0 l2_1))) = some r := H
 have A30 := Aside0.mk A300
 clear A300
 have HC31 := Aside0.mk H
 clear H
 have hnb32 := NB293_294.out
 have hnc32 := NB294_293.out
 obtain ⟨hcz33_0, hcz33_1, hcz33_2, hcz33_3, hcz33_4, hcz33_5⟩ := cells6 BK293
 obtain ⟨hfz33_0, hfz33_1, hfz33_2, hfz33_3, hfz33_4, hfz33_5⟩ := fz6 BK293
 obtain ⟨hcz34_0, hcz34_1⟩ := cells2 BK294
 obtain ⟨hfz34_0, hfz34_1⟩ := fz2 BK294
 go_upto_region 4 with (first | ((with_reducible refine gate_callee (f := 12) rfl ?_); refine gL_ 40 Try.func12 #[.agg #[.int .i64 a0_0, .int .i64 a0_1, .bool a0_2, .slice A0_3 l0_3.length c0_3, .slice A0_4 l0_4.length c0_4, .slice A0_5 l0_5.length c0_5], .int .i64 a1, .slice A2_0 l2_0.length c2_0, .slice A2_1 l2_1.length c2_1] ?_; (with_reducible refine (refute_Walk.calls kj3 a0_0 a0_1 a0_2 _ _ l0_3 _ _ l0_4 _ _ l0_5 a1 _ _ l2_0 _ _ l2_1 t298 t299 _ ?side1 ?side2 ?side3 ?side4 ?side5 ?side6 ?side7 ?side8 ?side9 ?side10 A30.out).mono ?_); (case side1 => exact CB_ HR0_3); (case side2 => exact HC0_3.out); (case side3 => exact CB_ HR0_4); (case side4 => exact HC0_4.out); (case side5 => exact CB_ HR0_5); (case side6 => exact HC0_5.out); (case side7 => exact CB_ HR2_0); (case side8 => exact HC2_0.out); (case side9 => exact CB_ HR2_1); (case side10 => exact HC2_1.out); rintro e w35 ⟨rfl, hb⟩; refine ⟨_, rfl, ?_⟩; have n0_ := Aside0.mk (blk_below (K_ BK293) hb); have n1_ := Aside0.mk (blk_below (K_ BK294) hb); have n2_ := Aside0.mk (below_step bl_ hb); clear BK293; clear BK294; clear HB; have BK293 := n0_; have BK294 := n1_; have HB := n2_; clear n0_ n1_ n2_; (try clear hb); (try clear hb2); (try clear hk); (try clear hi)))
 (try simp only [Act.put, List.setIfInBounds_toArray, List.set_cons_zero, List.set_cons_succ])
 go_cut [58] (fun v58 wc => ∃ (kq : Nat) (x58_30 : Bool), v58 = .bool x58_30 ∧ Aside0 (jacquardlaw34_RefuteWalks.j1 kq a1 t298 t299 x58_30 a0_0 a0_1 a0_2 l0_3 l0_4 l0_5 l2_0 l2_1 = some r) ∧ Aside0 (kq ≤ kj3) ∧ Aside0 (wc.heap[gb293]? = some (.cells #[.int .i64 a0_0, .int .i64 a0_1, .bool a0_2, (.slice A0_3 l0_3.length c0_3), (.slice A0_4 l0_4.length c0_4), (.slice A0_5 l0_5.length c0_5)] 26 (0, 0))) ∧ Aside0 (wc.heap[gb294]? = some (.cells #[(.slice A2_0 l2_0.length c2_0), (.slice A2_1 l2_1.length c2_1)] 38 (0, 0))) ∧ Aside0 (Below w.heap.size w wc))
 case first =>
  have H := HC31.out
  clear HC31
  replace H := Option.bind_eq_some_iff.mp H
  obtain ⟨t300, A360, H⟩ := H
  replace H : (if t300 = true then (if a0_2 = true then (if a1 < 1 then (jacquardlaw34_RefuteWalks.j1 kj3 a1 t298 t299 true a0_0 a0_1 a0_2 l0_3 l0_4 l0_5 l2_0 l2_1) else (jacquardlaw34_RefuteWalks.j1 kj3 a1 t298 t299 (decide (a1 > 256)) a0_0 a0_1 a0_2 l0_3 l0_4 l0_5 l2_0 l2_1)) else (jacquardlaw34_RefuteWalks.j1 kj3 a1 t298 t299 true a0_0 a0_1 a0_2 l0_3 l0_4 l0_5 l2_0 l2_1)) else (jacquardlaw34_RefuteWalks.j1 kj3 a1 t298 t299 true a0_0 a0_1 a0_2 l0_3 l0_4 l0_5 l2_0 l2_1)) = some r := H
  have A36 := Aside0.mk A360
  clear A360
  by_cases c37 : t300 = true
  · subst c37
    have H1 : (if a0_2 = true then (if a1 < 1 then (jacquardlaw34_RefuteWalks.j1 kj3 a1 t298 t299 true a0_0 a0_1 a0_2 l0_3 l0_4 l0_5 l2_0 l2_1) else (jacquardlaw34_RefuteWalks.j1 kj3 a1 t298 t299 (decide (a1 > 256)) a0_0 a0_1 a0_2 l0_3 l0_4 l0_5 l2_0 l2_1)) else (jacquardlaw34_RefuteWalks.j1 kj3 a1 t298 t299 true a0_0 a0_1 a0_2 l0_3 l0_4 l0_5 l2_0 l2_1)) = some r := by rw [if_pos rfl] at H; exact H
    clear H
    have H := H1
    clear H1
    by_cases c38 : a0_2 = true
    · subst c38
      have H1 : (if a1 < 1 then (jacquardlaw34_RefuteWalks.j1 kj3 a1 t298 t299 true a0_0 a0_1 true l0_3 l0_4 l0_5 l2_0 l2_1) else (jacquardlaw34_RefuteWalks.j1 kj3 a1 t298 t299 (decide (a1 > 256)) a0_0 a0_1 true l0_3 l0_4 l0_5 l2_0 l2_1)) = some r := by rw [if_pos rfl] at H; exact H
      clear H
      have H := H1
      clear H1
      by_cases c39 : a1 < 1
      · rw [if_pos c39] at H
        have c39b0 : decide (a1 < 1) = true := decide_eq_true c39
        clear c39
        (first | rw [c39b0] | (simp only [i64_w, i32_w]; rw [c39b0]) | skip)
        have H' := Aside0.mk H
        clear H
        have hnb40 := NB293_294.out
        have hnc40 := NB294_293.out
        obtain ⟨hcz41_0, hcz41_1, hcz41_2, hcz41_3, hcz41_4, hcz41_5⟩ := cells6 BK293
        obtain ⟨hfz41_0, hfz41_1, hfz41_2, hfz41_3, hfz41_4, hfz41_5⟩ := fz6 BK293
        go_wp2_with (first | ((with_reducible refine gate_callee (f := 13) rfl ?_); refine gL_ 44 Try.func13 #[.agg #[.int .i64 a0_0, .int .i64 a0_1, .bool true, .slice A0_3 l0_3.length c0_3, .slice A0_4 l0_4.length c0_4, .slice A0_5 l0_5.length c0_5]] ?_; (with_reducible refine (jacquardref28_Valid.calls kj3 a0_0 a0_1 true _ _ l0_3 _ _ l0_4 _ _ l0_5 true _ ?side1 ?side2 ?side3 ?side4 ?side5 ?side6 A36.out).mono ?_); (case side1 => exact CB_ HR0_3); (case side2 => exact HC0_3.out); (case side3 => exact CB_ HR0_4); (case side4 => exact HC0_4.out); (case side5 => exact CB_ HR0_5); (case side6 => exact HC0_5.out); rintro e w42 ⟨rfl, hb⟩; refine ⟨_, rfl, ?_⟩; have n0_ := Aside0.mk (blk_below (K_ BK293) hb); have n1_ := Aside0.mk (blk_below (K_ BK294) hb); have n2_ := Aside0.mk (below_step bl_ hb); clear BK293; clear BK294; clear HB; have BK293 := n0_; have BK294 := n1_; have HB := n2_; clear n0_ n1_ n2_; (try clear hb); (try clear hb2); (try clear hk); (try clear hi); obtain ⟨hcz43_0, hcz43_1, hcz43_2, hcz43_3, hcz43_4, hcz43_5⟩ := cells6 BK293; obtain ⟨hfz43_0, hfz43_1, hfz43_2, hfz43_3, hfz43_4, hfz43_5⟩ := fz6 BK293))
        go_meet
        case rel => exact ⟨_, (true), (by first | rfl | (simp; done) | (simp [*]; done)), H', ⟨by have := HJ3.out; first | omega | exact Nat.le_refl _⟩, ⟨K_ BK293⟩, ⟨K_ BK294⟩, ⟨bl_⟩⟩
      rw [if_neg c39] at H
      have c39b0 : decide (a1 < 1) = false := decide_eq_false c39
      clear c39
      (first | rw [c39b0] | (simp only [i64_w, i32_w]; rw [c39b0]) | skip)
      have H' := Aside0.mk H
      clear H
      have hnb44 := NB293_294.out
      have hnc44 := NB294_293.out
      obtain ⟨hcz45_0, hcz45_1, hcz45_2, hcz45_3, hcz45_4, hcz45_5⟩ := cells6 BK293
      obtain ⟨hfz45_0, hfz45_1, hfz45_2, hfz45_3, hfz45_4, hfz45_5⟩ := fz6 BK293
      go_wp2_with (first | ((with_reducible refine gate_callee (f := 13) rfl ?_); refine gL_ 44 Try.func13 #[.agg #[.int .i64 a0_0, .int .i64 a0_1, .bool true, .slice A0_3 l0_3.length c0_3, .slice A0_4 l0_4.length c0_4, .slice A0_5 l0_5.length c0_5]] ?_; (with_reducible refine (jacquardref28_Valid.calls kj3 a0_0 a0_1 true _ _ l0_3 _ _ l0_4 _ _ l0_5 true _ ?side1 ?side2 ?side3 ?side4 ?side5 ?side6 A36.out).mono ?_); (case side1 => exact CB_ HR0_3); (case side2 => exact HC0_3.out); (case side3 => exact CB_ HR0_4); (case side4 => exact HC0_4.out); (case side5 => exact CB_ HR0_5); (case side6 => exact HC0_5.out); rintro e w46 ⟨rfl, hb⟩; refine ⟨_, rfl, ?_⟩; have n0_ := Aside0.mk (blk_below (K_ BK293) hb); have n1_ := Aside0.mk (blk_below (K_ BK294) hb); have n2_ := Aside0.mk (below_step bl_ hb); clear BK293; clear BK294; clear HB; have BK293 := n0_; have BK294 := n1_; have HB := n2_; clear n0_ n1_ n2_; (try clear hb); (try clear hb2); (try clear hk); (try clear hi); obtain ⟨hcz47_0, hcz47_1, hcz47_2, hcz47_3, hcz47_4, hcz47_5⟩ := cells6 BK293; obtain ⟨hfz47_0, hfz47_1, hfz47_2, hfz47_3, hfz47_4, hfz47_5⟩ := fz6 BK293))
      go_meet
      case rel => exact ⟨_, (decide (a1 > 256)), (by first | rfl | (simp; done) | (simp [*]; done)), H', ⟨by have := HJ3.out; first | omega | exact Nat.le_refl _⟩, ⟨K_ BK293⟩, ⟨K_ BK294⟩, ⟨bl_⟩⟩
    replace c38 := Bool.eq_false_iff.mpr c38
    subst c38
    have H1 : (jacquardlaw34_RefuteWalks.j1 kj3 a1 t298 t299 true a0_0 a0_1 false l0_3 l0_4 l0_5 l2_0 l2_1) = some r := by rw [if_neg (show ¬ (false = true) by decide)] at H; exact H
    clear H
    have H := H1
    clear H1
    have H' := Aside0.mk H
    clear H
    have hnb48 := NB293_294.out
    have hnc48 := NB294_293.out
    obtain ⟨hcz49_0, hcz49_1, hcz49_2, hcz49_3, hcz49_4, hcz49_5⟩ := cells6 BK293
    obtain ⟨hfz49_0, hfz49_1, hfz49_2, hfz49_3, hfz49_4, hfz49_5⟩ := fz6 BK293
    go_wp2_with (first | ((with_reducible refine gate_callee (f := 13) rfl ?_); refine gL_ 44 Try.func13 #[.agg #[.int .i64 a0_0, .int .i64 a0_1, .bool false, .slice A0_3 l0_3.length c0_3, .slice A0_4 l0_4.length c0_4, .slice A0_5 l0_5.length c0_5]] ?_; (with_reducible refine (jacquardref28_Valid.calls kj3 a0_0 a0_1 false _ _ l0_3 _ _ l0_4 _ _ l0_5 true _ ?side1 ?side2 ?side3 ?side4 ?side5 ?side6 A36.out).mono ?_); (case side1 => exact CB_ HR0_3); (case side2 => exact HC0_3.out); (case side3 => exact CB_ HR0_4); (case side4 => exact HC0_4.out); (case side5 => exact CB_ HR0_5); (case side6 => exact HC0_5.out); rintro e w50 ⟨rfl, hb⟩; refine ⟨_, rfl, ?_⟩; have n0_ := Aside0.mk (blk_below (K_ BK293) hb); have n1_ := Aside0.mk (blk_below (K_ BK294) hb); have n2_ := Aside0.mk (below_step bl_ hb); clear BK293; clear BK294; clear HB; have BK293 := n0_; have BK294 := n1_; have HB := n2_; clear n0_ n1_ n2_; (try clear hb); (try clear hb2); (try clear hk); (try clear hi); obtain ⟨hcz51_0, hcz51_1, hcz51_2, hcz51_3, hcz51_4, hcz51_5⟩ := cells6 BK293; obtain ⟨hfz51_0, hfz51_1, hfz51_2, hfz51_3, hfz51_4, hfz51_5⟩ := fz6 BK293))
    go_meet
    case rel => exact ⟨_, (true), (by first | rfl | (simp; done) | (simp [*]; done)), H', ⟨by have := HJ3.out; first | omega | exact Nat.le_refl _⟩, ⟨K_ BK293⟩, ⟨K_ BK294⟩, ⟨bl_⟩⟩
  replace c37 := Bool.eq_false_iff.mpr c37
  subst c37
  have H1 : (jacquardlaw34_RefuteWalks.j1 kj3 a1 t298 t299 true a0_0 a0_1 a0_2 l0_3 l0_4 l0_5 l2_0 l2_1) = some r := by rw [if_neg (show ¬ (false = true) by decide)] at H; exact H
  clear H
  have H := H1
  clear H1
  have H' := Aside0.mk H
  clear H
  have hnb52 := NB293_294.out
  have hnc52 := NB294_293.out
  obtain ⟨hcz53_0, hcz53_1, hcz53_2, hcz53_3, hcz53_4, hcz53_5⟩ := cells6 BK293
  obtain ⟨hfz53_0, hfz53_1, hfz53_2, hfz53_3, hfz53_4, hfz53_5⟩ := fz6 BK293
  go_wp2_with (first | ((with_reducible refine gate_callee (f := 13) rfl ?_); refine gL_ 44 Try.func13 #[.agg #[.int .i64 a0_0, .int .i64 a0_1, .bool a0_2, .slice A0_3 l0_3.length c0_3, .slice A0_4 l0_4.length c0_4, .slice A0_5 l0_5.length c0_5]] ?_; (with_reducible refine (jacquardref28_Valid.calls kj3 a0_0 a0_1 a0_2 _ _ l0_3 _ _ l0_4 _ _ l0_5 false _ ?side1 ?side2 ?side3 ?side4 ?side5 ?side6 A36.out).mono ?_); (case side1 => exact CB_ HR0_3); (case side2 => exact HC0_3.out); (case side3 => exact CB_ HR0_4); (case side4 => exact HC0_4.out); (case side5 => exact CB_ HR0_5); (case side6 => exact HC0_5.out); rintro e w54 ⟨rfl, hb⟩; refine ⟨_, rfl, ?_⟩; have n0_ := Aside0.mk (blk_below (K_ BK293) hb); have n1_ := Aside0.mk (blk_below (K_ BK294) hb); have n2_ := Aside0.mk (below_step bl_ hb); clear BK293; clear BK294; clear HB; have BK293 := n0_; have BK294 := n1_; have HB := n2_; clear n0_ n1_ n2_; (try clear hb); (try clear hb2); (try clear hk); (try clear hi)))
  go_meet
  case rel => exact ⟨_, (true), (by first | rfl | (simp; done) | (simp [*]; done)), H', ⟨by have := HJ3.out; first | omega | exact Nat.le_refl _⟩, ⟨K_ BK293⟩, ⟨K_ BK294⟩, ⟨bl_⟩⟩
 clear HC31
 (try clear c1); (try clear c2); (try clear p2); (try clear c3); (try clear c4); (try clear c5); (try clear c6); (try clear c8); (try clear c10); (try clear c11); (try clear c11b0); (try clear c11b1); (try clear c12); (try clear c13); (try clear c18); (try clear c23); (try clear c27); (try clear c32); (try clear c37); (try clear c38); (try clear c39); (try clear c39b0); (try clear c40); (try clear c44); (try clear c48); (try clear c52); (try clear hcz14_0); (try clear hcz14_1); (try clear hcz14_2); (try clear hcz14_3); (try clear hcz14_4); (try clear hcz14_5); (try clear hcz16_0); (try clear hcz16_1); (try clear hcz19_0); (try clear hcz19_1); (try clear hcz19_2); (try clear hcz19_3); (try clear hcz19_4); (try clear hcz19_5)
 (try clear hcz21_0); (try clear hcz21_1); (try clear hcz24_0); (try clear hcz24_1); (try clear hcz24_2); (try clear hcz24_3); (try clear hcz24_4); (try clear hcz24_5); (try clear hcz33_0); (try clear hcz33_1); (try clear hcz33_2); (try clear hcz33_3); (try clear hcz33_4); (try clear hcz33_5); (try clear hcz34_0); (try clear hcz34_1); (try clear hcz41_0); (try clear hcz41_1); (try clear hcz41_2); (try clear hcz41_3); (try clear hcz41_4); (try clear hcz41_5); (try clear hcz43_0); (try clear hcz43_1); (try clear hcz43_2); (try clear hcz43_3); (try clear hcz43_4); (try clear hcz43_5); (try clear hcz45_0); (try clear hcz45_1); (try clear hcz45_2); (try clear hcz45_3); (try clear hcz45_4); (try clear hcz45_5); (try clear hcz47_0); (try clear hcz47_1); (try clear hcz47_2); (try clear hcz47_3); (try clear hcz47_4); (try clear hcz47_5)
 (try clear hcz49_0); (try clear hcz49_1); (try clear hcz49_2); (try clear hcz49_3); (try clear hcz49_4); (try clear hcz49_5); (try clear hcz51_0); (try clear hcz51_1); (try clear hcz51_2); (try clear hcz51_3); (try clear hcz51_4); (try clear hcz51_5); (try clear hcz53_0); (try clear hcz53_1); (try clear hcz53_2); (try clear hcz53_3); (try clear hcz53_4); (try clear hcz53_5); (try clear hfz14_0); (try clear hfz14_1); (try clear hfz14_2); (try clear hfz14_3); (try clear hfz14_4); (try clear hfz14_5); (try clear hfz16_0); (try clear hfz16_1); (try clear hfz19_0); (try clear hfz19_1); (try clear hfz19_2); (try clear hfz19_3); (try clear hfz19_4); (try clear hfz19_5); (try clear hfz21_0); (try clear hfz21_1); (try clear hfz24_0); (try clear hfz24_1); (try clear hfz24_2); (try clear hfz24_3); (try clear hfz24_4); (try clear hfz24_5)
 (try clear hfz33_0); (try clear hfz33_1); (try clear hfz33_2); (try clear hfz33_3); (try clear hfz33_4); (try clear hfz33_5); (try clear hfz34_0); (try clear hfz34_1); (try clear hfz41_0); (try clear hfz41_1); (try clear hfz41_2); (try clear hfz41_3); (try clear hfz41_4); (try clear hfz41_5); (try clear hfz43_0); (try clear hfz43_1); (try clear hfz43_2); (try clear hfz43_3); (try clear hfz43_4); (try clear hfz43_5); (try clear hfz45_0); (try clear hfz45_1); (try clear hfz45_2); (try clear hfz45_3); (try clear hfz45_4); (try clear hfz45_5); (try clear hfz47_0); (try clear hfz47_1); (try clear hfz47_2); (try clear hfz47_3); (try clear hfz47_4); (try clear hfz47_5); (try clear hfz49_0); (try clear hfz49_1); (try clear hfz49_2); (try clear hfz49_3); (try clear hfz49_4); (try clear hfz49_5); (try clear hfz51_0); (try clear hfz51_1)
 (try clear hfz51_2); (try clear hfz51_3); (try clear hfz51_4); (try clear hfz51_5); (try clear hfz53_0); (try clear hfz53_1); (try clear hfz53_2); (try clear hfz53_3); (try clear hfz53_4); (try clear hfz53_5); (try clear p2)
 obtain ⟨kq, x58_30, rfl, HA, HJ30, BK293, BK294, HB⟩ := hcut
 cases kq with
 | zero => exact absurd HA.out (by simp [jacquardlaw34_RefuteWalks.j1])
 | succ kj30 => ?_
 have H := HA.out
 clear HA
 simp only [jacquardlaw34_RefuteWalks.j1] at H
 by_cases c55 : x58_30 = true
 · subst c55
   have H1 : (if t299 = true then (some false) else (some (t298 == 0))) = some r := by rw [if_pos rfl] at H; exact H
   clear H
   have H := H1
   clear H1
   by_cases c56 : t299 = true
   · subst c56
     have H1 : (some false) = some r := by rw [if_pos rfl] at H; exact H
     clear H
     have H := H1
     clear H1
     exact absurd ((Option.some.inj H).trans HRT_.out) Bool.false_ne_true
   replace c56 := Bool.eq_false_iff.mpr c56
   subst c56
   have H1 : (some (t298 == 0)) = some r := by rw [if_neg (show ¬ (false = true) by decide)] at H; exact H
   clear H
   have H := H1
   clear H1
   obtain rfl := Option.some.inj H
   go_wp2
   go_ret
   exact ⟨by first | rfl | (simp [errW_none, errW_some] <;> rfl) | (simp [*, errW_none, errW_some] <;> rfl), by repeat (first | (with_reducible first | exact HB.out | apply below_alloc | apply pw_below_drewN | apply below_drew1 | refine below_set ?_ GE293.out | refine below_set ?_ GE294.out) | exact HB.out)⟩
 replace c55 := Bool.eq_false_iff.mpr c55
 subst c55
 have H1 : (jacquardlaw34_RefuteWalks.l0 kj30 a1 t298 t299 ([] : List (S44)) (l2_0.length : Int) 0 a0_0 a0_1 a0_2 l0_3 l0_4 l0_5 l2_0 l2_1) = some r := by rw [if_neg (show ¬ (false = true) by decide)] at H; exact H
 clear H
 have H := H1
 clear H1
 have H' := Aside0.mk H
 clear H
 have hnb57 := NB294_293.out
 have hnc57 := NB293_294.out
 obtain ⟨hcz58_0, hcz58_1⟩ := cells2 BK294
 obtain ⟨hfz58_0, hfz58_1⟩ := fz2 BK294
 go_wp2
 go_loopg [9, 68] kj30 (fun kq v9 v68 w' => ∃ (x9_3 : List (S44)) (x68_3 : Int), v68 = .int .i64 x68_3 ∧ Aside0 (jacquardlaw34_RefuteWalks.l0 kq a1 t298 t299 x9_3 (l2_0.length : Int) x68_3 a0_0 a0_1 a0_2 l0_3 l0_4 l0_5 l2_0 l2_1 = some r) ∧ Aside0 (kq ≤ kj30) ∧ Aside0 (Kd.R k44 44 w' w.heap.size (fun _ => True) v9 x9_3) ∧ Aside0 (w'.heap[gb293]? = some (.cells #[.int .i64 a0_0, .int .i64 a0_1, .bool a0_2, (.slice A0_3 l0_3.length c0_3), (.slice A0_4 l0_4.length c0_4), (.slice A0_5 l0_5.length c0_5)] 26 (0, 0))) ∧ Aside0 (w'.heap[gb294]? = some (.cells #[(.slice A2_0 l2_0.length c2_0), (.slice A2_1 l2_1.length c2_1)] 38 (0, 0))) ∧ Aside0 (Below w.heap.size w w'))
 case atStart => exact ⟨(([] : List (S44))), (0), (by first | rfl | (simp; done) | (simp [*]; done)), H', ⟨Nat.le_refl _⟩, ⟨by first | exact Kd.R_nil _ _ _ _ _ | exact Kd.N_nil _ _ _ _ _ | exact Kd.V_nil _ _ _ _ _ | exact Kd.Q_nil _ _ _ _ _ | exact Kd.S_nil _ _ _ _ _⟩, ⟨K_ BK293⟩, ⟨K_ BK294⟩, ⟨bl_⟩⟩
 clear H'
 (try clear c1); (try clear c2); (try clear p2); (try clear c3); (try clear c4); (try clear c5); (try clear c6); (try clear c8); (try clear c10); (try clear c11); (try clear c11b0); (try clear c11b1); (try clear c12); (try clear c13); (try clear c18); (try clear c23); (try clear c27); (try clear c32); (try clear c37); (try clear c38); (try clear c39); (try clear c39b0); (try clear c40); (try clear c44); (try clear c48); (try clear c52); (try clear c55); (try clear c56); (try clear c57); (try clear hcz14_0); (try clear hcz14_1); (try clear hcz14_2); (try clear hcz14_3); (try clear hcz14_4); (try clear hcz14_5); (try clear hcz16_0); (try clear hcz16_1); (try clear hcz19_0); (try clear hcz19_1); (try clear hcz19_2)
 (try clear hcz19_3); (try clear hcz19_4); (try clear hcz19_5); (try clear hcz21_0); (try clear hcz21_1); (try clear hcz24_0); (try clear hcz24_1); (try clear hcz24_2); (try clear hcz24_3); (try clear hcz24_4); (try clear hcz24_5); (try clear hcz33_0); (try clear hcz33_1); (try clear hcz33_2); (try clear hcz33_3); (try clear hcz33_4); (try clear hcz33_5); (try clear hcz34_0); (try clear hcz34_1); (try clear hcz41_0); (try clear hcz41_1); (try clear hcz41_2); (try clear hcz41_3); (try clear hcz41_4); (try clear hcz41_5); (try clear hcz43_0); (try clear hcz43_1); (try clear hcz43_2); (try clear hcz43_3); (try clear hcz43_4); (try clear hcz43_5); (try clear hcz45_0); (try clear hcz45_1); (try clear hcz45_2); (try clear hcz45_3); (try clear hcz45_4); (try clear hcz45_5); (try clear hcz47_0); (try clear hcz47_1); (try clear hcz47_2)
 (try clear hcz47_3); (try clear hcz47_4); (try clear hcz47_5); (try clear hcz49_0); (try clear hcz49_1); (try clear hcz49_2); (try clear hcz49_3); (try clear hcz49_4); (try clear hcz49_5); (try clear hcz51_0); (try clear hcz51_1); (try clear hcz51_2); (try clear hcz51_3); (try clear hcz51_4); (try clear hcz51_5); (try clear hcz53_0); (try clear hcz53_1); (try clear hcz53_2); (try clear hcz53_3); (try clear hcz53_4); (try clear hcz53_5); (try clear hcz58_0); (try clear hcz58_1); (try clear hfz14_0); (try clear hfz14_1); (try clear hfz14_2); (try clear hfz14_3); (try clear hfz14_4); (try clear hfz14_5); (try clear hfz16_0); (try clear hfz16_1); (try clear hfz19_0); (try clear hfz19_1); (try clear hfz19_2); (try clear hfz19_3); (try clear hfz19_4); (try clear hfz19_5); (try clear hfz21_0); (try clear hfz21_1); (try clear hfz24_0)
 (try clear hfz24_1); (try clear hfz24_2); (try clear hfz24_3); (try clear hfz24_4); (try clear hfz24_5); (try clear hfz33_0); (try clear hfz33_1); (try clear hfz33_2); (try clear hfz33_3); (try clear hfz33_4); (try clear hfz33_5); (try clear hfz34_0); (try clear hfz34_1); (try clear hfz41_0); (try clear hfz41_1); (try clear hfz41_2); (try clear hfz41_3); (try clear hfz41_4); (try clear hfz41_5); (try clear hfz43_0); (try clear hfz43_1); (try clear hfz43_2); (try clear hfz43_3); (try clear hfz43_4); (try clear hfz43_5); (try clear hfz45_0); (try clear hfz45_1); (try clear hfz45_2); (try clear hfz45_3); (try clear hfz45_4); (try clear hfz45_5); (try clear hfz47_0); (try clear hfz47_1); (try clear hfz47_2); (try clear hfz47_3); (try clear hfz47_4); (try clear hfz47_5); (try clear hfz49_0); (try clear hfz49_1); (try clear hfz49_2)
 (try clear hfz49_3); (try clear hfz49_4); (try clear hfz49_5); (try clear hfz51_0); (try clear hfz51_1); (try clear hfz51_2); (try clear hfz51_3); (try clear hfz51_4); (try clear hfz51_5); (try clear hfz53_0); (try clear hfz53_1); (try clear hfz53_2); (try clear hfz53_3); (try clear hfz53_4); (try clear hfz53_5); (try clear hfz58_0); (try clear hfz58_1); (try clear p2)
 obtain ⟨x9_3, x68_3, rfl, HA, HK3, HO_9, BK293, BK294, HB⟩ := hrel
 cases gk with
 | zero => exact absurd HA.out (by simp [jacquardlaw34_RefuteWalks.l0])
 | succ k3 => ?_
 have H := HA.out
 clear HA
 simp only [jacquardlaw34_RefuteWalks.l0] at H
 by_cases c59 : x68_3 < (l2_0.length : Int)
 · rw [if_pos c59] at H
   have c59b0 : decide (x68_3 < (l2_0.length : Int)) = true := decide_eq_true c59
   clear c59
   have HC60 := Aside0.mk H
   clear H
   go_upto_region 10 with (fail)
   go_cut [82] (fun v82 wc => ∃ (kq : Nat) (x82_59 : Bool), v82 = .bool x82_59 ∧ Aside0 (jacquardlaw34_RefuteWalks.j3 kq a1 t298 t299 x9_3 x68_3 (l2_0.length : Int) x68_3 x82_59 a0_0 a0_1 a0_2 l0_3 l0_4 l0_5 l2_0 l2_1 = some r) ∧ Aside0 (kq ≤ k3) ∧ Aside0 (Kd.R k44 44 wc w.heap.size (fun _ => True) u9 x9_3) ∧ Aside0 (wc.heap[gb293]? = some (.cells #[.int .i64 a0_0, .int .i64 a0_1, .bool a0_2, (.slice A0_3 l0_3.length c0_3), (.slice A0_4 l0_4.length c0_4), (.slice A0_5 l0_5.length c0_5)] 26 (0, 0))) ∧ Aside0 (wc.heap[gb294]? = some (.cells #[(.slice A2_0 l2_0.length c2_0), (.slice A2_1 l2_1.length c2_1)] 38 (0, 0))) ∧ Aside0 (Below w.heap.size w wc))
   case first =>
    have H := HC60.out
    clear HC60
    by_cases c61 : x68_3 < a0_0
    · rw [if_pos c61] at H
      have c61b0 : decide (x68_3 < a0_0) = true := decide_eq_true c61
      clear c61
      (first | rw [c61b0] | (simp only [i64_w, i32_w]; rw [c61b0]) | skip)
      by_cases c62 : 0 ≤ x68_3
      · rw [if_pos c62] at H
        have c62b0 : decide (0 ≤ x68_3) = true := decide_eq_true c62
        clear c62
        by_cases c63 : x68_3 < (l2_0.length : Int)
        · rw [if_pos c63] at H
          have c63b0 : decide (x68_3 < (l2_0.length : Int)) = true := decide_eq_true c63
          clear c63
          have H' := Aside0.mk H
          clear H
          have hnb64 := NB293_294.out
          have hnc64 := NB294_293.out
          obtain ⟨hcz65_0, hcz65_1, hcz65_2, hcz65_3, hcz65_4, hcz65_5⟩ := cells6 BK293
          obtain ⟨hfz65_0, hfz65_1, hfz65_2, hfz65_3, hfz65_4, hfz65_5⟩ := fz6 BK293
          obtain ⟨hcz66_0, hcz66_1⟩ := cells2 BK294
          obtain ⟨hfz66_0, hfz66_1⟩ := fz2 BK294
          have p301 : 0 ≤ (x68_3 : Int) := of_decide_eq_true (by first | (with_reducible assumption) | assumption)
          have q301 : x68_3 < (l2_0.length : Int) := of_decide_eq_true (by first | (with_reducible assumption) | assumption)
          obtain ⟨ad301, e301, hx301_0⟩ := Kd.at_int HR2_0.out x68_3 p301 q301
          cases e301
          replace hx301_0 := hc_ HB hx301_0
          replace p301 := eq_true p301
          replace q301 := eq_true q301
          go_wp2
          go_meet
          case rel => exact ⟨_, (decide ((rd l2_0 x68_3) ≥ 0)), (by first | rfl | (simp; done) | (simp [*]; done)), H', ⟨by have := HJ3.out; have := HJ30.out; have := HK3.out; first | omega | exact Nat.le_refl _⟩, ⟨R_ HO_9⟩, ⟨K_ BK293⟩, ⟨K_ BK294⟩, ⟨bl_⟩⟩
        rw [if_neg c63] at H
        exact absurd H (by simp)
      rw [if_neg c62] at H
      exact absurd H (by simp)
    rw [if_neg c61] at H
    have c61b0 : decide (x68_3 < a0_0) = false := decide_eq_false c61
    clear c61
    (first | rw [c61b0] | (simp only [i64_w, i32_w]; rw [c61b0]) | skip)
    have H' := Aside0.mk H
    clear H
    have hnb67 := NB293_294.out
    have hnc67 := NB294_293.out
    obtain ⟨hcz68_0, hcz68_1, hcz68_2, hcz68_3, hcz68_4, hcz68_5⟩ := cells6 BK293
    obtain ⟨hfz68_0, hfz68_1, hfz68_2, hfz68_3, hfz68_4, hfz68_5⟩ := fz6 BK293
    go_wp2
    go_meet
    case rel => exact ⟨_, (false), (by first | rfl | (simp; done) | (simp [*]; done)), H', ⟨by have := HJ3.out; have := HJ30.out; have := HK3.out; first | omega | exact Nat.le_refl _⟩, ⟨R_ HO_9⟩, ⟨K_ BK293⟩, ⟨K_ BK294⟩, ⟨bl_⟩⟩
   clear HC60
   (try clear c1); (try clear c2); (try clear p2); (try clear c3); (try clear p3); (try clear q3); (try clear hx3); (try clear c4); (try clear c5); (try clear c6); (try clear c8); (try clear c10); (try clear c11); (try clear c11b0); (try clear c11b1); (try clear c12); (try clear c13); (try clear c18); (try clear c23); (try clear c27); (try clear p30); (try clear q30); (try clear hx30); (try clear c32); (try clear c37); (try clear c38); (try clear c39); (try clear c39b0); (try clear c40); (try clear c44); (try clear c48); (try clear c52); (try clear c55); (try clear c56); (try clear c57); (try clear c59); (try clear c59b0); (try clear c61); (try clear c61b0); (try clear c62)
   (try clear c62b0); (try clear c63); (try clear c63b0); (try clear c64); (try clear c67); (try clear hcz14_0); (try clear hcz14_1); (try clear hcz14_2); (try clear hcz14_3); (try clear hcz14_4); (try clear hcz14_5); (try clear hcz16_0); (try clear hcz16_1); (try clear hcz19_0); (try clear hcz19_1); (try clear hcz19_2); (try clear hcz19_3); (try clear hcz19_4); (try clear hcz19_5); (try clear hcz21_0); (try clear hcz21_1); (try clear hcz24_0); (try clear hcz24_1); (try clear hcz24_2); (try clear hcz24_3); (try clear hcz24_4); (try clear hcz24_5); (try clear hcz33_0); (try clear hcz33_1); (try clear hcz33_2); (try clear hcz33_3); (try clear hcz33_4); (try clear hcz33_5); (try clear hcz34_0); (try clear hcz34_1); (try clear hcz41_0); (try clear hcz41_1); (try clear hcz41_2); (try clear hcz41_3); (try clear hcz41_4)
   (try clear hcz41_5); (try clear hcz43_0); (try clear hcz43_1); (try clear hcz43_2); (try clear hcz43_3); (try clear hcz43_4); (try clear hcz43_5); (try clear hcz45_0); (try clear hcz45_1); (try clear hcz45_2); (try clear hcz45_3); (try clear hcz45_4); (try clear hcz45_5); (try clear hcz47_0); (try clear hcz47_1); (try clear hcz47_2); (try clear hcz47_3); (try clear hcz47_4); (try clear hcz47_5); (try clear hcz49_0); (try clear hcz49_1); (try clear hcz49_2); (try clear hcz49_3); (try clear hcz49_4); (try clear hcz49_5); (try clear hcz51_0); (try clear hcz51_1); (try clear hcz51_2); (try clear hcz51_3); (try clear hcz51_4); (try clear hcz51_5); (try clear hcz53_0); (try clear hcz53_1); (try clear hcz53_2); (try clear hcz53_3); (try clear hcz53_4); (try clear hcz53_5); (try clear hcz58_0); (try clear hcz58_1); (try clear hcz65_0)
   (try clear hcz65_1); (try clear hcz65_2); (try clear hcz65_3); (try clear hcz65_4); (try clear hcz65_5); (try clear hcz66_0); (try clear hcz66_1); (try clear hcz68_0); (try clear hcz68_1); (try clear hcz68_2); (try clear hcz68_3); (try clear hcz68_4); (try clear hcz68_5); (try clear hfz14_0); (try clear hfz14_1); (try clear hfz14_2); (try clear hfz14_3); (try clear hfz14_4); (try clear hfz14_5); (try clear hfz16_0); (try clear hfz16_1); (try clear hfz19_0); (try clear hfz19_1); (try clear hfz19_2); (try clear hfz19_3); (try clear hfz19_4); (try clear hfz19_5); (try clear hfz21_0); (try clear hfz21_1); (try clear hfz24_0); (try clear hfz24_1); (try clear hfz24_2); (try clear hfz24_3); (try clear hfz24_4); (try clear hfz24_5); (try clear hfz33_0); (try clear hfz33_1); (try clear hfz33_2); (try clear hfz33_3); (try clear hfz33_4)
   (try clear hfz33_5); (try clear hfz34_0); (try clear hfz34_1); (try clear hfz41_0); (try clear hfz41_1); (try clear hfz41_2); (try clear hfz41_3); (try clear hfz41_4); (try clear hfz41_5); (try clear hfz43_0); (try clear hfz43_1); (try clear hfz43_2); (try clear hfz43_3); (try clear hfz43_4); (try clear hfz43_5); (try clear hfz45_0); (try clear hfz45_1); (try clear hfz45_2); (try clear hfz45_3); (try clear hfz45_4); (try clear hfz45_5); (try clear hfz47_0); (try clear hfz47_1); (try clear hfz47_2); (try clear hfz47_3); (try clear hfz47_4); (try clear hfz47_5); (try clear hfz49_0); (try clear hfz49_1); (try clear hfz49_2); (try clear hfz49_3); (try clear hfz49_4); (try clear hfz49_5); (try clear hfz51_0); (try clear hfz51_1); (try clear hfz51_2); (try clear hfz51_3); (try clear hfz51_4); (try clear hfz51_5); (try clear hfz53_0)
   (try clear hfz53_1); (try clear hfz53_2); (try clear hfz53_3); (try clear hfz53_4); (try clear hfz53_5); (try clear hfz58_0); (try clear hfz58_1); (try clear hfz65_0); (try clear hfz65_1); (try clear hfz65_2); (try clear hfz65_3); (try clear hfz65_4); (try clear hfz65_5); (try clear hfz66_0); (try clear hfz66_1); (try clear hfz68_0); (try clear hfz68_1); (try clear hfz68_2); (try clear hfz68_3); (try clear hfz68_4); (try clear hfz68_5); (try clear hx301_0); (try clear p2); (try clear p301); (try clear q301)
   obtain ⟨kq, x82_59, rfl, HA, HJ59, HO_9, BK293, BK294, HB⟩ := hcut
   cases kq with
   | zero => exact absurd HA.out (by simp [jacquardlaw34_RefuteWalks.j3])
   | succ kj59 => ?_
   have H := HA.out
   clear HA
   simp only [jacquardlaw34_RefuteWalks.j3] at H
   by_cases c69 : x82_59 = true
   · subst c69
     have H1 : (if 0 ≤ x68_3 then (if x68_3 < (l2_0.length : Int) then (if a1 = 0 then (none) else (if x9_3.length < 5864062014805 then (jacquardlaw34_RefuteWalks.l0 kj59 a1 t298 t299 (x9_3 ++ [(⟨x68_3, Int.tmod (rd l2_0 x68_3) a1, 0⟩ : S44)]) (l2_0.length : Int) (wrap64 (x68_3 + 1)) a0_0 a0_1 a0_2 l0_3 l0_4 l0_5 l2_0 l2_1) else (none))) else (none)) else (none)) = some r := by rw [if_pos rfl] at H; exact H
     clear H
     have H := H1
     clear H1
     by_cases c70 : 0 ≤ x68_3
     · rw [if_pos c70] at H
       have c70b0 : decide (0 ≤ x68_3) = true := decide_eq_true c70
       clear c70
       by_cases c71 : x68_3 < (l2_0.length : Int)
       · rw [if_pos c71] at H
         have c71b0 : decide (x68_3 < (l2_0.length : Int)) = true := decide_eq_true c71
         clear c71
         by_cases c72 : a1 = 0
         · rw [if_pos c72] at H
           exact absurd H (by simp)
         rw [if_neg c72] at H
         have c72b0 : (a1 == 0) = false := beq_eq_false_iff_ne.mpr c72
         have c72b1 : (a1 != 0) = true := bne_iff_ne.mpr c72
         by_cases c73 : x9_3.length < 5864062014805
         · rw [if_pos c73] at H
           have LMc73 := Aside0.mk c73
           clear c73
           obtain ⟨y303, hy303⟩ : ∃ y_ : List (S44), y_ = (x9_3 ++ [(⟨x68_3, Int.tmod (rd l2_0 x68_3) a1, 0⟩ : S44)]) := ⟨_, rfl⟩
           replace H : (jacquardlaw34_RefuteWalks.l0 kj59 a1 t298 t299 y303 (l2_0.length : Int) (wrap64 (x68_3 + 1)) a0_0 a0_1 a0_2 l0_3 l0_4 l0_5 l2_0 l2_1) = some r := by first | (rw [hy303]; with_reducible exact H) | (have H2_ := (Option.bind_some _ _).symm.trans H; rw [hy303]; with_reducible exact H2_) | (have H2_ := (Option.bind_some _ _).symm.trans H; with_reducible exact H2_) | with_reducible exact H | (rw [hy303]; exact H) | exact H
           have Ny303 := Aside0.mk hy303
           clear hy303
           have H' := Aside0.mk H
           clear H
           have hnb74 := NB294_293.out
           have hnc74 := NB293_294.out
           obtain ⟨hcz75_0, hcz75_1⟩ := cells2 BK294
           obtain ⟨hfz75_0, hfz75_1⟩ := fz2 BK294
           have p302 : 0 ≤ (x68_3 : Int) := of_decide_eq_true (by first | (with_reducible assumption) | assumption)
           have q302 : x68_3 < (l2_0.length : Int) := of_decide_eq_true (by first | (with_reducible assumption) | assumption)
           obtain ⟨ad302, e302, hx302_0⟩ := Kd.at_int HR2_0.out x68_3 p302 q302
           cases e302
           replace hx302_0 := hc_ HB hx302_0
           replace p302 := eq_true p302
           replace q302 := eq_true q302
           go_wp2_with (first | ((with_reducible refine gate_builtin (b := .append) (xs := #[.tmp 83, .tmp 93]) rfl ?_); (try (refine gate_guard (by rfl) ?_; dsimp only)); at_builtin; refine Kd.R_append k44 (w0 := w) w.heap.size rfl (.tmp 83) (.tmp 93) 42 44 (.agg #[(.int .i64 0), (.int .i64 0), (.int .i64 0)]) 24 rfl Try.underlying42 info44 rfl (by decide) (by omega) u9 x9_3 (⟨x68_3, Int.tmod (rd l2_0 x68_3) a1, 0⟩ : S44) [.int .i64 x68_3, .int .i64 (Int.tmod (rd l2_0 x68_3) a1), .int .i64 0] (fun _ => True) (fun _ => False) rfl rfl ?aP (fun _ hk => hk.elim) ?aF ?aO ?aB ?aS ?aL ?_; (case aP => exact k44_mkM _ _ _ (⟨x68_3, Int.tmod (rd l2_0 x68_3) a1, 0⟩ : S44)); (case aB => exact bl_); (case aF => exact (fun _ _ => trivial)); (case aO => exact (R_ HO_9)); (case aS => exact (below_size bl_)); (case aL => have := LMc73.out; omega); intro v304 w76 ho hb hg hat; rw [← Ny303.out] at ho; have n0_ := Aside0.mk (blk_grown (K_ BK293) hg (Kd.R_ne HO_9.out BK293.out (by decide))); have n1_ := Aside0.mk (blk_grown (K_ BK294) hg (Kd.R_ne HO_9.out BK294.out (by decide))); have n2_ := Aside0.mk (hb); have n3_ := Aside0.mk (ho); clear BK293; clear BK294; clear HB; clear HO_9; have BK293 := n0_; have BK294 := n1_; have HB := n2_; have HO305 := n3_; clear n0_ n1_ n2_ n3_; clear ho hb hg hat))
           go_roundg kj59
           case measure => have := HJ3.out; have := HJ30.out; have := HK3.out; have := HJ59.out; omega
           case rel => exact ⟨(y303), (wrap64 (x68_3 + 1)), (by first | rfl | (simp; done) | (simp [*]; done)), H', ⟨by have := HJ3.out; have := HJ30.out; have := HK3.out; have := HJ59.out; omega⟩, ⟨R_ HO305⟩, ⟨K_ BK293⟩, ⟨K_ BK294⟩, ⟨bl_⟩⟩
         rw [if_neg c73] at H
         exact absurd H (by simp)
       rw [if_neg c71] at H
       exact absurd H (by simp)
     rw [if_neg c70] at H
     exact absurd H (by simp)
   replace c69 := Bool.eq_false_iff.mpr c69
   subst c69
   have H1 : (jacquardlaw34_RefuteWalks.l0 kj59 a1 t298 t299 x9_3 (l2_0.length : Int) (wrap64 (x68_3 + 1)) a0_0 a0_1 a0_2 l0_3 l0_4 l0_5 l2_0 l2_1) = some r := by rw [if_neg (show ¬ (false = true) by decide)] at H; exact H
   clear H
   have H := H1
   clear H1
   have H' := Aside0.mk H
   clear H
   go_wp2
   go_roundg kj59
   case measure => have := HJ3.out; have := HJ30.out; have := HK3.out; have := HJ59.out; omega
   case rel => exact ⟨(x9_3), (wrap64 (x68_3 + 1)), (by first | rfl | (simp; done) | (simp [*]; done)), H', ⟨by have := HJ3.out; have := HJ30.out; have := HK3.out; have := HJ59.out; omega⟩, ⟨R_ HO_9⟩, ⟨K_ BK293⟩, ⟨K_ BK294⟩, ⟨bl_⟩⟩
 rw [if_neg c59] at H
 have c59b0 : decide (x68_3 < (l2_0.length : Int)) = false := decide_eq_false c59
 clear c59
 replace H := Option.bind_eq_some_iff.mp H
 obtain ⟨⟨t306, t307⟩, A770, H⟩ := H
 replace H : (if t298 = t306 then (some (t299 == t307)) else (some false)) = some r := H
 have A77 := Aside0.mk A770
 clear A770
 by_cases c78 : t298 = t306
 · rw [if_pos c78] at H
   have c78b0 : (t298 == t306) = true := beq_iff_eq.mpr c78
   have c78b1 : (t298 != t306) = false := bne_eq_false_iff_eq.mpr c78
   clear c78
   obtain rfl := Option.some.inj H
   have hnb79 := NB293_294.out
   have hnc79 := NB294_293.out
   obtain ⟨hcz80_0, hcz80_1, hcz80_2, hcz80_3, hcz80_4, hcz80_5⟩ := cells6 BK293
   obtain ⟨hfz80_0, hfz80_1, hfz80_2, hfz80_3, hfz80_4, hfz80_5⟩ := fz6 BK293
   obtain ⟨hcz81_0, hcz81_1⟩ := cells2 BK294
   obtain ⟨hfz81_0, hfz81_1⟩ := fz2 BK294
   obtain ⟨Ao82, co82, eo82⟩ := Kd.R_slice HO_9.out
   subst eo82
   go_wp2_with (first | ((with_reducible refine gate_callee (f := 14) rfl ?_); refine gL_ 102 Try.func14 #[.agg #[.int .i64 a0_0, .int .i64 a0_1, .bool a0_2, .slice A0_3 l0_3.length c0_3, .slice A0_4 l0_4.length c0_4, .slice A0_5 l0_5.length c0_5], .int .i64 a1, .slice Ao82 x9_3.length co82, .slice A2_1 l2_1.length c2_1] ?_; (with_reducible refine (jacquardref33_Walk.calls k3 a0_0 a0_1 a0_2 _ _ l0_3 _ _ l0_4 _ _ l0_5 a1 _ _ x9_3 _ _ l2_1 t306 t307 _ ?side1 ?side2 ?side3 ?side4 ?side5 ?side6 ?side7 ?side8 ?side9 ?side10 A77.out).mono ?_); (case side1 => exact CB_ HR0_3); (case side2 => exact HC0_3.out); (case side3 => exact CB_ HR0_4); (case side4 => exact HC0_4.out); (case side5 => exact CB_ HR0_5); (case side6 => exact HC0_5.out); (case side7 => exact CR_ HO_9); (case side8 => exact (Kd.R_reads' HO_9.out).2.1); (case side9 => exact CB_ HR2_1); (case side10 => exact HC2_1.out); rintro e w83 ⟨rfl, hb⟩; refine ⟨_, rfl, ?_⟩; have n0_ := Aside0.mk (Kd.R_below (R_ HO_9) hb); have n1_ := Aside0.mk (blk_below (K_ BK293) hb); have n2_ := Aside0.mk (blk_below (K_ BK294) hb); have n3_ := Aside0.mk (below_step bl_ hb); clear HO_9; clear BK293; clear BK294; clear HB; have HO_9 := n0_; have BK293 := n1_; have BK294 := n2_; have HB := n3_; clear n0_ n1_ n2_ n3_; (try clear hb); (try clear hb2); (try clear hk); (try clear hi)))
   go_ret
   exact ⟨by first | rfl | (simp [errW_none, errW_some] <;> rfl) | (simp [*, errW_none, errW_some] <;> rfl), by repeat (first | (with_reducible first | exact HB.out | apply below_alloc | apply pw_below_drewN | apply below_drew1 | refine below_set ?_ GE293.out | refine below_set ?_ GE294.out) | exact HB.out)⟩
 rw [if_neg c78] at H
 have c78b0 : (t298 == t306) = false := beq_eq_false_iff_ne.mpr c78
 have c78b1 : (t298 != t306) = true := bne_iff_ne.mpr c78
 exact absurd ((Option.some.inj H).trans HRT_.out) Bool.false_ne_true
end Go.Proofs.Ytpmlbbglekaidaa.PAll
