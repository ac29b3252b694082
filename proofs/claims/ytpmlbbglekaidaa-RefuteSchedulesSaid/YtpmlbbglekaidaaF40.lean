-- Written for this claim by programs of this session (wip/print2 in its repo: a changed printer, a shortener, a packer). Lean checks it.
import Derived.Test.YtpmlbbglekaidaaP0
import Derived.Test.YtpmlbbglekaidaaF50
namespace Go.Proofs.Ytpmlbbglekaidaa.PAll
open Go.RowKit Go.Proofs.YtpmlbbglekaidaaW.PrintWords Go.Proofs.YtpmlbbglekaidaaW.PrintLast Go.Proofs.YtpmlbbglekaidaaW.PrintMore
attribute [local go_sem] max2_int min2_int max_two min_two max_three min_three max_four min_four   -- for this text's walks alone
set_option linter.unusedVariables false
set_option linter.unusedSimpArgs false

/-! ### jacquardref28_Clash: function 40 -/
mutual
def jacquardref28_Clash.j0 : Nat → Int → Int → Bool → Int → Int → Bool → List (S48) → List (S50) → List (S52) → Int → Int → List Int → List Int → List Int → Option (Bool)
  | 0, _, _, _, _, _, _, _, _, _, _, _, _, _, _ => none
  | k + 1, x2, x3, x46, x346000, x346001, x346002, x346003, x346004, x346005, x347000, x347001, x347002, x347003, x347004 => if x46 = true then (some false) else (if x2 = x3 then (if x347000 > 0 then (if 0 ≤ x2 then (if x2 < (x346005.length : Int) then (some (decide (((rd_T52 x346005 x2).f1) > x347000))) else (none)) else (none)) else (some false)) else (if 0 ≤ x2 then (if x2 < (x347002.length : Int) then (if 0 ≤ x3 then (if x3 < (x347002.length : Int) then (if x347000 > 0 then (jacquardref28_Clash.j1 k x2 x3 0 (wrap64 (x347000 - 1)) x346000 x346001 x346002 x346003 x346004 x346005 x347000 x347001 x347002 x347003 x347004) else (jacquardref28_Clash.j1 k x2 x3 (mn (rd x347002 x2) (rd x347002 x3)) (wrap64 ((mx (rd x347002 x2) (rd x347002 x3)) + 256)) x346000 x346001 x346002 x346003 x346004 x346005 x347000 x347001 x347002 x347003 x347004)) else (none)) else (none)) else (none)) else (none)))
def jacquardref28_Clash.j1 : Nat → Int → Int → Int → Int → Int → Int → Bool → List (S48) → List (S50) → List (S52) → Int → Int → List Int → List Int → List Int → Option (Bool)
  | 0, _, _, _, _, _, _, _, _, _, _, _, _, _, _, _ => none
  | k + 1, x2, x3, x9, x10, x346000, x346001, x346002, x346003, x346004, x346005, x347000, x347001, x347002, x347003, x347004 => jacquardref28_Clash.l0 k x2 x3 x10 x9 x346000 x346001 x346002 x346003 x346004 x346005 x347000 x347001 x347002 x347003 x347004
def jacquardref28_Clash.l0 : Nat → Int → Int → Int → Int → Int → Int → Bool → List (S48) → List (S50) → List (S52) → Int → Int → List Int → List Int → List Int → Option (Bool)
  | 0, _, _, _, _, _, _, _, _, _, _, _, _, _, _, _ => none
  | k + 1, x2, x3, x10, x11, x346000, x346001, x346002, x346003, x346004, x346005, x347000, x347001, x347002, x347003, x347004 => if x11 ≤ x10 then ((jacquardref28_Occupies.f x346000 x346001 x346002 x346003 x346004 x346005 x347000 x347001 x347002 x347003 x347004 x2 x11).bind fun t357 => (if t357 = true then ((jacquardref28_Occupies.f x346000 x346001 x346002 x346003 x346004 x346005 x347000 x347001 x347002 x347003 x347004 x3 x11).bind fun t358 => (jacquardref28_Clash.j3 k x2 x3 x10 x11 t358 x346000 x346001 x346002 x346003 x346004 x346005 x347000 x347001 x347002 x347003 x347004)) else (jacquardref28_Clash.j3 k x2 x3 x10 x11 false x346000 x346001 x346002 x346003 x346004 x346005 x347000 x347001 x347002 x347003 x347004))) else (some false)
def jacquardref28_Clash.j3 : Nat → Int → Int → Int → Int → Bool → Int → Int → Bool → List (S48) → List (S50) → List (S52) → Int → Int → List Int → List Int → List Int → Option (Bool)
  | 0, _, _, _, _, _, _, _, _, _, _, _, _, _, _, _, _ => none
  | k + 1, x2, x3, x10, x11, x110, x346000, x346001, x346002, x346003, x346004, x346005, x347000, x347001, x347002, x347003, x347004 => if x110 = true then (some true) else (jacquardref28_Clash.l0 k x2 x3 x10 (wrap64 (x11 + 1)) x346000 x346001 x346002 x346003 x346004 x346005 x347000 x347001 x347002 x347003 x347004)
end
def jacquardref28_Clash.f (k : Nat) (a0_0 : Int) (a0_1 : Int) (a0_2 : Bool) (l0_3 : List (S48)) (l0_4 : List (S50)) (l0_5 : List (S52)) (a1_0 : Int) (a1_1 : Int) (l1_2 : List Int) (l1_3 : List Int) (l1_4 : List Int) (a2 : Int) (a3 : Int) : Option (Bool) := if 0 ≤ a2 then (if a2 < (l0_5.length : Int) then (if ((rd_T52 l0_5 a2).f0) < 0 then (jacquardref28_Clash.j0 k a2 a3 true a0_0 a0_1 a0_2 l0_3 l0_4 l0_5 a1_0 a1_1 l1_2 l1_3 l1_4) else (if 0 ≤ a3 then (if a3 < (l0_5.length : Int) then (if ((rd_T52 l0_5 a2).f0) = ((rd_T52 l0_5 a3).f0) then (if a2 < (l1_4.length : Int) then (if a3 < (l1_4.length : Int) then (jacquardref28_Clash.j0 k a2 a3 ((rd l1_4 a2) != (rd l1_4 a3)) a0_0 a0_1 a0_2 l0_3 l0_4 l0_5 a1_0 a1_1 l1_2 l1_3 l1_4) else (none)) else (none)) else (jacquardref28_Clash.j0 k a2 a3 true a0_0 a0_1 a0_2 l0_3 l0_4 l0_5 a1_0 a1_1 l1_2 l1_3 l1_4)) else (none)) else (none))) else (none)) else (none)
theorem jacquardref28_Clash.mono_l : ∀ k, (∀ y0 y1 y2 y3 y4 y5 y6 y7 y8 y9 y10 y11 y12 y13, LeO (jacquardref28_Clash.j0 k y0 y1 y2 y3 y4 y5 y6 y7 y8 y9 y10 y11 y12 y13) (jacquardref28_Clash.j0 (k + 1) y0 y1 y2 y3 y4 y5 y6 y7 y8 y9 y10 y11 y12 y13)) ∧ (∀ y0 y1 y2 y3 y4 y5 y6 y7 y8 y9 y10 y11 y12 y13 y14, LeO (jacquardref28_Clash.j1 k y0 y1 y2 y3 y4 y5 y6 y7 y8 y9 y10 y11 y12 y13 y14) (jacquardref28_Clash.j1 (k + 1) y0 y1 y2 y3 y4 y5 y6 y7 y8 y9 y10 y11 y12 y13 y14)) ∧ (∀ y0 y1 y2 y3 y4 y5 y6 y7 y8 y9 y10 y11 y12 y13 y14, LeO (jacquardref28_Clash.l0 k y0 y1 y2 y3 y4 y5 y6 y7 y8 y9 y10 y11 y12 y13 y14) (jacquardref28_Clash.l0 (k + 1) y0 y1 y2 y3 y4 y5 y6 y7 y8 y9 y10 y11 y12 y13 y14)) ∧ (∀ y0 y1 y2 y3 y4 y5 y6 y7 y8 y9 y10 y11 y12 y13 y14 y15, LeO (jacquardref28_Clash.j3 k y0 y1 y2 y3 y4 y5 y6 y7 y8 y9 y10 y11 y12 y13 y14 y15) (jacquardref28_Clash.j3 (k + 1) y0 y1 y2 y3 y4 y5 y6 y7 y8 y9 y10 y11 y12 y13 y14 y15))
  | 0 => by refine ⟨?_, ?_, ?_, ?_⟩ <;> intros <;> intro r h <;> simp [jacquardref28_Clash.j0, jacquardref28_Clash.j1, jacquardref28_Clash.l0, jacquardref28_Clash.j3] at h
  | k + 1 => by
    obtain ⟨ih0, ih1, ih2, ih3⟩ := jacquardref28_Clash.mono_l k
    refine ⟨?_, ?_, ?_, ?_⟩ <;> intros <;> (first | unfold jacquardref28_Clash.j0 | unfold jacquardref28_Clash.j1 | unfold jacquardref28_Clash.l0 | unfold jacquardref28_Clash.j3) <;> repeat' first | (with_reducible first | apply ih0 | apply ih1 | apply ih2 | apply ih3 | exact LeO.refl _ | exact LeO.none _ | refine LeO.ite ?_ ?_ | refine LeO.bind ?_ (fun _ => ?_)) | apply ih0 | apply ih1 | apply ih2 | apply ih3 | exact LeO.none _ | refine LeO.ite ?_ ?_ | refine LeO.bind ?_ (fun _ => ?_)
theorem jacquardref28_Clash.mono : ∀ a0 a1 a2 a3 a4 a5 a6 a7 a8 a9 a10 a11 a12 k, LeO (jacquardref28_Clash.f k a0 a1 a2 a3 a4 a5 a6 a7 a8 a9 a10 a11 a12) (jacquardref28_Clash.f (k + 1) a0 a1 a2 a3 a4 a5 a6 a7 a8 a9 a10 a11 a12) := by
 intro a0 a1 a2 a3 a4 a5 a6 a7 a8 a9 a10 a11 a12 k
 obtain ⟨ih0, ih1, ih2, ih3⟩ := jacquardref28_Clash.mono_l k
 unfold jacquardref28_Clash.f
 repeat' first | (with_reducible first | apply ih0 | apply ih1 | apply ih2 | apply ih3 | exact LeO.refl _ | exact LeO.none _ | refine LeO.ite ?_ ?_ | refine LeO.bind ?_ (fun _ => ?_)) | apply ih0 | apply ih1 | apply ih2 | apply ih3 | exact LeO.none _ | refine LeO.ite ?_ ?_ | refine LeO.bind ?_ (fun _ => ?_)
set_option maxHeartbeats 8000000 in
set_option maxRecDepth 100000 in
theorem jacquardref28_Clash.calls (k : Nat) (a0_0 : Int) (a0_1 : Int) (a0_2 : Bool) (A0_3 : Option Addr) (c0_3 : Nat) (l0_3 : List (S48)) (A0_4 : Option Addr) (c0_4 : Nat) (l0_4 : List (S50)) (A0_5 : Option Addr) (c0_5 : Nat) (l0_5 : List (S52)) (a1_0 : Int) (a1_1 : Int) (A1_2 : Option Addr) (c1_2 : Nat) (l1_2 : List Int) (A1_3 : Option Addr) (c1_3 : Nat) (l1_3 : List Int) (A1_4 : Option Addr) (c1_4 : Nat) (l1_4 : List Int) (a2 : Int) (a3 : Int) (r : Bool) (w : World) (hr0_3 : Kd.C k48 w A0_3 l0_3.length l0_3) (hc0_3 : l0_3.length ≤ c0_3) (hr0_4 : Kd.C k50 w A0_4 l0_4.length l0_4) (hc0_4 : l0_4.length ≤ c0_4) (hr0_5 : Kd.C k52 w A0_5 l0_5.length l0_5) (hc0_5 : l0_5.length ≤ c0_5) (hr1_2 : Kd.C (Kd.int .i64) w A1_2 l1_2.length l1_2) (hc1_2 : l1_2.length ≤ c1_2) (hr1_3 : Kd.C (Kd.int .i64) w A1_3 l1_3.length l1_3) (hc1_3 : l1_3.length ≤ c1_3) (hr1_4 : Kd.C (Kd.int .i64) w A1_4 l1_4.length l1_4) (hc1_4 : l1_4.length ≤ c1_4) (h : jacquardref28_Clash.f k a0_0 a0_1 a0_2 l0_3 l0_4 l0_5 a1_0 a1_1 l1_2 l1_3 l1_4 a2 a3 = some r) :
    Calls Try.prog 40 #[.agg #[.int .i64 a0_0, .int .i64 a0_1, .bool a0_2, .slice A0_3 l0_3.length c0_3, .slice A0_4 l0_4.length c0_4, .slice A0_5 l0_5.length c0_5], .agg #[.int .i64 a1_0, .int .i64 a1_1, .slice A1_2 l1_2.length c1_2, .slice A1_3 l1_3.length c1_3, .slice A1_4 l1_4.length c1_4], .int .i64 a2, .int .i64 a3] w fun e w' => e = .returned (.bool r) ∧ Below w.heap.size w w' := by
 have hu26 := Try.underlying26
 have hu35 := Try.underlying35
 have HR0_3 := Aside0.mk hr0_3
 have HC0_3 := Aside0.mk hc0_3
 clear hr0_3 hc0_3
 have HR0_4 := Aside0.mk hr0_4
 have HC0_4 := Aside0.mk hc0_4
 clear hr0_4 hc0_4
 have HR0_5 := Aside0.mk hr0_5
 have HC0_5 := Aside0.mk hc0_5
 clear hr0_5 hc0_5
 have HR1_2 := Aside0.mk hr1_2
 have HC1_2 := Aside0.mk hc1_2
 clear hr1_2 hc1_2
 have HR1_3 := Aside0.mk hr1_3
 have HC1_3 := Aside0.mk hc1_3
 clear hr1_3 hc1_3
 have HR1_4 := Aside0.mk hr1_4
 have HC1_4 := Aside0.mk hc1_4
 clear hr1_4 hc1_4
 have HB := Aside0.mk (Below.refl w.heap.size w)
 have H : (if 0 ≤ a2 then (if a2 < (l0_5.length : Int) then (if ((rd_T52 l0_5 a2).f0) < 0 then (jacquardref28_Clash.j0 k a2 a3 true a0_0 a0_1 a0_2 l0_3 l0_4 l0_5 a1_0 a1_1 l1_2 l1_3 l1_4) else (if 0 ≤ a3 then (if a3 < (l0_5.length : Int) then (if ((rd_T52 l0_5 a2).f0) = ((rd_T52 l0_5 a3).f0) then (if a2 < (l1_4.length : Int) then (if a3 < (l1_4.length : Int) then (jacquardref28_Clash.j0 k a2 a3 ((rd l1_4 a2) != (rd l1_4 a3)) a0_0 a0_1 a0_2 l0_3 l0_4 l0_5 a1_0 a1_1 l1_2 l1_3 l1_4) else (none)) else (none)) else (jacquardref28_Clash.j0 k a2 a3 true a0_0 a0_1 a0_2 l0_3 l0_4 l0_5 a1_0 a1_1 l1_2 l1_3 l1_4)) else (none)) else (none))) else (none)) else (none)) = some r := h
 clear h
 have HC5 := Aside0.mk H
 clear H
 go_enter Try.func40, Try.ntmps40
 go_upto_region 1 with (first | ((with_reducible refine gate_dst (N := 4) rfl ?_); refine box_event ?hg (N := 4) ?hd (cs := #[.int .i64 a0_0, .int .i64 a0_1, .bool a0_2, .slice A0_3 l0_3.length c0_3, .slice A0_4 l0_4.length c0_4, .slice A0_5 l0_5.length c0_5]) (t := 26) ?hr ?_; (case hd => rfl); (case hg => rfl); (case hr => first | (go_simp; done) | (go_simp; rfl)); intro gb345 hg w6 hbox hb; have n0_ := Aside0.mk (below_step bl_ hb); have n1_ := Aside0.mk (hbox); have n2_ := Aside0.mk (gl_ (w := w) hg); have n3_ := Aside0.mk (gl_ (w := w) hg); clear HB; have HB := n0_; have BK345 := n1_; have GW345 := n2_; have GE345 := n3_; clear n0_ n1_ n2_ n3_; clear hb hbox hg) | ((with_reducible refine gate_dst (N := 5) rfl ?_); refine box_event ?hg (N := 5) ?hd (cs := #[.int .i64 a1_0, .int .i64 a1_1, .slice A1_2 l1_2.length c1_2, .slice A1_3 l1_3.length c1_3, .slice A1_4 l1_4.length c1_4]) (t := 35) ?hr ?_; (case hd => rfl); (case hg => rfl); (case hr => first | (go_simp; done) | (go_simp; rfl)); intro gb346 hg w7 hbox hb; have n0_ := Aside0.mk (blk_below (K_ BK345) hb); have n1_ := Aside0.mk (below_step bl_ hb); have n2_ := Aside0.mk (hbox); have n3_ := Aside0.mk (gl_ (w := w) hg); have n4_ := Aside0.mk (gl_ (w := w) hg); have n5_ := Aside0.mk (nl_ hg (K_ BK345)); have n6_ := Aside0.mk (ng_ hg (K_ BK345)); clear BK345; clear HB; have BK345 := n0_; have HB := n1_; have BK346 := n2_; have GW346 := n3_; have GE346 := n4_; have NB345_346 := n5_; have NB346_345 := n6_; clear n0_ n1_ n2_ n3_ n4_ n5_ n6_; clear hb hbox hg))
 repeat (go_quiet (first | ((with_reducible refine gate_dst (N := 4) rfl ?_); refine box_event ?hg (N := 4) ?hd (cs := #[.int .i64 a0_0, .int .i64 a0_1, .bool a0_2, .slice A0_3 l0_3.length c0_3, .slice A0_4 l0_4.length c0_4, .slice A0_5 l0_5.length c0_5]) (t := 26) ?hr ?_; (case hd => rfl); (case hg => rfl); (case hr => first | (go_simp; done) | (go_simp; rfl)); intro gb345 hg w6 hbox hb; have n0_ := Aside0.mk (below_step bl_ hb); have n1_ := Aside0.mk (hbox); have n2_ := Aside0.mk (gl_ (w := w) hg); have n3_ := Aside0.mk (gl_ (w := w) hg); clear HB; have HB := n0_; have BK345 := n1_; have GW345 := n2_; have GE345 := n3_; clear n0_ n1_ n2_ n3_; clear hb hbox hg) | ((with_reducible refine gate_dst (N := 5) rfl ?_); refine box_event ?hg (N := 5) ?hd (cs := #[.int .i64 a1_0, .int .i64 a1_1, .slice A1_2 l1_2.length c1_2, .slice A1_3 l1_3.length c1_3, .slice A1_4 l1_4.length c1_4]) (t := 35) ?hr ?_; (case hd => rfl); (case hg => rfl); (case hr => first | (go_simp; done) | (go_simp; rfl)); intro gb346 hg w7 hbox hb; have n0_ := Aside0.mk (blk_below (K_ BK345) hb); have n1_ := Aside0.mk (below_step bl_ hb); have n2_ := Aside0.mk (hbox); have n3_ := Aside0.mk (gl_ (w := w) hg); have n4_ := Aside0.mk (gl_ (w := w) hg); have n5_ := Aside0.mk (nl_ hg (K_ BK345)); have n6_ := Aside0.mk (ng_ hg (K_ BK345)); clear BK345; clear HB; have BK345 := n0_; have HB := n1_; have BK346 := n2_; have GW346 := n3_; have GE346 := n4_; have NB345_346 := n5_; have NB346_345 := n6_; clear n0_ n1_ n2_ n3_ n4_ n5_ n6_; clear hb hbox hg)); go_upto_region 1 with (first | ((with_reducible refine gate_dst (N := 4) rfl ?_); refine box_event ?hg (N := 4) ?hd (cs := #[.int .i64 a0_0, .int .i64 a0_1, .bool a0_2, .slice A0_3 l0_3.length c0_3, .slice A0_4 l0_4.length c0_4, .slice A0_5 l0_5.length c0_5]) (t := 26) ?hr ?_; (case hd => rfl); (case hg => rfl); (case hr => first | (go_simp; done) | (go_simp; rfl)); intro gb345 hg w6 hbox hb; have n0_ := Aside0.mk (below_step bl_ hb); have n1_ := Aside0.mk (hbox); have n2_ := Aside0.mk (gl_ (w := w) hg); have n3_ := Aside0.mk (gl_ (w := w) hg); clear HB; have HB := n0_; have BK345 := n1_; have GW345 := n2_; have GE345 := n3_; clear n0_ n1_ n2_ n3_; clear hb hbox hg) | ((with_reducible refine gate_dst (N := 5) rfl ?_); refine box_event ?hg (N := 5) ?hd (cs := #[.int .i64 a1_0, .int .i64 a1_1, .slice A1_2 l1_2.length c1_2, .slice A1_3 l1_3.length c1_3, .slice A1_4 l1_4.length c1_4]) (t := 35) ?hr ?_; (case hd => rfl); (case hg => rfl); (case hr => first | (go_simp; done) | (go_simp; rfl)); intro gb346 hg w7 hbox hb; have n0_ := Aside0.mk (blk_below (K_ BK345) hb); have n1_ := Aside0.mk (below_step bl_ hb); have n2_ := Aside0.mk (hbox); have n3_ := Aside0.mk (gl_ (w := w) hg); have n4_ := Aside0.mk (gl_ (w := w) hg); have n5_ := Aside0.mk (nl_ hg (K_ BK345)); have n6_ := Aside0.mk (ng_ hg (K_ BK345)); clear BK345; clear HB; have BK345 := n0_; have HB := n1_; have BK346 := n2_; have GW346 := n3_; have GE346 := n4_; have NB345_346 := n5_; have NB346_345 := n6_; clear n0_ n1_ n2_ n3_ n4_ n5_ n6_; clear hb hbox hg)))
 (try simp only [Act.put, List.setIfInBounds_toArray, List.set_cons_zero, List.set_cons_succ])
 go_cut [46] (fun v46 wc => ∃ (kq : Nat) (x46_4 : Bool), v46 = .bool x46_4 ∧ Aside0 (jacquardref28_Clash.j0 kq a2 a3 x46_4 a0_0 a0_1 a0_2 l0_3 l0_4 l0_5 a1_0 a1_1 l1_2 l1_3 l1_4 = some r) ∧ Aside0 (kq ≤ k) ∧ Aside0 (wc.heap[gb345]? = some (.cells #[.int .i64 a0_0, .int .i64 a0_1, .bool a0_2, (.slice A0_3 l0_3.length c0_3), (.slice A0_4 l0_4.length c0_4), (.slice A0_5 l0_5.length c0_5)] 26 (0, 0))) ∧ Aside0 (wc.heap[gb346]? = some (.cells #[.int .i64 a1_0, .int .i64 a1_1, (.slice A1_2 l1_2.length c1_2), (.slice A1_3 l1_3.length c1_3), (.slice A1_4 l1_4.length c1_4)] 35 (0, 0))) ∧ Aside0 (Below w.heap.size w wc))
 case first =>
  have H := HC5.out
  clear HC5
  by_cases c8 : 0 ≤ a2
  · rw [if_pos c8] at H
    have c8b0 : decide (0 ≤ a2) = true := decide_eq_true c8
    clear c8
    (first | rw [c8b0] | (simp only [i64_w, i32_w]; rw [c8b0]) | skip)
    by_cases c9 : a2 < (l0_5.length : Int)
    · rw [if_pos c9] at H
      have c9b0 : decide (a2 < (l0_5.length : Int)) = true := decide_eq_true c9
      clear c9
      by_cases c10 : ((rd_T52 l0_5 a2).f0) < 0
      · rw [if_pos c10] at H
        have c10b0 : decide (((rd_T52 l0_5 a2).f0) < 0) = true := decide_eq_true c10
        clear c10
        have H' := Aside0.mk H
        clear H
        obtain ⟨hcz12_0, hcz12_1, hcz12_2, hcz12_3, hcz12_4, hcz12_5⟩ := cells6 BK345
        have p347 : 0 ≤ (a2 : Int) := of_decide_eq_true (by first | (with_reducible assumption) | assumption)
        have q347 : a2 < (l0_5.length : Int) := of_decide_eq_true (by first | (with_reducible assumption) | assumption)
        obtain ⟨ad347, e347, hx347_0, hx347_1⟩ := at_T52 HR0_5.out a2 p347 q347
        cases e347
        replace hx347_0 := hc_ HB hx347_0
        replace hx347_1 := hc_ HB hx347_1
        replace p347 := eq_true p347
        replace q347 := eq_true q347
        go_wp2
        repeat (go_quiet (fail); try go_wp2)
        go_meet
        case rel => exact ⟨_, (true), (by first | rfl | (simp; done) | (simp [*]; done)), H', ⟨by first | omega | exact Nat.le_refl _⟩, ⟨K_ BK345⟩, ⟨K_ BK346⟩, ⟨bl_⟩⟩
      rw [if_neg c10] at H
      have c10b0 : decide (((rd_T52 l0_5 a2).f0) < 0) = false := decide_eq_false c10
      clear c10
      by_cases c13 : 0 ≤ a3
      · rw [if_pos c13] at H
        have c13b0 : decide (0 ≤ a3) = true := decide_eq_true c13
        clear c13
        by_cases c14 : a3 < (l0_5.length : Int)
        · rw [if_pos c14] at H
          have c14b0 : decide (a3 < (l0_5.length : Int)) = true := decide_eq_true c14
          clear c14
          by_cases c15 : ((rd_T52 l0_5 a2).f0) = ((rd_T52 l0_5 a3).f0)
          · rw [if_pos c15] at H
            have c15b0 : (((rd_T52 l0_5 a2).f0) == ((rd_T52 l0_5 a3).f0)) = true := beq_iff_eq.mpr c15
            have c15b1 : (((rd_T52 l0_5 a2).f0) != ((rd_T52 l0_5 a3).f0)) = false := bne_eq_false_iff_eq.mpr c15
            clear c15
            by_cases c16 : a2 < (l1_4.length : Int)
            · rw [if_pos c16] at H
              have c16b0 : decide (a2 < (l1_4.length : Int)) = true := decide_eq_true c16
              clear c16
              by_cases c17 : a3 < (l1_4.length : Int)
              · rw [if_pos c17] at H
                have c17b0 : decide (a3 < (l1_4.length : Int)) = true := decide_eq_true c17
                clear c17
                have H' := Aside0.mk H
                clear H
                obtain ⟨hcz19_0, hcz19_1, hcz19_2, hcz19_3, hcz19_4, hcz19_5⟩ := cells6 BK345
                have p347 : 0 ≤ (a2 : Int) := of_decide_eq_true (by first | (with_reducible assumption) | assumption)
                have q347 : a2 < (l0_5.length : Int) := of_decide_eq_true (by first | (with_reducible assumption) | assumption)
                obtain ⟨ad347, e347, hx347_0, hx347_1⟩ := at_T52 HR0_5.out a2 p347 q347
                cases e347
                replace hx347_0 := hc_ HB hx347_0
                replace hx347_1 := hc_ HB hx347_1
                replace p347 := eq_true p347
                replace q347 := eq_true q347
                have p348 : 0 ≤ (a2 : Int) := of_decide_eq_true (by first | (with_reducible assumption) | assumption)
                have q348 : a2 < (l0_5.length : Int) := of_decide_eq_true (by first | (with_reducible assumption) | assumption)
                obtain ⟨ad348, e348, hx348_0, hx348_1⟩ := at_T52 HR0_5.out a2 p348 q348
                obtain rfl : ad347 = ad348 := (by injection e348)
                replace hx348_0 := hc_ HB hx348_0
                replace hx348_1 := hc_ HB hx348_1
                replace p348 := eq_true p348
                replace q348 := eq_true q348
                have p349 : 0 ≤ (a3 : Int) := of_decide_eq_true (by first | (with_reducible assumption) | assumption)
                have q349 : a3 < (l0_5.length : Int) := of_decide_eq_true (by first | (with_reducible assumption) | assumption)
                obtain ⟨ad349, e349, hx349_0, hx349_1⟩ := at_T52 HR0_5.out a3 p349 q349
                obtain rfl : ad347 = ad349 := (by injection e349)
                replace hx349_0 := hc_ HB hx349_0
                replace hx349_1 := hc_ HB hx349_1
                replace p349 := eq_true p349
                replace q349 := eq_true q349
                obtain ⟨hcz20_0, hcz20_1, hcz20_2, hcz20_3, hcz20_4⟩ := cells5 BK346
                have p350 : 0 ≤ (a2 : Int) := of_decide_eq_true (by first | (with_reducible assumption) | assumption)
                have q350 : a2 < (l1_4.length : Int) := of_decide_eq_true (by first | (with_reducible assumption) | assumption)
                obtain ⟨ad350, e350, hx350_0⟩ := Kd.at_int HR1_4.out a2 p350 q350
                cases e350
                replace hx350_0 := hc_ HB hx350_0
                replace p350 := eq_true p350
                replace q350 := eq_true q350
                have p351 : 0 ≤ (a3 : Int) := of_decide_eq_true (by first | (with_reducible assumption) | assumption)
                have q351 : a3 < (l1_4.length : Int) := of_decide_eq_true (by first | (with_reducible assumption) | assumption)
                obtain ⟨ad351, e351, hx351_0⟩ := Kd.at_int HR1_4.out a3 p351 q351
                obtain rfl : ad350 = ad351 := (by injection e351)
                replace hx351_0 := hc_ HB hx351_0
                replace p351 := eq_true p351
                replace q351 := eq_true q351
                go_wp2
                repeat (go_quiet (fail); try go_wp2)
                go_meet
                case rel => exact ⟨_, (((rd l1_4 a2) != (rd l1_4 a3))), (by first | rfl | (simp; done) | (simp [*]; done)), H', ⟨by first | omega | exact Nat.le_refl _⟩, ⟨K_ BK345⟩, ⟨K_ BK346⟩, ⟨bl_⟩⟩
              rw [if_neg c17] at H
              exact absurd H (by simp)
            rw [if_neg c16] at H
            exact absurd H (by simp)
          rw [if_neg c15] at H
          have c15b0 : (((rd_T52 l0_5 a2).f0) == ((rd_T52 l0_5 a3).f0)) = false := beq_eq_false_iff_ne.mpr c15
          have c15b1 : (((rd_T52 l0_5 a2).f0) != ((rd_T52 l0_5 a3).f0)) = true := bne_iff_ne.mpr c15
          have H' := Aside0.mk H
          clear H
          obtain ⟨hcz22_0, hcz22_1, hcz22_2, hcz22_3, hcz22_4, hcz22_5⟩ := cells6 BK345
          have p347 : 0 ≤ (a2 : Int) := of_decide_eq_true (by first | (with_reducible assumption) | assumption)
          have q347 : a2 < (l0_5.length : Int) := of_decide_eq_true (by first | (with_reducible assumption) | assumption)
          obtain ⟨ad347, e347, hx347_0, hx347_1⟩ := at_T52 HR0_5.out a2 p347 q347
          cases e347
          replace hx347_0 := hc_ HB hx347_0
          replace hx347_1 := hc_ HB hx347_1
          replace p347 := eq_true p347
          replace q347 := eq_true q347
          have p348 : 0 ≤ (a2 : Int) := of_decide_eq_true (by first | (with_reducible assumption) | assumption)
          have q348 : a2 < (l0_5.length : Int) := of_decide_eq_true (by first | (with_reducible assumption) | assumption)
          obtain ⟨ad348, e348, hx348_0, hx348_1⟩ := at_T52 HR0_5.out a2 p348 q348
          obtain rfl : ad347 = ad348 := (by injection e348)
          replace hx348_0 := hc_ HB hx348_0
          replace hx348_1 := hc_ HB hx348_1
          replace p348 := eq_true p348
          replace q348 := eq_true q348
          have p349 : 0 ≤ (a3 : Int) := of_decide_eq_true (by first | (with_reducible assumption) | assumption)
          have q349 : a3 < (l0_5.length : Int) := of_decide_eq_true (by first | (with_reducible assumption) | assumption)
          obtain ⟨ad349, e349, hx349_0, hx349_1⟩ := at_T52 HR0_5.out a3 p349 q349
          obtain rfl : ad347 = ad349 := (by injection e349)
          replace hx349_0 := hc_ HB hx349_0
          replace hx349_1 := hc_ HB hx349_1
          replace p349 := eq_true p349
          replace q349 := eq_true q349
          go_wp2
          repeat (go_quiet (fail); try go_wp2)
          go_meet
          case rel => exact ⟨_, (true), (by first | rfl | (simp; done) | (simp [*]; done)), H', ⟨by first | omega | exact Nat.le_refl _⟩, ⟨K_ BK345⟩, ⟨K_ BK346⟩, ⟨bl_⟩⟩
        rw [if_neg c14] at H
        exact absurd H (by simp)
      rw [if_neg c13] at H
      exact absurd H (by simp)
    rw [if_neg c9] at H
    exact absurd H (by simp)
  rw [if_neg c8] at H
  exact absurd H (by simp)
 clear HC5
 obtain ⟨kq, x46_4, rfl, HA, HJ4, BK345, BK346, HB⟩ := hcut
 cases kq with
 | zero => exact absurd HA.out (by simp [jacquardref28_Clash.j0])
 | succ kj4 => ?_
 have H := HA.out
 clear HA
 simp only [jacquardref28_Clash.j0] at H
 by_cases c23 : x46_4 = true
 · subst c23
   have H1 : (some false) = some r := by rw [if_pos rfl] at H; exact H
   clear H
   have H := H1
   clear H1
   obtain rfl := Option.some.inj H
   go_wp2
   repeat (go_quiet (fail); try go_wp2)
   go_ret
   exact ⟨by first | rfl | (simp [errW_none, errW_some] <;> rfl) | (simp [*, errW_none, errW_some] <;> rfl), by repeat (first | (with_reducible first | exact HB.out | apply below_alloc | apply pw_below_drewN | apply below_drew1 | refine below_set ?_ GE345.out | refine below_set ?_ GE346.out) | exact HB.out)⟩
 replace c23 := Bool.eq_false_iff.mpr c23
 subst c23
 have H1 : (if a2 = a3 then (if a1_0 > 0 then (if 0 ≤ a2 then (if a2 < (l0_5.length : Int) then (some (decide (((rd_T52 l0_5 a2).f1) > a1_0))) else (none)) else (none)) else (some false)) else (if 0 ≤ a2 then (if a2 < (l1_2.length : Int) then (if 0 ≤ a3 then (if a3 < (l1_2.length : Int) then (if a1_0 > 0 then (jacquardref28_Clash.j1 kj4 a2 a3 0 (wrap64 (a1_0 - 1)) a0_0 a0_1 a0_2 l0_3 l0_4 l0_5 a1_0 a1_1 l1_2 l1_3 l1_4) else (jacquardref28_Clash.j1 kj4 a2 a3 (mn (rd l1_2 a2) (rd l1_2 a3)) (wrap64 ((mx (rd l1_2 a2) (rd l1_2 a3)) + 256)) a0_0 a0_1 a0_2 l0_3 l0_4 l0_5 a1_0 a1_1 l1_2 l1_3 l1_4)) else (none)) else (none)) else (none)) else (none))) = some r := by rw [if_neg (show ¬ (false = true) by decide)] at H; exact H
 clear H
 have H := H1
 clear H1
 by_cases c24 : a2 = a3
 · rw [if_pos c24] at H
   have c24b0 : (a2 == a3) = true := beq_iff_eq.mpr c24
   have c24b1 : (a2 != a3) = false := bne_eq_false_iff_eq.mpr c24
   clear c24
   by_cases c25 : a1_0 > 0
   · rw [if_pos c25] at H
     have c25b0 : decide (0 < a1_0) = true := decide_eq_true c25
     clear c25
     by_cases c26 : 0 ≤ a2
     · rw [if_pos c26] at H
       have c26b0 : decide (0 ≤ a2) = true := decide_eq_true c26
       clear c26
       by_cases c27 : a2 < (l0_5.length : Int)
       · rw [if_pos c27] at H
         have c27b0 : decide (a2 < (l0_5.length : Int)) = true := decide_eq_true c27
         clear c27
         obtain rfl := Option.some.inj H
         obtain ⟨hcz29_0, hcz29_1, hcz29_2, hcz29_3, hcz29_4⟩ := cells5 BK346
         obtain ⟨hcz30_0, hcz30_1, hcz30_2, hcz30_3, hcz30_4, hcz30_5⟩ := cells6 BK345
         have p352 : 0 ≤ (a2 : Int) := of_decide_eq_true (by first | (with_reducible assumption) | assumption)
         have q352 : a2 < (l0_5.length : Int) := of_decide_eq_true (by first | (with_reducible assumption) | assumption)
         obtain ⟨ad352, e352, hx352_0, hx352_1⟩ := at_T52 HR0_5.out a2 p352 q352
         cases e352
         replace hx352_0 := hc_ HB hx352_0
         replace hx352_1 := hc_ HB hx352_1
         replace p352 := eq_true p352
         replace q352 := eq_true q352
         go_wp2
         repeat (go_quiet (fail); try go_wp2)
         go_ret
         exact ⟨by first | rfl | (simp [errW_none, errW_some] <;> rfl) | (simp [*, errW_none, errW_some] <;> rfl), by repeat (first | (with_reducible first | exact HB.out | apply below_alloc | apply pw_below_drewN | apply below_drew1 | refine below_set ?_ GE345.out | refine below_set ?_ GE346.out) | exact HB.out)⟩
       rw [if_neg c27] at H
       exact absurd H (by simp)
     rw [if_neg c26] at H
     exact absurd H (by simp)
   rw [if_neg c25] at H
   have c25b0 : decide (0 < a1_0) = false := decide_eq_false c25
   clear c25
   obtain rfl := Option.some.inj H
   obtain ⟨hcz32_0, hcz32_1, hcz32_2, hcz32_3, hcz32_4⟩ := cells5 BK346
   go_wp2
   repeat (go_quiet (fail); try go_wp2)
   go_ret
   exact ⟨by first | rfl | (simp [errW_none, errW_some] <;> rfl) | (simp [*, errW_none, errW_some] <;> rfl), by repeat (first | (with_reducible first | exact HB.out | apply below_alloc | apply pw_below_drewN | apply below_drew1 | refine below_set ?_ GE345.out | refine below_set ?_ GE346.out) | exact HB.out)⟩
 rw [if_neg c24] at H
 have c24b0 : (a2 == a3) = false := beq_eq_false_iff_ne.mpr c24
 have c24b1 : (a2 != a3) = true := bne_iff_ne.mpr c24
 by_cases c33 : 0 ≤ a2
 · rw [if_pos c33] at H
   have c33b0 : decide (0 ≤ a2) = true := decide_eq_true c33
   clear c33
   by_cases c34 : a2 < (l1_2.length : Int)
   · rw [if_pos c34] at H
     have c34b0 : decide (a2 < (l1_2.length : Int)) = true := decide_eq_true c34
     clear c34
     by_cases c35 : 0 ≤ a3
     · rw [if_pos c35] at H
       have c35b0 : decide (0 ≤ a3) = true := decide_eq_true c35
       clear c35
       by_cases c36 : a3 < (l1_2.length : Int)
       · rw [if_pos c36] at H
         have c36b0 : decide (a3 < (l1_2.length : Int)) = true := decide_eq_true c36
         clear c36
         obtain ⟨ji37, hji37⟩ : ∃ j_ : Int, (mn (rd l1_2 a2) (rd l1_2 a3)) = j_ := ⟨_, rfl⟩
         replace H : (if a1_0 > 0 then (jacquardref28_Clash.j1 kj4 a2 a3 0 (wrap64 (a1_0 - 1)) a0_0 a0_1 a0_2 l0_3 l0_4 l0_5 a1_0 a1_1 l1_2 l1_3 l1_4) else (jacquardref28_Clash.j1 kj4 a2 a3 ji37 (wrap64 ((mx (rd l1_2 a2) (rd l1_2 a3)) + 256)) a0_0 a0_1 a0_2 l0_3 l0_4 l0_5 a1_0 a1_1 l1_2 l1_3 l1_4)) = some r := by first | (rw [hji37] at H; exact H) | (simp only [hji37] at H ⊢; exact H)
         have hji37_ : (if (rd l1_2 a3) < (rd l1_2 a2) then (rd l1_2 a3) else (rd l1_2 a2)) = ji37 := hji37
         obtain ⟨ji38, hji38⟩ : ∃ j_ : Int, (mx (rd l1_2 a2) (rd l1_2 a3)) = j_ := ⟨_, rfl⟩
         replace H : (if a1_0 > 0 then (jacquardref28_Clash.j1 kj4 a2 a3 0 (wrap64 (a1_0 - 1)) a0_0 a0_1 a0_2 l0_3 l0_4 l0_5 a1_0 a1_1 l1_2 l1_3 l1_4) else (jacquardref28_Clash.j1 kj4 a2 a3 ji37 (wrap64 ((ji38) + 256)) a0_0 a0_1 a0_2 l0_3 l0_4 l0_5 a1_0 a1_1 l1_2 l1_3 l1_4)) = some r := by first | (rw [hji38] at H; exact H) | (simp only [hji38] at H ⊢; exact H)
         have hji38_ : (if (rd l1_2 a2) < (rd l1_2 a3) then (rd l1_2 a3) else (rd l1_2 a2)) = ji38 := hji38
         have HC39 := Aside0.mk H
         clear H
         obtain ⟨hcz41_0, hcz41_1, hcz41_2, hcz41_3, hcz41_4⟩ := cells5 BK346
         have p353 : 0 ≤ (a2 : Int) := of_decide_eq_true (by first | (with_reducible assumption) | assumption)
         have q353 : a2 < (l1_2.length : Int) := of_decide_eq_true (by first | (with_reducible assumption) | assumption)
         obtain ⟨ad353, e353, hx353_0⟩ := Kd.at_int HR1_2.out a2 p353 q353
         cases e353
         replace hx353_0 := hc_ HB hx353_0
         replace p353 := eq_true p353
         replace q353 := eq_true q353
         have p354 : 0 ≤ (a3 : Int) := of_decide_eq_true (by first | (with_reducible assumption) | assumption)
         have q354 : a3 < (l1_2.length : Int) := of_decide_eq_true (by first | (with_reducible assumption) | assumption)
         obtain ⟨ad354, e354, hx354_0⟩ := Kd.at_int HR1_2.out a3 p354 q354
         obtain rfl : ad353 = ad354 := (by injection e354)
         replace hx354_0 := hc_ HB hx354_0
         replace p354 := eq_true p354
         replace q354 := eq_true q354
         have p355 : 0 ≤ (a2 : Int) := of_decide_eq_true (by first | (with_reducible assumption) | assumption)
         have q355 : a2 < (l1_2.length : Int) := of_decide_eq_true (by first | (with_reducible assumption) | assumption)
         obtain ⟨ad355, e355, hx355_0⟩ := Kd.at_int HR1_2.out a2 p355 q355
         obtain rfl : ad353 = ad355 := (by injection e355)
         replace hx355_0 := hc_ HB hx355_0
         replace p355 := eq_true p355
         replace q355 := eq_true q355
         have p356 : 0 ≤ (a3 : Int) := of_decide_eq_true (by first | (with_reducible assumption) | assumption)
         have q356 : a3 < (l1_2.length : Int) := of_decide_eq_true (by first | (with_reducible assumption) | assumption)
         obtain ⟨ad356, e356, hx356_0⟩ := Kd.at_int HR1_2.out a3 p356 q356
         obtain rfl : ad353 = ad356 := (by injection e356)
         replace hx356_0 := hc_ HB hx356_0
         replace p356 := eq_true p356
         replace q356 := eq_true q356
         go_upto_if 89 with (fail)
         repeat (go_quiet (fail); go_upto_if 89 with (fail))
         go_cut [9, 10] (fun v9 v10 wc => ∃ (kq : Nat) (x9_38 : Int) (x10_38 : Int), v9 = .int .i64 x9_38 ∧ v10 = .int .i64 x10_38 ∧ Aside0 (jacquardref28_Clash.j1 kq a2 a3 x9_38 x10_38 a0_0 a0_1 a0_2 l0_3 l0_4 l0_5 a1_0 a1_1 l1_2 l1_3 l1_4 = some r) ∧ Aside0 (kq ≤ kj4) ∧ Aside0 (wc.heap[gb345]? = some (.cells #[.int .i64 a0_0, .int .i64 a0_1, .bool a0_2, (.slice A0_3 l0_3.length c0_3), (.slice A0_4 l0_4.length c0_4), (.slice A0_5 l0_5.length c0_5)] 26 (0, 0))) ∧ Aside0 (wc.heap[gb346]? = some (.cells #[.int .i64 a1_0, .int .i64 a1_1, (.slice (some ad353) l1_2.length c1_2), (.slice A1_3 l1_3.length c1_3), (.slice A1_4 l1_4.length c1_4)] 35 (0, 0))) ∧ Aside0 (Below w.heap.size w wc))
         case first =>
          have H := HC39.out
          clear HC39
          by_cases c42 : a1_0 > 0
          · rw [if_pos c42] at H
            have c42b0 : decide (0 < a1_0) = true := decide_eq_true c42
            clear c42
            (first | rw [c42b0] | (simp only [i64_w, i32_w]; rw [c42b0]) | skip)
            have H' := Aside0.mk H
            clear H
            obtain ⟨hcz44_0, hcz44_1, hcz44_2, hcz44_3, hcz44_4⟩ := cells5 BK346
            go_wp2
            repeat (go_quiet (fail); try go_wp2)
            go_meet
            case rel => exact ⟨_, (0), (wrap64 (a1_0 - 1)), (by first | rfl | (simp; done) | (simp [*]; done)), (by first | rfl | (simp; done) | (simp [*]; done)), H', ⟨by have := HJ4.out; first | omega | exact Nat.le_refl _⟩, ⟨K_ BK345⟩, ⟨K_ BK346⟩, ⟨bl_⟩⟩
          rw [if_neg c42] at H
          have c42b0 : decide (0 < a1_0) = false := decide_eq_false c42
          clear c42
          (first | rw [c42b0] | (simp only [i64_w, i32_w]; rw [c42b0]) | skip)
          have H' := Aside0.mk H
          clear H
          go_wp2
          repeat (go_quiet (fail); try go_wp2)
          go_meet
          case rel => exact ⟨_, (ji37), (wrap64 ((ji38) + 256)), (by first | rfl | (simp; done) | (simp only [← hji37] <;> (first | rfl | simp)) | (simp [*]; done)), (by first | rfl | (simp; done) | (simp only [← hji38] <;> (first | rfl | simp)) | (simp [*]; done)), H', ⟨by have := HJ4.out; first | omega | exact Nat.le_refl _⟩, ⟨K_ BK345⟩, ⟨K_ BK346⟩, ⟨bl_⟩⟩
         clear HC39
         obtain ⟨kq, x9_38, x10_38, rfl, rfl, HA, HJ38, BK345, BK346, HB⟩ := hcut
         cases kq with
         | zero => exact absurd HA.out (by simp [jacquardref28_Clash.j1])
         | succ kj38 => ?_
         have H := HA.out
         clear HA
         simp only [jacquardref28_Clash.j1] at H
         have H' := Aside0.mk H
         clear H
         go_wp2
         repeat (go_quiet (fail); try go_wp2)
         go_loopg [11] kj38 (fun kq v11 w' => ∃ (x11_3 : Int), v11 = .int .i64 x11_3 ∧ Aside0 (jacquardref28_Clash.l0 kq a2 a3 x10_38 x11_3 a0_0 a0_1 a0_2 l0_3 l0_4 l0_5 a1_0 a1_1 l1_2 l1_3 l1_4 = some r) ∧ Aside0 (kq ≤ kj38) ∧ Aside0 (w'.heap[gb345]? = some (.cells #[.int .i64 a0_0, .int .i64 a0_1, .bool a0_2, (.slice A0_3 l0_3.length c0_3), (.slice A0_4 l0_4.length c0_4), (.slice A0_5 l0_5.length c0_5)] 26 (0, 0))) ∧ Aside0 (w'.heap[gb346]? = some (.cells #[.int .i64 a1_0, .int .i64 a1_1, (.slice (some ad353) l1_2.length c1_2), (.slice A1_3 l1_3.length c1_3), (.slice A1_4 l1_4.length c1_4)] 35 (0, 0))) ∧ Aside0 (Below w.heap.size w w'))
         case atStart => exact ⟨(x9_38), (by first | rfl | (simp; done) | (simp [*]; done)), H', ⟨Nat.le_refl _⟩, ⟨K_ BK345⟩, ⟨K_ BK346⟩, ⟨bl_⟩⟩
         clear H'
         obtain ⟨x11_3, rfl, HA, HK3, BK345, BK346, HB⟩ := hrel
         cases gk with
         | zero => exact absurd HA.out (by simp [jacquardref28_Clash.l0])
         | succ k3 => ?_
         have H := HA.out
         clear HA
         simp only [jacquardref28_Clash.l0] at H
         by_cases c45 : x11_3 ≤ x10_38
         · rw [if_pos c45] at H
           have c45b0 : decide (x11_3 ≤ x10_38) = true := decide_eq_true c45
           clear c45
           have HC46 := Aside0.mk H
           clear H
           go_upto_region 12 with (fail)
           repeat (go_quiet (fail); go_upto_region 12 with (fail))
           go_cut [110] (fun v110 wc => ∃ (kq : Nat) (x110_45 : Bool), v110 = .bool x110_45 ∧ Aside0 (jacquardref28_Clash.j3 kq a2 a3 x10_38 x11_3 x110_45 a0_0 a0_1 a0_2 l0_3 l0_4 l0_5 a1_0 a1_1 l1_2 l1_3 l1_4 = some r) ∧ Aside0 (kq ≤ k3) ∧ Aside0 (wc.heap[gb345]? = some (.cells #[.int .i64 a0_0, .int .i64 a0_1, .bool a0_2, (.slice A0_3 l0_3.length c0_3), (.slice A0_4 l0_4.length c0_4), (.slice A0_5 l0_5.length c0_5)] 26 (0, 0))) ∧ Aside0 (wc.heap[gb346]? = some (.cells #[.int .i64 a1_0, .int .i64 a1_1, (.slice (some ad353) l1_2.length c1_2), (.slice A1_3 l1_3.length c1_3), (.slice A1_4 l1_4.length c1_4)] 35 (0, 0))) ∧ Aside0 (Below w.heap.size w wc))
           case first =>
            have H := HC46.out
            clear HC46
            replace H := Option.bind_eq_some_iff.mp H
            obtain ⟨t357, A470, H⟩ := H
            replace H : (if t357 = true then ((jacquardref28_Occupies.f a0_0 a0_1 a0_2 l0_3 l0_4 l0_5 a1_0 a1_1 l1_2 l1_3 l1_4 a3 x11_3).bind fun t358 => (jacquardref28_Clash.j3 k3 a2 a3 x10_38 x11_3 t358 a0_0 a0_1 a0_2 l0_3 l0_4 l0_5 a1_0 a1_1 l1_2 l1_3 l1_4)) else (jacquardref28_Clash.j3 k3 a2 a3 x10_38 x11_3 false a0_0 a0_1 a0_2 l0_3 l0_4 l0_5 a1_0 a1_1 l1_2 l1_3 l1_4)) = some r := H
            have A47 := Aside0.mk A470
            clear A470
            by_cases c48 : t357 = true
            · subst c48
              have H1 : ((jacquardref28_Occupies.f a0_0 a0_1 a0_2 l0_3 l0_4 l0_5 a1_0 a1_1 l1_2 l1_3 l1_4 a3 x11_3).bind fun t358 => (jacquardref28_Clash.j3 k3 a2 a3 x10_38 x11_3 t358 a0_0 a0_1 a0_2 l0_3 l0_4 l0_5 a1_0 a1_1 l1_2 l1_3 l1_4)) = some r := by rw [if_pos rfl] at H; exact H
              clear H
              have H := H1
              clear H1
              replace H := Option.bind_eq_some_iff.mp H
              obtain ⟨t358, A490, H⟩ := H
              replace H : (jacquardref28_Clash.j3 k3 a2 a3 x10_38 x11_3 t358 a0_0 a0_1 a0_2 l0_3 l0_4 l0_5 a1_0 a1_1 l1_2 l1_3 l1_4) = some r := H
              have A49 := Aside0.mk A490
              clear A490
              have H' := Aside0.mk H
              clear H
              obtain ⟨hcz51_0, hcz51_1, hcz51_2, hcz51_3, hcz51_4, hcz51_5⟩ := cells6 BK345
              obtain ⟨hcz52_0, hcz52_1, hcz52_2, hcz52_3, hcz52_4⟩ := cells5 BK346
              go_wp2_with (first | (go_at_call 50; (with_reducible refine (jacquardref28_Occupies.calls a0_0 a0_1 a0_2 _ _ l0_3 _ _ l0_4 _ _ l0_5 a1_0 a1_1 _ _ l1_2 _ _ l1_3 _ _ l1_4 a2 x11_3 true _ ?side1 ?side2 ?side3 ?side4 ?side5 ?side6 ?side7 ?side8 ?side9 ?side10 ?side11 ?side12 A47.out).mono ?_); (case side1 => exact CB_ HR0_3); (case side2 => exact HC0_3.out); (case side3 => exact CB_ HR0_4); (case side4 => exact HC0_4.out); (case side5 => exact CB_ HR0_5); (case side6 => exact HC0_5.out); (case side7 => exact CB_ HR1_2); (case side8 => exact HC1_2.out); (case side9 => exact CB_ HR1_3); (case side10 => exact HC1_3.out); (case side11 => exact CB_ HR1_4); (case side12 => exact HC1_4.out); rintro e w53 ⟨rfl, hb⟩; have n0_ := Aside0.mk (blk_below (K_ BK345) hb); have n1_ := Aside0.mk (blk_below (K_ BK346) hb); have n2_ := Aside0.mk (below_step bl_ hb); clear BK345; clear BK346; clear HB; have BK345 := n0_; have BK346 := n1_; have HB := n2_; clear n0_ n1_ n2_; (try clear hb); (try clear hb2); (try clear hk); (try clear hi); obtain ⟨hcz54_0, hcz54_1, hcz54_2, hcz54_3, hcz54_4, hcz54_5⟩ := cells6 BK345; obtain ⟨hcz55_0, hcz55_1, hcz55_2, hcz55_3, hcz55_4⟩ := cells5 BK346) | (go_at_call 50; (with_reducible refine (jacquardref28_Occupies.calls a0_0 a0_1 a0_2 _ _ l0_3 _ _ l0_4 _ _ l0_5 a1_0 a1_1 _ _ l1_2 _ _ l1_3 _ _ l1_4 a3 x11_3 t358 _ ?side1 ?side2 ?side3 ?side4 ?side5 ?side6 ?side7 ?side8 ?side9 ?side10 ?side11 ?side12 A49.out).mono ?_); (case side1 => exact CB_ HR0_3); (case side2 => exact HC0_3.out); (case side3 => exact CB_ HR0_4); (case side4 => exact HC0_4.out); (case side5 => exact CB_ HR0_5); (case side6 => exact HC0_5.out); (case side7 => exact CB_ HR1_2); (case side8 => exact HC1_2.out); (case side9 => exact CB_ HR1_3); (case side10 => exact HC1_3.out); (case side11 => exact CB_ HR1_4); (case side12 => exact HC1_4.out); rintro e w56 ⟨rfl, hb⟩; have n0_ := Aside0.mk (blk_below (K_ BK345) hb); have n1_ := Aside0.mk (blk_below (K_ BK346) hb); have n2_ := Aside0.mk (below_step bl_ hb); clear BK345; clear BK346; clear HB; have BK345 := n0_; have BK346 := n1_; have HB := n2_; clear n0_ n1_ n2_; (try clear hb); (try clear hb2); (try clear hk); (try clear hi)))
              repeat (go_quiet (first | (go_at_call 50; (with_reducible refine (jacquardref28_Occupies.calls a0_0 a0_1 a0_2 _ _ l0_3 _ _ l0_4 _ _ l0_5 a1_0 a1_1 _ _ l1_2 _ _ l1_3 _ _ l1_4 a2 x11_3 true _ ?side1 ?side2 ?side3 ?side4 ?side5 ?side6 ?side7 ?side8 ?side9 ?side10 ?side11 ?side12 A47.out).mono ?_); (case side1 => exact CB_ HR0_3); (case side2 => exact HC0_3.out); (case side3 => exact CB_ HR0_4); (case side4 => exact HC0_4.out); (case side5 => exact CB_ HR0_5); (case side6 => exact HC0_5.out); (case side7 => exact CB_ HR1_2); (case side8 => exact HC1_2.out); (case side9 => exact CB_ HR1_3); (case side10 => exact HC1_3.out); (case side11 => exact CB_ HR1_4); (case side12 => exact HC1_4.out); rintro e w53 ⟨rfl, hb⟩; have n0_ := Aside0.mk (blk_below (K_ BK345) hb); have n1_ := Aside0.mk (blk_below (K_ BK346) hb); have n2_ := Aside0.mk (below_step bl_ hb); clear BK345; clear BK346; clear HB; have BK345 := n0_; have BK346 := n1_; have HB := n2_; clear n0_ n1_ n2_; (try clear hb); (try clear hb2); (try clear hk); (try clear hi); obtain ⟨hcz54_0, hcz54_1, hcz54_2, hcz54_3, hcz54_4, hcz54_5⟩ := cells6 BK345; obtain ⟨hcz55_0, hcz55_1, hcz55_2, hcz55_3, hcz55_4⟩ := cells5 BK346) | (go_at_call 50; (with_reducible refine (jacquardref28_Occupies.calls a0_0 a0_1 a0_2 _ _ l0_3 _ _ l0_4 _ _ l0_5 a1_0 a1_1 _ _ l1_2 _ _ l1_3 _ _ l1_4 a3 x11_3 t358 _ ?side1 ?side2 ?side3 ?side4 ?side5 ?side6 ?side7 ?side8 ?side9 ?side10 ?side11 ?side12 A49.out).mono ?_); (case side1 => exact CB_ HR0_3); (case side2 => exact HC0_3.out); (case side3 => exact CB_ HR0_4); (case side4 => exact HC0_4.out); (case side5 => exact CB_ HR0_5); (case side6 => exact HC0_5.out); (case side7 => exact CB_ HR1_2); (case side8 => exact HC1_2.out); (case side9 => exact CB_ HR1_3); (case side10 => exact HC1_3.out); (case side11 => exact CB_ HR1_4); (case side12 => exact HC1_4.out); rintro e w56 ⟨rfl, hb⟩; have n0_ := Aside0.mk (blk_below (K_ BK345) hb); have n1_ := Aside0.mk (blk_below (K_ BK346) hb); have n2_ := Aside0.mk (below_step bl_ hb); clear BK345; clear BK346; clear HB; have BK345 := n0_; have BK346 := n1_; have HB := n2_; clear n0_ n1_ n2_; (try clear hb); (try clear hb2); (try clear hk); (try clear hi))); try go_wp2_with (first | (go_at_call 50; (with_reducible refine (jacquardref28_Occupies.calls a0_0 a0_1 a0_2 _ _ l0_3 _ _ l0_4 _ _ l0_5 a1_0 a1_1 _ _ l1_2 _ _ l1_3 _ _ l1_4 a2 x11_3 true _ ?side1 ?side2 ?side3 ?side4 ?side5 ?side6 ?side7 ?side8 ?side9 ?side10 ?side11 ?side12 A47.out).mono ?_); (case side1 => exact CB_ HR0_3); (case side2 => exact HC0_3.out); (case side3 => exact CB_ HR0_4); (case side4 => exact HC0_4.out); (case side5 => exact CB_ HR0_5); (case side6 => exact HC0_5.out); (case side7 => exact CB_ HR1_2); (case side8 => exact HC1_2.out); (case side9 => exact CB_ HR1_3); (case side10 => exact HC1_3.out); (case side11 => exact CB_ HR1_4); (case side12 => exact HC1_4.out); rintro e w53 ⟨rfl, hb⟩; have n0_ := Aside0.mk (blk_below (K_ BK345) hb); have n1_ := Aside0.mk (blk_below (K_ BK346) hb); have n2_ := Aside0.mk (below_step bl_ hb); clear BK345; clear BK346; clear HB; have BK345 := n0_; have BK346 := n1_; have HB := n2_; clear n0_ n1_ n2_; (try clear hb); (try clear hb2); (try clear hk); (try clear hi); obtain ⟨hcz54_0, hcz54_1, hcz54_2, hcz54_3, hcz54_4, hcz54_5⟩ := cells6 BK345; obtain ⟨hcz55_0, hcz55_1, hcz55_2, hcz55_3, hcz55_4⟩ := cells5 BK346) | (go_at_call 50; (with_reducible refine (jacquardref28_Occupies.calls a0_0 a0_1 a0_2 _ _ l0_3 _ _ l0_4 _ _ l0_5 a1_0 a1_1 _ _ l1_2 _ _ l1_3 _ _ l1_4 a3 x11_3 t358 _ ?side1 ?side2 ?side3 ?side4 ?side5 ?side6 ?side7 ?side8 ?side9 ?side10 ?side11 ?side12 A49.out).mono ?_); (case side1 => exact CB_ HR0_3); (case side2 => exact HC0_3.out); (case side3 => exact CB_ HR0_4); (case side4 => exact HC0_4.out); (case side5 => exact CB_ HR0_5); (case side6 => exact HC0_5.out); (case side7 => exact CB_ HR1_2); (case side8 => exact HC1_2.out); (case side9 => exact CB_ HR1_3); (case side10 => exact HC1_3.out); (case side11 => exact CB_ HR1_4); (case side12 => exact HC1_4.out); rintro e w56 ⟨rfl, hb⟩; have n0_ := Aside0.mk (blk_below (K_ BK345) hb); have n1_ := Aside0.mk (blk_below (K_ BK346) hb); have n2_ := Aside0.mk (below_step bl_ hb); clear BK345; clear BK346; clear HB; have BK345 := n0_; have BK346 := n1_; have HB := n2_; clear n0_ n1_ n2_; (try clear hb); (try clear hb2); (try clear hk); (try clear hi))))
              go_meet
              case rel => exact ⟨_, (t358), (by first | rfl | (simp; done) | (simp [*]; done)), H', ⟨by have := HJ4.out; have := HJ38.out; have := HK3.out; first | omega | exact Nat.le_refl _⟩, ⟨K_ BK345⟩, ⟨K_ BK346⟩, ⟨bl_⟩⟩
            replace c48 := Bool.eq_false_iff.mpr c48
            subst c48
            have H1 : (jacquardref28_Clash.j3 k3 a2 a3 x10_38 x11_3 false a0_0 a0_1 a0_2 l0_3 l0_4 l0_5 a1_0 a1_1 l1_2 l1_3 l1_4) = some r := by rw [if_neg (show ¬ (false = true) by decide)] at H; exact H
            clear H
            have H := H1
            clear H1
            have H' := Aside0.mk H
            clear H
            obtain ⟨hcz58_0, hcz58_1, hcz58_2, hcz58_3, hcz58_4, hcz58_5⟩ := cells6 BK345
            obtain ⟨hcz59_0, hcz59_1, hcz59_2, hcz59_3, hcz59_4⟩ := cells5 BK346
            go_wp2_with (first | (go_at_call 50; (with_reducible refine (jacquardref28_Occupies.calls a0_0 a0_1 a0_2 _ _ l0_3 _ _ l0_4 _ _ l0_5 a1_0 a1_1 _ _ l1_2 _ _ l1_3 _ _ l1_4 a2 x11_3 false _ ?side1 ?side2 ?side3 ?side4 ?side5 ?side6 ?side7 ?side8 ?side9 ?side10 ?side11 ?side12 A47.out).mono ?_); (case side1 => exact CB_ HR0_3); (case side2 => exact HC0_3.out); (case side3 => exact CB_ HR0_4); (case side4 => exact HC0_4.out); (case side5 => exact CB_ HR0_5); (case side6 => exact HC0_5.out); (case side7 => exact CB_ HR1_2); (case side8 => exact HC1_2.out); (case side9 => exact CB_ HR1_3); (case side10 => exact HC1_3.out); (case side11 => exact CB_ HR1_4); (case side12 => exact HC1_4.out); rintro e w60 ⟨rfl, hb⟩; have n0_ := Aside0.mk (blk_below (K_ BK345) hb); have n1_ := Aside0.mk (blk_below (K_ BK346) hb); have n2_ := Aside0.mk (below_step bl_ hb); clear BK345; clear BK346; clear HB; have BK345 := n0_; have BK346 := n1_; have HB := n2_; clear n0_ n1_ n2_; (try clear hb); (try clear hb2); (try clear hk); (try clear hi)))
            repeat (go_quiet (first | (go_at_call 50; (with_reducible refine (jacquardref28_Occupies.calls a0_0 a0_1 a0_2 _ _ l0_3 _ _ l0_4 _ _ l0_5 a1_0 a1_1 _ _ l1_2 _ _ l1_3 _ _ l1_4 a2 x11_3 false _ ?side1 ?side2 ?side3 ?side4 ?side5 ?side6 ?side7 ?side8 ?side9 ?side10 ?side11 ?side12 A47.out).mono ?_); (case side1 => exact CB_ HR0_3); (case side2 => exact HC0_3.out); (case side3 => exact CB_ HR0_4); (case side4 => exact HC0_4.out); (case side5 => exact CB_ HR0_5); (case side6 => exact HC0_5.out); (case side7 => exact CB_ HR1_2); (case side8 => exact HC1_2.out); (case side9 => exact CB_ HR1_3); (case side10 => exact HC1_3.out); (case side11 => exact CB_ HR1_4); (case side12 => exact HC1_4.out); rintro e w60 ⟨rfl, hb⟩; have n0_ := Aside0.mk (blk_below (K_ BK345) hb); have n1_ := Aside0.mk (blk_below (K_ BK346) hb); have n2_ := Aside0.mk (below_step bl_ hb); clear BK345; clear BK346; clear HB; have BK345 := n0_; have BK346 := n1_; have HB := n2_; clear n0_ n1_ n2_; (try clear hb); (try clear hb2); (try clear hk); (try clear hi))); try go_wp2_with (first | (go_at_call 50; (with_reducible refine (jacquardref28_Occupies.calls a0_0 a0_1 a0_2 _ _ l0_3 _ _ l0_4 _ _ l0_5 a1_0 a1_1 _ _ l1_2 _ _ l1_3 _ _ l1_4 a2 x11_3 false _ ?side1 ?side2 ?side3 ?side4 ?side5 ?side6 ?side7 ?side8 ?side9 ?side10 ?side11 ?side12 A47.out).mono ?_); (case side1 => exact CB_ HR0_3); (case side2 => exact HC0_3.out); (case side3 => exact CB_ HR0_4); (case side4 => exact HC0_4.out); (case side5 => exact CB_ HR0_5); (case side6 => exact HC0_5.out); (case side7 => exact CB_ HR1_2); (case side8 => exact HC1_2.out); (case side9 => exact CB_ HR1_3); (case side10 => exact HC1_3.out); (case side11 => exact CB_ HR1_4); (case side12 => exact HC1_4.out); rintro e w60 ⟨rfl, hb⟩; have n0_ := Aside0.mk (blk_below (K_ BK345) hb); have n1_ := Aside0.mk (blk_below (K_ BK346) hb); have n2_ := Aside0.mk (below_step bl_ hb); clear BK345; clear BK346; clear HB; have BK345 := n0_; have BK346 := n1_; have HB := n2_; clear n0_ n1_ n2_; (try clear hb); (try clear hb2); (try clear hk); (try clear hi))))
            go_meet
            case rel => exact ⟨_, (false), (by first | rfl | (simp; done) | (simp [*]; done)), H', ⟨by have := HJ4.out; have := HJ38.out; have := HK3.out; first | omega | exact Nat.le_refl _⟩, ⟨K_ BK345⟩, ⟨K_ BK346⟩, ⟨bl_⟩⟩
           clear HC46
           obtain ⟨kq, x110_45, rfl, HA, HJ45, BK345, BK346, HB⟩ := hcut
           cases kq with
           | zero => exact absurd HA.out (by simp [jacquardref28_Clash.j3])
           | succ kj45 => ?_
           have H := HA.out
           clear HA
           simp only [jacquardref28_Clash.j3] at H
           by_cases c61 : x110_45 = true
           · subst c61
             have H1 : (some true) = some r := by rw [if_pos rfl] at H; exact H
             clear H
             have H := H1
             clear H1
             obtain rfl := Option.some.inj H
             go_wp2
             repeat (go_quiet (fail); try go_wp2)
             go_ret
             exact ⟨by first | rfl | (simp [errW_none, errW_some] <;> rfl) | (simp only [← hji37, ← hji38]; first | rfl | (simp [errW_none, errW_some] <;> rfl)) | (simp [*, errW_none, errW_some] <;> rfl), by repeat (first | (with_reducible first | exact HB.out | apply below_alloc | apply pw_below_drewN | apply below_drew1 | refine below_set ?_ GE345.out | refine below_set ?_ GE346.out) | exact HB.out)⟩
           replace c61 := Bool.eq_false_iff.mpr c61
           subst c61
           have H1 : (jacquardref28_Clash.l0 kj45 a2 a3 x10_38 (wrap64 (x11_3 + 1)) a0_0 a0_1 a0_2 l0_3 l0_4 l0_5 a1_0 a1_1 l1_2 l1_3 l1_4) = some r := by rw [if_neg (show ¬ (false = true) by decide)] at H; exact H
           clear H
           have H := H1
           clear H1
           have H' := Aside0.mk H
           clear H
           go_wp2
           repeat (go_quiet (fail); try go_wp2)
           go_roundg kj45
           case measure => have := HJ4.out; have := HJ38.out; have := HK3.out; have := HJ45.out; omega
           case rel => exact ⟨(wrap64 (x11_3 + 1)), (by first | rfl | (simp; done) | (simp [*]; done)), H', ⟨by have := HJ4.out; have := HJ38.out; have := HK3.out; have := HJ45.out; omega⟩, ⟨K_ BK345⟩, ⟨K_ BK346⟩, ⟨bl_⟩⟩
         rw [if_neg c45] at H
         have c45b0 : decide (x11_3 ≤ x10_38) = false := decide_eq_false c45
         clear c45
         obtain rfl := Option.some.inj H
         go_wp2
         repeat (go_quiet (fail); try go_wp2)
         go_ret
         exact ⟨by first | rfl | (simp [errW_none, errW_some] <;> rfl) | (simp only [← hji37, ← hji38]; first | rfl | (simp [errW_none, errW_some] <;> rfl)) | (simp [*, errW_none, errW_some] <;> rfl), by repeat (first | (with_reducible first | exact HB.out | apply below_alloc | apply pw_below_drewN | apply below_drew1 | refine below_set ?_ GE345.out | refine below_set ?_ GE346.out) | exact HB.out)⟩
       rw [if_neg c36] at H
       exact absurd H (by simp)
     rw [if_neg c35] at H
     exact absurd H (by simp)
   rw [if_neg c34] at H
   exact absurd H (by simp)
 rw [if_neg c33] at H
 exact absurd H (by simp)
end Go.Proofs.Ytpmlbbglekaidaa.PAll
