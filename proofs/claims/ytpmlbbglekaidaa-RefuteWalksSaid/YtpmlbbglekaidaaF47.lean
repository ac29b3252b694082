-- Written for this claim by programs of this session (wip/print2 in its repo: a changed printer, a shortener, a packer). Lean checks it.
import Derived.Test.YtpmlbbglekaidaaP0
namespace Go.Proofs.Ytpmlbbglekaidaa.PAll
open Go.RowKit Go.Proofs.YtpmlbbglekaidaaW.PrintWords Go.Proofs.YtpmlbbglekaidaaW.PrintLast Go.Proofs.YtpmlbbglekaidaaW.PrintMore
attribute [local go_sem] max2_int min2_int max_two min_two max_three min_three max_four min_four   -- for this text's walks alone
set_option linter.unusedVariables false
set_option linter.unusedSimpArgs false

/-! ### refute_full: function 47 -/
mutual
def refute_full.j0 : Nat → Int → Bool → Int → Int → Bool → List (S48) → List (S50) → List (S52) → List Int → List Int → Int → Int → List Int → List Int → Int → Int → Int → Option (Bool)
  | 0, _, _, _, _, _, _, _, _, _, _, _, _, _, _, _, _, _ => none
  | k + 1, x1, x34, x166000, x166001, x166002, x166003, x166004, x166005, x167000, x167001, x168000, x168001, x168002, x168003, x168004, x168005, x168006 => if x34 = true then (some false) else (refute_full.l0 k x1 0 x166005 (x166005.length : Int) 0 x167000 x167001 x168000 x168001 x168002 x168003 x168004 x168005 x168006)
def refute_full.l0 : Nat → Int → Int → List (S52) → Int → Int → List Int → List Int → Int → Int → List Int → List Int → Int → Int → Int → Option (Bool)
  | 0, _, _, _, _, _, _, _, _, _, _, _, _, _, _ => none
  | k + 1, x1, x9, x36, x37, x38, x167000, x167001, x168000, x168001, x168002, x168003, x168004, x168005, x168006 => if x38 < x37 then (if 0 ≤ x38 then (if x38 < (x36.length : Int) then (if ((rd_T52 x36 x38).f0) = x168004 then (if x38 < (x167000.length : Int) then (if (rd x167000 x38) < 0 then (refute_full.j2 k x1 x9 x38 x36 x37 x38 true x167000 x167001 x168000 x168001 x168002 x168003 x168004 x168005 x168006 ((rd_T52 x36 x38).f0) ((rd_T52 x36 x38).f1)) else (if x38 < (x167001.length : Int) then (refute_full.j2 k x1 x9 x38 x36 x37 x38 ((rd x167001 x38) != x168005) x167000 x167001 x168000 x168001 x168002 x168003 x168004 x168005 x168006 ((rd_T52 x36 x38).f0) ((rd_T52 x36 x38).f1)) else (none))) else (none)) else (refute_full.j2 k x1 x9 x38 x36 x37 x38 true x167000 x167001 x168000 x168001 x168002 x168003 x168004 x168005 x168006 ((rd_T52 x36 x38).f0) ((rd_T52 x36 x38).f1))) else (none)) else (none)) else (some (decide (x9 ≥ 2)))
def refute_full.j2 : Nat → Int → Int → Int → List (S52) → Int → Int → Bool → List Int → List Int → Int → Int → List Int → List Int → Int → Int → Int → Int → Int → Option (Bool)
  | 0, _, _, _, _, _, _, _, _, _, _, _, _, _, _, _, _, _, _ => none
  | k + 1, x1, x9, x10, x36, x37, x38, x65, x167000, x167001, x168000, x168001, x168002, x168003, x168004, x168005, x168006, x170000, x170001 => if x65 = true then (refute_full.l0 k x1 x9 x36 x37 (wrap64 (x38 + 1)) x167000 x167001 x168000 x168001 x168002 x168003 x168004 x168005 x168006) else (refute_full.l1 k x1 x9 x10 x36 x37 x38 x170001 0 x167000 x167001 x168000 x168001 x168002 x168003 x168004 x168005 x168006)
def refute_full.l1 : Nat → Int → Int → Int → List (S52) → Int → Int → Int → Int → List Int → List Int → Int → Int → List Int → List Int → Int → Int → Int → Option (Bool)
  | 0, _, _, _, _, _, _, _, _, _, _, _, _, _, _, _, _, _ => none
  | k + 1, x1, x9, x10, x36, x37, x38, x67, x68, x167000, x167001, x168000, x168001, x168002, x168003, x168004, x168005, x168006 => if x68 < x67 then (if 0 ≤ x10 then (if x10 < (x167000.length : Int) then (if x1 = 0 then (none) else (if (Int.tmod (wrap64 ((rd x167000 x10) + x68)) x1) = x168006 then (refute_full.l1 k x1 (wrap64 (x9 + 1)) x10 x36 x37 x38 x67 (wrap64 (x68 + 1)) x167000 x167001 x168000 x168001 x168002 x168003 x168004 x168005 x168006) else (refute_full.l1 k x1 x9 x10 x36 x37 x38 x67 (wrap64 (x68 + 1)) x167000 x167001 x168000 x168001 x168002 x168003 x168004 x168005 x168006))) else (none)) else (none)) else (refute_full.l0 k x1 x9 x36 x37 (wrap64 (x38 + 1)) x167000 x167001 x168000 x168001 x168002 x168003 x168004 x168005 x168006)
end
def refute_full.f (k : Nat) (a0_0 : Int) (a0_1 : Int) (a0_2 : Bool) (l0_3 : List (S48)) (l0_4 : List (S50)) (l0_5 : List (S52)) (a1 : Int) (l2_0 : List Int) (l2_1 : List Int) (a3_0 : Int) (a3_1 : Int) (l3_2 : List Int) (l3_3 : List Int) (a3_4 : Int) (a3_5 : Int) (a3_6 : Int) : Option (Bool) := if a3_4 < 0 then (refute_full.j0 k a1 true a0_0 a0_1 a0_2 l0_3 l0_4 l0_5 l2_0 l2_1 a3_0 a3_1 l3_2 l3_3 a3_4 a3_5 a3_6) else (if a3_4 ≥ (l0_4.length : Int) then (refute_full.j0 k a1 true a0_0 a0_1 a0_2 l0_3 l0_4 l0_5 l2_0 l2_1 a3_0 a3_1 l3_2 l3_3 a3_4 a3_5 a3_6) else (if a3_6 < 0 then (refute_full.j0 k a1 true a0_0 a0_1 a0_2 l0_3 l0_4 l0_5 l2_0 l2_1 a3_0 a3_1 l3_2 l3_3 a3_4 a3_5 a3_6) else (refute_full.j0 k a1 (decide (a3_6 ≥ a1)) a0_0 a0_1 a0_2 l0_3 l0_4 l0_5 l2_0 l2_1 a3_0 a3_1 l3_2 l3_3 a3_4 a3_5 a3_6)))
theorem refute_full.mono_l : ∀ k, (∀ y0 y1 y2 y3 y4 y5 y6 y7 y8 y9 y10 y11 y12 y13 y14 y15 y16, LeO (refute_full.j0 k y0 y1 y2 y3 y4 y5 y6 y7 y8 y9 y10 y11 y12 y13 y14 y15 y16) (refute_full.j0 (k + 1) y0 y1 y2 y3 y4 y5 y6 y7 y8 y9 y10 y11 y12 y13 y14 y15 y16)) ∧ (∀ y0 y1 y2 y3 y4 y5 y6 y7 y8 y9 y10 y11 y12 y13, LeO (refute_full.l0 k y0 y1 y2 y3 y4 y5 y6 y7 y8 y9 y10 y11 y12 y13) (refute_full.l0 (k + 1) y0 y1 y2 y3 y4 y5 y6 y7 y8 y9 y10 y11 y12 y13)) ∧ (∀ y0 y1 y2 y3 y4 y5 y6 y7 y8 y9 y10 y11 y12 y13 y14 y15 y16 y17, LeO (refute_full.j2 k y0 y1 y2 y3 y4 y5 y6 y7 y8 y9 y10 y11 y12 y13 y14 y15 y16 y17) (refute_full.j2 (k + 1) y0 y1 y2 y3 y4 y5 y6 y7 y8 y9 y10 y11 y12 y13 y14 y15 y16 y17)) ∧ (∀ y0 y1 y2 y3 y4 y5 y6 y7 y8 y9 y10 y11 y12 y13 y14 y15 y16, LeO (refute_full.l1 k y0 y1 y2 y3 y4 y5 y6 y7 y8 y9 y10 y11 y12 y13 y14 y15 y16) (refute_full.l1 (k + 1) y0 y1 y2 y3 y4 y5 y6 y7 y8 y9 y10 y11 y12 y13 y14 y15 y16))
  | 0 => by refine ⟨?_, ?_, ?_, ?_⟩ <;> intros <;> intro r h <;> simp [refute_full.j0, refute_full.l0, refute_full.j2, refute_full.l1] at h
  | k + 1 => by
    obtain ⟨ih0, ih1, ih2, ih3⟩ := refute_full.mono_l k
    refine ⟨?_, ?_, ?_, ?_⟩ <;> intros <;> (first | unfold refute_full.j0 | unfold refute_full.l0 | unfold refute_full.j2 | unfold refute_full.l1) <;> repeat' first | (with_reducible first | apply ih0 | apply ih1 | apply ih2 | apply ih3 | exact LeO.refl _ | exact LeO.none _ | refine LeO.ite ?_ ?_ | refine LeO.bind ?_ (fun _ => ?_)) | apply ih0 | apply ih1 | apply ih2 | apply ih3 | exact LeO.none _ | refine LeO.ite ?_ ?_ | refine LeO.bind ?_ (fun _ => ?_)
theorem refute_full.mono : ∀ a0 a1 a2 a3 a4 a5 a6 a7 a8 a9 a10 a11 a12 a13 a14 a15 k, LeO (refute_full.f k a0 a1 a2 a3 a4 a5 a6 a7 a8 a9 a10 a11 a12 a13 a14 a15) (refute_full.f (k + 1) a0 a1 a2 a3 a4 a5 a6 a7 a8 a9 a10 a11 a12 a13 a14 a15) := by
 intro a0 a1 a2 a3 a4 a5 a6 a7 a8 a9 a10 a11 a12 a13 a14 a15 k
 obtain ⟨ih0, ih1, ih2, ih3⟩ := refute_full.mono_l k
 unfold refute_full.f
 repeat' first | (with_reducible first | apply ih0 | apply ih1 | apply ih2 | apply ih3 | exact LeO.refl _ | exact LeO.none _ | refine LeO.ite ?_ ?_ | refine LeO.bind ?_ (fun _ => ?_)) | apply ih0 | apply ih1 | apply ih2 | apply ih3 | exact LeO.none _ | refine LeO.ite ?_ ?_ | refine LeO.bind ?_ (fun _ => ?_)
set_option maxHeartbeats 8000000 in
set_option maxRecDepth 100000 in
theorem refute_full.calls (k : Nat) (a0_0 : Int) (a0_1 : Int) (a0_2 : Bool) (A0_3 : Option Addr) (c0_3 : Nat) (l0_3 : List (S48)) (A0_4 : Option Addr) (c0_4 : Nat) (l0_4 : List (S50)) (A0_5 : Option Addr) (c0_5 : Nat) (l0_5 : List (S52)) (a1 : Int) (A2_0 : Option Addr) (c2_0 : Nat) (l2_0 : List Int) (A2_1 : Option Addr) (c2_1 : Nat) (l2_1 : List Int) (a3_0 : Int) (a3_1 : Int) (A3_2 : Option Addr) (c3_2 : Nat) (l3_2 : List Int) (A3_3 : Option Addr) (c3_3 : Nat) (l3_3 : List Int) (a3_4 : Int) (a3_5 : Int) (a3_6 : Int) (r : Bool) (w : World) (hr0_3 : Kd.C k48 w A0_3 l0_3.length l0_3) (hc0_3 : l0_3.length ≤ c0_3) (hr0_4 : Kd.C k50 w A0_4 l0_4.length l0_4) (hc0_4 : l0_4.length ≤ c0_4) (hr0_5 : Kd.C k52 w A0_5 l0_5.length l0_5) (hc0_5 : l0_5.length ≤ c0_5) (hr2_0 : Kd.C (Kd.int .i64) w A2_0 l2_0.length l2_0) (hc2_0 : l2_0.length ≤ c2_0) (hr2_1 : Kd.C (Kd.int .i64) w A2_1 l2_1.length l2_1) (hc2_1 : l2_1.length ≤ c2_1) (hr3_2 : Kd.C (Kd.int .i64) w A3_2 l3_2.length l3_2) (hc3_2 : l3_2.length ≤ c3_2) (hr3_3 : Kd.C (Kd.int .i64) w A3_3 l3_3.length l3_3) (hc3_3 : l3_3.length ≤ c3_3) (h : refute_full.f k a0_0 a0_1 a0_2 l0_3 l0_4 l0_5 a1 l2_0 l2_1 a3_0 a3_1 l3_2 l3_3 a3_4 a3_5 a3_6 = some r) :
    Calls Try.prog 47 #[.agg #[.int .i64 a0_0, .int .i64 a0_1, .bool a0_2, .slice A0_3 l0_3.length c0_3, .slice A0_4 l0_4.length c0_4, .slice A0_5 l0_5.length c0_5], .int .i64 a1, .agg #[.slice A2_0 l2_0.length c2_0, .slice A2_1 l2_1.length c2_1], .agg #[.int .i64 a3_0, .int .i64 a3_1, .slice A3_2 l3_2.length c3_2, .slice A3_3 l3_3.length c3_3, .int .i64 a3_4, .int .i64 a3_5, .int .i64 a3_6]] w fun e w' => e = .returned (.bool r) ∧ Below w.heap.size w w' := by
 have hu26 := Try.underlying26
 have hu61 := Try.underlying61
 have hu54 := Try.underlying54
 have hu52 := Try.underlying52
 have HR0_3 := Aside0.mk hr0_3
 have HC0_3 := Aside0.mk hc0_3
 clear hr0_3 hc0_3
 have HR0_4 := Aside0.mk hr0_4
 have HC0_4 := Aside0.mk hc0_4
 clear hr0_4 hc0_4
 have HR0_5 := Aside0.mk hr0_5
 have HC0_5 := Aside0.mk hc0_5
 clear hr0_5 hc0_5
 have HR2_0 := Aside0.mk hr2_0
 have HC2_0 := Aside0.mk hc2_0
 clear hr2_0 hc2_0
 have HR2_1 := Aside0.mk hr2_1
 have HC2_1 := Aside0.mk hc2_1
 clear hr2_1 hc2_1
 have HR3_2 := Aside0.mk hr3_2
 have HC3_2 := Aside0.mk hc3_2
 clear hr3_2 hc3_2
 have HR3_3 := Aside0.mk hr3_3
 have HC3_3 := Aside0.mk hc3_3
 clear hr3_3 hc3_3
 have HB := Aside0.mk (Below.refl w.heap.size w)
 have H : (if a3_4 < 0 then (refute_full.j0 k a1 true a0_0 a0_1 a0_2 l0_3 l0_4 l0_5 l2_0 l2_1 a3_0 a3_1 l3_2 l3_3 a3_4 a3_5 a3_6) else (if a3_4 ≥ (l0_4.length : Int) then (refute_full.j0 k a1 true a0_0 a0_1 a0_2 l0_3 l0_4 l0_5 l2_0 l2_1 a3_0 a3_1 l3_2 l3_3 a3_4 a3_5 a3_6) else (if a3_6 < 0 then (refute_full.j0 k a1 true a0_0 a0_1 a0_2 l0_3 l0_4 l0_5 l2_0 l2_1 a3_0 a3_1 l3_2 l3_3 a3_4 a3_5 a3_6) else (refute_full.j0 k a1 (decide (a3_6 ≥ a1)) a0_0 a0_1 a0_2 l0_3 l0_4 l0_5 l2_0 l2_1 a3_0 a3_1 l3_2 l3_3 a3_4 a3_5 a3_6)))) = some r := h
 clear h
 have HC5 := Aside0.mk H
 clear H
 go_enter Try.func47, Try.ntmps47
 go_upto_region 1 with (first | ((with_reducible refine gate_dst (N := 4) rfl ?_); (try (refine gate_guard (by rfl) ?_; dsimp only)); refine box_event ?hg (N := 4) ?hd (cs := #[.int .i64 a0_0, .int .i64 a0_1, .bool a0_2, .slice A0_3 l0_3.length c0_3, .slice A0_4 l0_4.length c0_4, .slice A0_5 l0_5.length c0_5]) (t := 26) ?hr ?_; (case hd => rfl); (case hg => rfl); (case hr => first | (go_simp; done) | (go_simp; rfl)); intro gb165 hg w6 hbox hb; have n0_ := Aside0.mk (below_step bl_ hb); have n1_ := Aside0.mk (hbox); have n2_ := Aside0.mk (gl_ (w := w) hg); have n3_ := Aside0.mk (gl_ (w := w) hg); clear HB; have HB := n0_; have BK165 := n1_; have GW165 := n2_; have GE165 := n3_; clear n0_ n1_ n2_ n3_; clear hb hbox hg) | ((with_reducible refine gate_dst (N := 6) rfl ?_); (try (refine gate_guard (by rfl) ?_; dsimp only)); refine box_event ?hg (N := 6) ?hd (cs := #[.slice A2_0 l2_0.length c2_0, .slice A2_1 l2_1.length c2_1]) (t := 61) ?hr ?_; (case hd => rfl); (case hg => rfl); (case hr => first | (go_simp; done) | (go_simp; rfl)); intro gb166 hg w7 hbox hb; have n0_ := Aside0.mk (blk_below (K_ BK165) hb); have n1_ := Aside0.mk (below_step bl_ hb); have n2_ := Aside0.mk (hbox); have n3_ := Aside0.mk (gl_ (w := w) hg); have n4_ := Aside0.mk (gl_ (w := w) hg); have n5_ := Aside0.mk (nl_ hg (K_ BK165)); have n6_ := Aside0.mk (ng_ hg (K_ BK165)); clear BK165; clear HB; have BK165 := n0_; have HB := n1_; have BK166 := n2_; have GW166 := n3_; have GE166 := n4_; have NB165_166 := n5_; have NB166_165 := n6_; clear n0_ n1_ n2_ n3_ n4_ n5_ n6_; clear hb hbox hg) | ((with_reducible refine gate_dst (N := 7) rfl ?_); (try (refine gate_guard (by rfl) ?_; dsimp only)); refine box_event ?hg (N := 7) ?hd (cs := #[.int .i64 a3_0, .int .i64 a3_1, .slice A3_2 l3_2.length c3_2, .slice A3_3 l3_3.length c3_3, .int .i64 a3_4, .int .i64 a3_5, .int .i64 a3_6]) (t := 54) ?hr ?_; (case hd => rfl); (case hg => rfl); (case hr => first | (go_simp; done) | (go_simp; rfl)); intro gb167 hg w8 hbox hb; have n0_ := Aside0.mk (blk_below (K_ BK165) hb); have n1_ := Aside0.mk (blk_below (K_ BK166) hb); have n2_ := Aside0.mk (below_step bl_ hb); have n3_ := Aside0.mk (hbox); have n4_ := Aside0.mk (gl_ (w := w) hg); have n5_ := Aside0.mk (gl_ (w := w) hg); have n6_ := Aside0.mk (nl_ hg (K_ BK165)); have n7_ := Aside0.mk (ng_ hg (K_ BK165)); have n8_ := Aside0.mk (nl_ hg (K_ BK166)); have n9_ := Aside0.mk (ng_ hg (K_ BK166)); clear BK165; clear BK166; clear HB; have BK165 := n0_; have BK166 := n1_; have HB := n2_; have BK167 := n3_; have GW167 := n4_; have GE167 := n5_; have NB165_167 := n6_; have NB167_165 := n7_; have NB166_167 := n8_; have NB167_166 := n9_; clear n0_ n1_ n2_ n3_ n4_ n5_ n6_ n7_ n8_ n9_; clear hb hbox hg))
 repeat (go_quiet (first | ((with_reducible refine gate_dst (N := 4) rfl ?_); (try (refine gate_guard (by rfl) ?_; dsimp only)); refine box_event ?hg (N := 4) ?hd (cs := #[.int .i64 a0_0, .int .i64 a0_1, .bool a0_2, .slice A0_3 l0_3.length c0_3, .slice A0_4 l0_4.length c0_4, .slice A0_5 l0_5.length c0_5]) (t := 26) ?hr ?_; (case hd => rfl); (case hg => rfl); (case hr => first | (go_simp; done) | (go_simp; rfl)); intro gb165 hg w6 hbox hb; have n0_ := Aside0.mk (below_step bl_ hb); have n1_ := Aside0.mk (hbox); have n2_ := Aside0.mk (gl_ (w := w) hg); have n3_ := Aside0.mk (gl_ (w := w) hg); clear HB; have HB := n0_; have BK165 := n1_; have GW165 := n2_; have GE165 := n3_; clear n0_ n1_ n2_ n3_; clear hb hbox hg) | ((with_reducible refine gate_dst (N := 6) rfl ?_); (try (refine gate_guard (by rfl) ?_; dsimp only)); refine box_event ?hg (N := 6) ?hd (cs := #[.slice A2_0 l2_0.length c2_0, .slice A2_1 l2_1.length c2_1]) (t := 61) ?hr ?_; (case hd => rfl); (case hg => rfl); (case hr => first | (go_simp; done) | (go_simp; rfl)); intro gb166 hg w7 hbox hb; have n0_ := Aside0.mk (blk_below (K_ BK165) hb); have n1_ := Aside0.mk (below_step bl_ hb); have n2_ := Aside0.mk (hbox); have n3_ := Aside0.mk (gl_ (w := w) hg); have n4_ := Aside0.mk (gl_ (w := w) hg); have n5_ := Aside0.mk (nl_ hg (K_ BK165)); have n6_ := Aside0.mk (ng_ hg (K_ BK165)); clear BK165; clear HB; have BK165 := n0_; have HB := n1_; have BK166 := n2_; have GW166 := n3_; have GE166 := n4_; have NB165_166 := n5_; have NB166_165 := n6_; clear n0_ n1_ n2_ n3_ n4_ n5_ n6_; clear hb hbox hg) | ((with_reducible refine gate_dst (N := 7) rfl ?_); (try (refine gate_guard (by rfl) ?_; dsimp only)); refine box_event ?hg (N := 7) ?hd (cs := #[.int .i64 a3_0, .int .i64 a3_1, .slice A3_2 l3_2.length c3_2, .slice A3_3 l3_3.length c3_3, .int .i64 a3_4, .int .i64 a3_5, .int .i64 a3_6]) (t := 54) ?hr ?_; (case hd => rfl); (case hg => rfl); (case hr => first | (go_simp; done) | (go_simp; rfl)); intro gb167 hg w8 hbox hb; have n0_ := Aside0.mk (blk_below (K_ BK165) hb); have n1_ := Aside0.mk (blk_below (K_ BK166) hb); have n2_ := Aside0.mk (below_step bl_ hb); have n3_ := Aside0.mk (hbox); have n4_ := Aside0.mk (gl_ (w := w) hg); have n5_ := Aside0.mk (gl_ (w := w) hg); have n6_ := Aside0.mk (nl_ hg (K_ BK165)); have n7_ := Aside0.mk (ng_ hg (K_ BK165)); have n8_ := Aside0.mk (nl_ hg (K_ BK166)); have n9_ := Aside0.mk (ng_ hg (K_ BK166)); clear BK165; clear BK166; clear HB; have BK165 := n0_; have BK166 := n1_; have HB := n2_; have BK167 := n3_; have GW167 := n4_; have GE167 := n5_; have NB165_167 := n6_; have NB167_165 := n7_; have NB166_167 := n8_; have NB167_166 := n9_; clear n0_ n1_ n2_ n3_ n4_ n5_ n6_ n7_ n8_ n9_; clear hb hbox hg)); go_upto_region 1 with (first | ((with_reducible refine gate_dst (N := 4) rfl ?_); (try (refine gate_guard (by rfl) ?_; dsimp only)); refine box_event ?hg (N := 4) ?hd (cs := #[.int .i64 a0_0, .int .i64 a0_1, .bool a0_2, .slice A0_3 l0_3.length c0_3, .slice A0_4 l0_4.length c0_4, .slice A0_5 l0_5.length c0_5]) (t := 26) ?hr ?_; (case hd => rfl); (case hg => rfl); (case hr => first | (go_simp; done) | (go_simp; rfl)); intro gb165 hg w6 hbox hb; have n0_ := Aside0.mk (below_step bl_ hb); have n1_ := Aside0.mk (hbox); have n2_ := Aside0.mk (gl_ (w := w) hg); have n3_ := Aside0.mk (gl_ (w := w) hg); clear HB; have HB := n0_; have BK165 := n1_; have GW165 := n2_; have GE165 := n3_; clear n0_ n1_ n2_ n3_; clear hb hbox hg) | ((with_reducible refine gate_dst (N := 6) rfl ?_); (try (refine gate_guard (by rfl) ?_; dsimp only)); refine box_event ?hg (N := 6) ?hd (cs := #[.slice A2_0 l2_0.length c2_0, .slice A2_1 l2_1.length c2_1]) (t := 61) ?hr ?_; (case hd => rfl); (case hg => rfl); (case hr => first | (go_simp; done) | (go_simp; rfl)); intro gb166 hg w7 hbox hb; have n0_ := Aside0.mk (blk_below (K_ BK165) hb); have n1_ := Aside0.mk (below_step bl_ hb); have n2_ := Aside0.mk (hbox); have n3_ := Aside0.mk (gl_ (w := w) hg); have n4_ := Aside0.mk (gl_ (w := w) hg); have n5_ := Aside0.mk (nl_ hg (K_ BK165)); have n6_ := Aside0.mk (ng_ hg (K_ BK165)); clear BK165; clear HB; have BK165 := n0_; have HB := n1_; have BK166 := n2_; have GW166 := n3_; have GE166 := n4_; have NB165_166 := n5_; have NB166_165 := n6_; clear n0_ n1_ n2_ n3_ n4_ n5_ n6_; clear hb hbox hg) | ((with_reducible refine gate_dst (N := 7) rfl ?_); (try (refine gate_guard (by rfl) ?_; dsimp only)); refine box_event ?hg (N := 7) ?hd (cs := #[.int .i64 a3_0, .int .i64 a3_1, .slice A3_2 l3_2.length c3_2, .slice A3_3 l3_3.length c3_3, .int .i64 a3_4, .int .i64 a3_5, .int .i64 a3_6]) (t := 54) ?hr ?_; (case hd => rfl); (case hg => rfl); (case hr => first | (go_simp; done) | (go_simp; rfl)); intro gb167 hg w8 hbox hb; have n0_ := Aside0.mk (blk_below (K_ BK165) hb); have n1_ := Aside0.mk (blk_below (K_ BK166) hb); have n2_ := Aside0.mk (below_step bl_ hb); have n3_ := Aside0.mk (hbox); have n4_ := Aside0.mk (gl_ (w := w) hg); have n5_ := Aside0.mk (gl_ (w := w) hg); have n6_ := Aside0.mk (nl_ hg (K_ BK165)); have n7_ := Aside0.mk (ng_ hg (K_ BK165)); have n8_ := Aside0.mk (nl_ hg (K_ BK166)); have n9_ := Aside0.mk (ng_ hg (K_ BK166)); clear BK165; clear BK166; clear HB; have BK165 := n0_; have BK166 := n1_; have HB := n2_; have BK167 := n3_; have GW167 := n4_; have GE167 := n5_; have NB165_167 := n6_; have NB167_165 := n7_; have NB166_167 := n8_; have NB167_166 := n9_; clear n0_ n1_ n2_ n3_ n4_ n5_ n6_ n7_ n8_ n9_; clear hb hbox hg)))
 (try simp only [Act.put, List.setIfInBounds_toArray, List.set_cons_zero, List.set_cons_succ])
 go_cut [34] (fun v34 wc => ∃ (kq : Nat) (x34_4 : Bool), v34 = .bool x34_4 ∧ Aside0 (refute_full.j0 kq a1 x34_4 a0_0 a0_1 a0_2 l0_3 l0_4 l0_5 l2_0 l2_1 a3_0 a3_1 l3_2 l3_3 a3_4 a3_5 a3_6 = some r) ∧ Aside0 (kq ≤ k) ∧ Aside0 (wc.heap[gb165]? = some (.cells #[.int .i64 a0_0, .int .i64 a0_1, .bool a0_2, (.slice A0_3 l0_3.length c0_3), (.slice A0_4 l0_4.length c0_4), (.slice A0_5 l0_5.length c0_5)] 26 (0, 0))) ∧ Aside0 (wc.heap[gb166]? = some (.cells #[(.slice A2_0 l2_0.length c2_0), (.slice A2_1 l2_1.length c2_1)] 61 (0, 0))) ∧ Aside0 (wc.heap[gb167]? = some (.cells #[.int .i64 a3_0, .int .i64 a3_1, (.slice A3_2 l3_2.length c3_2), (.slice A3_3 l3_3.length c3_3), .int .i64 a3_4, .int .i64 a3_5, .int .i64 a3_6] 54 (0, 0))) ∧ Aside0 (Below w.heap.size w wc))
 case first =>
  have H := HC5.out
  clear HC5
  by_cases c9 : a3_4 < 0
  · rw [if_pos c9] at H
    have c9b0 : decide (a3_4 < 0) = true := decide_eq_true c9
    clear c9
    (first | rw [c9b0] | (simp only [i64_w, i32_w]; rw [c9b0]) | skip)
    have H' := Aside0.mk H
    clear H
    have hnb10 := NB167_165.out
    have hnc10 := NB165_167.out
    have hnb11 := NB167_166.out
    have hnc11 := NB166_167.out
    obtain ⟨hcz12_0, hcz12_1, hcz12_2, hcz12_3, hcz12_4, hcz12_5, hcz12_6⟩ := cells7 BK167
    obtain ⟨hfz12_0, hfz12_1, hfz12_2, hfz12_3, hfz12_4, hfz12_5, hfz12_6⟩ := fz7 BK167
    go_wp2
    repeat (go_quiet (fail); try go_wp2)
    go_meet
    case rel => exact ⟨_, (true), (by first | rfl | (simp; done) | (simp [*]; done)), H', ⟨by first | omega | exact Nat.le_refl _⟩, ⟨K_ BK165⟩, ⟨K_ BK166⟩, ⟨K_ BK167⟩, ⟨bl_⟩⟩
  rw [if_neg c9] at H
  have c9b0 : decide (a3_4 < 0) = false := decide_eq_false c9
  clear c9
  (first | rw [c9b0] | (simp only [i64_w, i32_w]; rw [c9b0]) | skip)
  by_cases c13 : a3_4 ≥ (l0_4.length : Int)
  · rw [if_pos c13] at H
    have c13b0 : decide ((l0_4.length : Int) ≤ a3_4) = true := decide_eq_true c13
    clear c13
    have H' := Aside0.mk H
    clear H
    have hnb14 := NB167_165.out
    have hnc14 := NB165_167.out
    have hnb15 := NB167_166.out
    have hnc15 := NB166_167.out
    obtain ⟨hcz16_0, hcz16_1, hcz16_2, hcz16_3, hcz16_4, hcz16_5, hcz16_6⟩ := cells7 BK167
    obtain ⟨hfz16_0, hfz16_1, hfz16_2, hfz16_3, hfz16_4, hfz16_5, hfz16_6⟩ := fz7 BK167
    have hnb17 := NB165_166.out
    have hnc17 := NB166_165.out
    obtain ⟨hcz18_0, hcz18_1, hcz18_2, hcz18_3, hcz18_4, hcz18_5⟩ := cells6 BK165
    obtain ⟨hfz18_0, hfz18_1, hfz18_2, hfz18_3, hfz18_4, hfz18_5⟩ := fz6 BK165
    go_wp2
    repeat (go_quiet (fail); try go_wp2)
    go_meet
    case rel => exact ⟨_, (true), (by first | rfl | (simp; done) | (simp [*]; done)), H', ⟨by first | omega | exact Nat.le_refl _⟩, ⟨K_ BK165⟩, ⟨K_ BK166⟩, ⟨K_ BK167⟩, ⟨bl_⟩⟩
  rw [if_neg c13] at H
  have c13b0 : decide ((l0_4.length : Int) ≤ a3_4) = false := decide_eq_false c13
  clear c13
  by_cases c19 : a3_6 < 0
  · rw [if_pos c19] at H
    have c19b0 : decide (a3_6 < 0) = true := decide_eq_true c19
    clear c19
    have H' := Aside0.mk H
    clear H
    have hnb20 := NB167_165.out
    have hnc20 := NB165_167.out
    have hnb21 := NB167_166.out
    have hnc21 := NB166_167.out
    obtain ⟨hcz22_0, hcz22_1, hcz22_2, hcz22_3, hcz22_4, hcz22_5, hcz22_6⟩ := cells7 BK167
    obtain ⟨hfz22_0, hfz22_1, hfz22_2, hfz22_3, hfz22_4, hfz22_5, hfz22_6⟩ := fz7 BK167
    have hnb23 := NB165_166.out
    have hnc23 := NB166_165.out
    obtain ⟨hcz24_0, hcz24_1, hcz24_2, hcz24_3, hcz24_4, hcz24_5⟩ := cells6 BK165
    obtain ⟨hfz24_0, hfz24_1, hfz24_2, hfz24_3, hfz24_4, hfz24_5⟩ := fz6 BK165
    go_wp2
    repeat (go_quiet (fail); try go_wp2)
    go_meet
    case rel => exact ⟨_, (true), (by first | rfl | (simp; done) | (simp [*]; done)), H', ⟨by first | omega | exact Nat.le_refl _⟩, ⟨K_ BK165⟩, ⟨K_ BK166⟩, ⟨K_ BK167⟩, ⟨bl_⟩⟩
  rw [if_neg c19] at H
  have c19b0 : decide (a3_6 < 0) = false := decide_eq_false c19
  clear c19
  have H' := Aside0.mk H
  clear H
  have hnb25 := NB167_165.out
  have hnc25 := NB165_167.out
  have hnb26 := NB167_166.out
  have hnc26 := NB166_167.out
  obtain ⟨hcz27_0, hcz27_1, hcz27_2, hcz27_3, hcz27_4, hcz27_5, hcz27_6⟩ := cells7 BK167
  obtain ⟨hfz27_0, hfz27_1, hfz27_2, hfz27_3, hfz27_4, hfz27_5, hfz27_6⟩ := fz7 BK167
  have hnb28 := NB165_166.out
  have hnc28 := NB166_165.out
  obtain ⟨hcz29_0, hcz29_1, hcz29_2, hcz29_3, hcz29_4, hcz29_5⟩ := cells6 BK165
  obtain ⟨hfz29_0, hfz29_1, hfz29_2, hfz29_3, hfz29_4, hfz29_5⟩ := fz6 BK165
  go_wp2
  repeat (go_quiet (fail); try go_wp2)
  go_meet
  case rel => exact ⟨_, (decide (a3_6 ≥ a1)), (by first | rfl | (simp; done) | (simp [*]; done)), H', ⟨by first | omega | exact Nat.le_refl _⟩, ⟨K_ BK165⟩, ⟨K_ BK166⟩, ⟨K_ BK167⟩, ⟨bl_⟩⟩
 clear HC5
 obtain ⟨kq, x34_4, rfl, HA, HJ4, BK165, BK166, BK167, HB⟩ := hcut
 cases kq with
 | zero => exact absurd HA.out (by simp [refute_full.j0])
 | succ kj4 => ?_
 have H := HA.out
 clear HA
 simp only [refute_full.j0] at H
 by_cases c30 : x34_4 = true
 · subst c30
   have H1 : (some false) = some r := by rw [if_pos rfl] at H; exact H
   clear H
   have H := H1
   clear H1
   obtain rfl := Option.some.inj H
   go_wp2
   repeat (go_quiet (fail); try go_wp2)
   go_ret
   exact ⟨by first | rfl | (simp [errW_none, errW_some] <;> rfl) | (simp [*, errW_none, errW_some] <;> rfl), by repeat (first | (with_reducible first | exact HB.out | apply below_alloc | apply pw_below_drewN | apply below_drew1 | refine below_set ?_ GE165.out | refine below_set ?_ GE166.out | refine below_set ?_ GE167.out) | exact HB.out)⟩
 replace c30 := Bool.eq_false_iff.mpr c30
 subst c30
 have H1 : (refute_full.l0 kj4 a1 0 l0_5 (l0_5.length : Int) 0 l2_0 l2_1 a3_0 a3_1 l3_2 l3_3 a3_4 a3_5 a3_6) = some r := by rw [if_neg (show ¬ (false = true) by decide)] at H; exact H
 clear H
 have H := H1
 clear H1
 have H' := Aside0.mk H
 clear H
 have hnb31 := NB165_166.out
 have hnc31 := NB166_165.out
 have hnb32 := NB165_167.out
 have hnc32 := NB167_165.out
 obtain ⟨hcz33_0, hcz33_1, hcz33_2, hcz33_3, hcz33_4, hcz33_5⟩ := cells6 BK165
 obtain ⟨hfz33_0, hfz33_1, hfz33_2, hfz33_3, hfz33_4, hfz33_5⟩ := fz6 BK165
 go_wp2
 repeat (go_quiet (fail); try go_wp2)
 go_loopg [9, 38] kj4 (fun kq v9 v38 w' => ∃ (x9_2 : Int) (x38_2 : Int), v9 = .int .i64 x9_2 ∧ v38 = .int .i64 x38_2 ∧ Aside0 (refute_full.l0 kq a1 x9_2 l0_5 (l0_5.length : Int) x38_2 l2_0 l2_1 a3_0 a3_1 l3_2 l3_3 a3_4 a3_5 a3_6 = some r) ∧ Aside0 (kq ≤ kj4) ∧ Aside0 (w'.heap[gb165]? = some (.cells #[.int .i64 a0_0, .int .i64 a0_1, .bool a0_2, (.slice A0_3 l0_3.length c0_3), (.slice A0_4 l0_4.length c0_4), (.slice A0_5 l0_5.length c0_5)] 26 (0, 0))) ∧ Aside0 (w'.heap[gb166]? = some (.cells #[(.slice A2_0 l2_0.length c2_0), (.slice A2_1 l2_1.length c2_1)] 61 (0, 0))) ∧ Aside0 (w'.heap[gb167]? = some (.cells #[.int .i64 a3_0, .int .i64 a3_1, (.slice A3_2 l3_2.length c3_2), (.slice A3_3 l3_3.length c3_3), .int .i64 a3_4, .int .i64 a3_5, .int .i64 a3_6] 54 (0, 0))) ∧ Aside0 (Below w.heap.size w w'))
 case atStart => exact ⟨(0), (0), (by first | rfl | (simp; done) | (simp [*]; done)), (by first | rfl | (simp; done) | (simp [*]; done)), H', ⟨Nat.le_refl _⟩, ⟨K_ BK165⟩, ⟨K_ BK166⟩, ⟨K_ BK167⟩, ⟨bl_⟩⟩
 clear H'
 obtain ⟨x9_2, x38_2, rfl, rfl, HA, HK2, BK165, BK166, BK167, HB⟩ := hrel
 cases gk with
 | zero => exact absurd HA.out (by simp [refute_full.l0])
 | succ k2 => ?_
 have H := HA.out
 clear HA
 simp only [refute_full.l0] at H
 by_cases c34 : x38_2 < (l0_5.length : Int)
 · rw [if_pos c34] at H
   have c34b0 : decide (x38_2 < (l0_5.length : Int)) = true := decide_eq_true c34
   clear c34
   by_cases c35 : 0 ≤ x38_2
   · rw [if_pos c35] at H
     have c35b0 : decide (0 ≤ x38_2) = true := decide_eq_true c35
     clear c35
     by_cases c36 : x38_2 < (l0_5.length : Int)
     · rw [if_pos c36] at H
       have c36b0 : decide (x38_2 < (l0_5.length : Int)) = true := decide_eq_true c36
       clear c36
       have HC37 := Aside0.mk H
       clear H
       have p168 : 0 ≤ (x38_2 : Int) := of_decide_eq_true (by first | (with_reducible assumption) | assumption)
       have q168 : x38_2 < (l0_5.length : Int) := of_decide_eq_true (by first | (with_reducible assumption) | assumption)
       obtain ⟨ad168, e168, hx168_0, hx168_1⟩ := at_T52 HR0_5.out x38_2 p168 q168
       cases e168
       replace hx168_0 := hc_ HB hx168_0
       replace hx168_1 := hc_ HB hx168_1
       replace p168 := eq_true p168
       replace q168 := eq_true q168
       go_upto_region 7 with (first | ((with_reducible refine gate_dst (N := 11) rfl ?_); (try (refine gate_guard (by rfl) ?_; dsimp only)); refine box_event ?hg (N := 11) ?hd (cs := #[.int .i64 0, .int .i64 0]) (t := 52) ?hr ?_; (case hd => rfl); (case hg => rfl); (case hr => first | (go_simp; done) | (go_simp; rfl)); intro gb169 hg w38 hbox hb; have n0_ := Aside0.mk (blk_below (K_ BK165) hb); have n1_ := Aside0.mk (blk_below (K_ BK166) hb); have n2_ := Aside0.mk (blk_below (K_ BK167) hb); have n3_ := Aside0.mk (below_step bl_ hb); have n4_ := Aside0.mk (hbox); have n5_ := Aside0.mk (gl_ (w := w) hg); have n6_ := Aside0.mk (gl_ (w := w) hg); have n7_ := Aside0.mk (nl_ hg (K_ BK165)); have n8_ := Aside0.mk (ng_ hg (K_ BK165)); have n9_ := Aside0.mk (nl_ hg (K_ BK166)); have n10_ := Aside0.mk (ng_ hg (K_ BK166)); have n11_ := Aside0.mk (nl_ hg (K_ BK167)); have n12_ := Aside0.mk (ng_ hg (K_ BK167)); clear BK165; clear BK166; clear BK167; clear HB; have BK165 := n0_; have BK166 := n1_; have BK167 := n2_; have HB := n3_; have BK169 := n4_; have GW169 := n5_; have GE169 := n6_; have NB165_169 := n7_; have NB169_165 := n8_; have NB166_169 := n9_; have NB169_166 := n10_; have NB167_169 := n11_; have NB169_167 := n12_; clear n0_ n1_ n2_ n3_ n4_ n5_ n6_ n7_ n8_ n9_ n10_ n11_ n12_; clear hb hbox hg; have hnb39 := NB169_165.out; have hnc39 := NB165_169.out; have hnb40 := NB169_166.out; have hnc40 := NB166_169.out; have hnb41 := NB169_167.out; have hnc41 := NB167_169.out; obtain ⟨hcz42_0, hcz42_1⟩ := cells2 BK169; obtain ⟨hfz42_0, hfz42_1⟩ := fz2 BK169))
       repeat (go_quiet (first | ((with_reducible refine gate_dst (N := 11) rfl ?_); (try (refine gate_guard (by rfl) ?_; dsimp only)); refine box_event ?hg (N := 11) ?hd (cs := #[.int .i64 0, .int .i64 0]) (t := 52) ?hr ?_; (case hd => rfl); (case hg => rfl); (case hr => first | (go_simp; done) | (go_simp; rfl)); intro gb169 hg w38 hbox hb; have n0_ := Aside0.mk (blk_below (K_ BK165) hb); have n1_ := Aside0.mk (blk_below (K_ BK166) hb); have n2_ := Aside0.mk (blk_below (K_ BK167) hb); have n3_ := Aside0.mk (below_step bl_ hb); have n4_ := Aside0.mk (hbox); have n5_ := Aside0.mk (gl_ (w := w) hg); have n6_ := Aside0.mk (gl_ (w := w) hg); have n7_ := Aside0.mk (nl_ hg (K_ BK165)); have n8_ := Aside0.mk (ng_ hg (K_ BK165)); have n9_ := Aside0.mk (nl_ hg (K_ BK166)); have n10_ := Aside0.mk (ng_ hg (K_ BK166)); have n11_ := Aside0.mk (nl_ hg (K_ BK167)); have n12_ := Aside0.mk (ng_ hg (K_ BK167)); clear BK165; clear BK166; clear BK167; clear HB; have BK165 := n0_; have BK166 := n1_; have BK167 := n2_; have HB := n3_; have BK169 := n4_; have GW169 := n5_; have GE169 := n6_; have NB165_169 := n7_; have NB169_165 := n8_; have NB166_169 := n9_; have NB169_166 := n10_; have NB167_169 := n11_; have NB169_167 := n12_; clear n0_ n1_ n2_ n3_ n4_ n5_ n6_ n7_ n8_ n9_ n10_ n11_ n12_; clear hb hbox hg; have hnb39 := NB169_165.out; have hnc39 := NB165_169.out; have hnb40 := NB169_166.out; have hnc40 := NB166_169.out; have hnb41 := NB169_167.out; have hnc41 := NB167_169.out; obtain ⟨hcz42_0, hcz42_1⟩ := cells2 BK169; obtain ⟨hfz42_0, hfz42_1⟩ := fz2 BK169)); go_upto_region 7 with (first | ((with_reducible refine gate_dst (N := 11) rfl ?_); (try (refine gate_guard (by rfl) ?_; dsimp only)); refine box_event ?hg (N := 11) ?hd (cs := #[.int .i64 0, .int .i64 0]) (t := 52) ?hr ?_; (case hd => rfl); (case hg => rfl); (case hr => first | (go_simp; done) | (go_simp; rfl)); intro gb169 hg w38 hbox hb; have n0_ := Aside0.mk (blk_below (K_ BK165) hb); have n1_ := Aside0.mk (blk_below (K_ BK166) hb); have n2_ := Aside0.mk (blk_below (K_ BK167) hb); have n3_ := Aside0.mk (below_step bl_ hb); have n4_ := Aside0.mk (hbox); have n5_ := Aside0.mk (gl_ (w := w) hg); have n6_ := Aside0.mk (gl_ (w := w) hg); have n7_ := Aside0.mk (nl_ hg (K_ BK165)); have n8_ := Aside0.mk (ng_ hg (K_ BK165)); have n9_ := Aside0.mk (nl_ hg (K_ BK166)); have n10_ := Aside0.mk (ng_ hg (K_ BK166)); have n11_ := Aside0.mk (nl_ hg (K_ BK167)); have n12_ := Aside0.mk (ng_ hg (K_ BK167)); clear BK165; clear BK166; clear BK167; clear HB; have BK165 := n0_; have BK166 := n1_; have BK167 := n2_; have HB := n3_; have BK169 := n4_; have GW169 := n5_; have GE169 := n6_; have NB165_169 := n7_; have NB169_165 := n8_; have NB166_169 := n9_; have NB169_166 := n10_; have NB167_169 := n11_; have NB169_167 := n12_; clear n0_ n1_ n2_ n3_ n4_ n5_ n6_ n7_ n8_ n9_ n10_ n11_ n12_; clear hb hbox hg; have hnb39 := NB169_165.out; have hnc39 := NB165_169.out; have hnb40 := NB169_166.out; have hnc40 := NB166_169.out; have hnb41 := NB169_167.out; have hnc41 := NB167_169.out; obtain ⟨hcz42_0, hcz42_1⟩ := cells2 BK169; obtain ⟨hfz42_0, hfz42_1⟩ := fz2 BK169)))
       (try simp only [Act.put, List.setIfInBounds_toArray, List.set_cons_zero, List.set_cons_succ])
       go_cut [65] (fun v65 wc => ∃ (kq : Nat) (x65_36 : Bool), v65 = .bool x65_36 ∧ Aside0 (refute_full.j2 kq a1 x9_2 x38_2 l0_5 (l0_5.length : Int) x38_2 x65_36 l2_0 l2_1 a3_0 a3_1 l3_2 l3_3 a3_4 a3_5 a3_6 ((rd_T52 l0_5 x38_2).f0) ((rd_T52 l0_5 x38_2).f1) = some r) ∧ Aside0 (kq ≤ k2) ∧ Aside0 (wc.heap[gb165]? = some (.cells #[.int .i64 a0_0, .int .i64 a0_1, .bool a0_2, (.slice A0_3 l0_3.length c0_3), (.slice A0_4 l0_4.length c0_4), (.slice (some ad168) l0_5.length c0_5)] 26 (0, 0))) ∧ Aside0 (wc.heap[gb166]? = some (.cells #[(.slice A2_0 l2_0.length c2_0), (.slice A2_1 l2_1.length c2_1)] 61 (0, 0))) ∧ Aside0 (wc.heap[gb167]? = some (.cells #[.int .i64 a3_0, .int .i64 a3_1, (.slice A3_2 l3_2.length c3_2), (.slice A3_3 l3_3.length c3_3), .int .i64 a3_4, .int .i64 a3_5, .int .i64 a3_6] 54 (0, 0))) ∧ Aside0 (wc.heap[gb169]? = some (.cells #[.int .i64 ((rd_T52 l0_5 x38_2).f0), .int .i64 ((rd_T52 l0_5 x38_2).f1)] 52 (0, 0))) ∧ Aside0 (Below w.heap.size w wc))
       case first =>
        have H := HC37.out
        clear HC37
        by_cases c43 : ((rd_T52 l0_5 x38_2).f0) = a3_4
        · rw [if_pos c43] at H
          have c43b0 : (((rd_T52 l0_5 x38_2).f0) == a3_4) = true := beq_iff_eq.mpr c43
          have c43b1 : (((rd_T52 l0_5 x38_2).f0) != a3_4) = false := bne_eq_false_iff_eq.mpr c43
          clear c43
          (first | rw [c43b0] | (simp only [i64_w, i32_w]; rw [c43b0]) | skip)
          by_cases c44 : x38_2 < (l2_0.length : Int)
          · rw [if_pos c44] at H
            have c44b0 : decide (x38_2 < (l2_0.length : Int)) = true := decide_eq_true c44
            clear c44
            by_cases c45 : (rd l2_0 x38_2) < 0
            · rw [if_pos c45] at H
              have c45b0 : decide ((rd l2_0 x38_2) < 0) = true := decide_eq_true c45
              clear c45
              have H' := Aside0.mk H
              clear H
              have hnb46 := NB169_165.out
              have hnc46 := NB165_169.out
              have hnb47 := NB169_166.out
              have hnc47 := NB166_169.out
              have hnb48 := NB169_167.out
              have hnc48 := NB167_169.out
              obtain ⟨hcz49_0, hcz49_1⟩ := cells2 BK169
              obtain ⟨hfz49_0, hfz49_1⟩ := fz2 BK169
              have hnb50 := NB167_165.out
              have hnc50 := NB165_167.out
              have hnb51 := NB167_166.out
              have hnc51 := NB166_167.out
              obtain ⟨hcz52_0, hcz52_1, hcz52_2, hcz52_3, hcz52_4, hcz52_5, hcz52_6⟩ := cells7 BK167
              obtain ⟨hfz52_0, hfz52_1, hfz52_2, hfz52_3, hfz52_4, hfz52_5, hfz52_6⟩ := fz7 BK167
              have hnb53 := NB166_165.out
              have hnc53 := NB165_166.out
              obtain ⟨hcz54_0, hcz54_1⟩ := cells2 BK166
              obtain ⟨hfz54_0, hfz54_1⟩ := fz2 BK166
              have p170 : 0 ≤ (x38_2 : Int) := of_decide_eq_true (by first | (with_reducible assumption) | assumption)
              have q170 : x38_2 < (l2_0.length : Int) := of_decide_eq_true (by first | (with_reducible assumption) | assumption)
              obtain ⟨ad170, e170, hx170_0⟩ := Kd.at_int HR2_0.out x38_2 p170 q170
              cases e170
              have hn170_0 : ad170.block ≠ gb169 := Nat.ne_of_lt (Nat.lt_of_lt_of_le (by have := World.block_lt_of_cell? _ _ hx170_0; first | rwa [add_block] at this | exact this) GW169.out)
              have hn170_1 : ad170.block ≠ gb169 := Nat.ne_of_lt (Nat.lt_of_lt_of_le (by have := World.block_lt_of_cell? _ _ hx170_0; first | rwa [add_block] at this | exact this) GW169.out)
              replace hx170_0 := hc_ HB hx170_0
              replace hx170_0 := (cell_far (p := ⟨gb169, 0, none⟩) (ab_ hn170_0) (.int .i64 ((rd_T52 l0_5 x38_2).f0))).trans hx170_0
              replace hx170_0 := (cell_far (p := ⟨gb169, 1, none⟩) (ab_ hn170_1) (.int .i64 ((rd_T52 l0_5 x38_2).f1))).trans hx170_0
              replace p170 := eq_true p170
              replace q170 := eq_true q170
              go_wp2
              repeat (go_quiet (fail); try go_wp2)
              go_meet
              case rel => exact ⟨_, (true), (by first | rfl | (simp; done) | (simp [*]; done)), H', ⟨by have := HJ4.out; have := HK2.out; first | omega | exact Nat.le_refl _⟩, ⟨by (with_reducible repeat (first | refine blk_drewN ?_ _ | refine blk_drew ?_ | refine blk_alloc ?_ _)); refine blk_far ?_ NB165_169.out _; (with_reducible repeat (first | refine blk_drewN ?_ _ | refine blk_drew ?_ | refine blk_alloc ?_ _)); refine blk_far ?_ NB165_169.out _; (with_reducible repeat (first | refine blk_drewN ?_ _ | refine blk_drew ?_ | refine blk_alloc ?_ _)); exact BK165.out⟩, ⟨by (with_reducible repeat (first | refine blk_drewN ?_ _ | refine blk_drew ?_ | refine blk_alloc ?_ _)); refine blk_far ?_ NB166_169.out _; (with_reducible repeat (first | refine blk_drewN ?_ _ | refine blk_drew ?_ | refine blk_alloc ?_ _)); refine blk_far ?_ NB166_169.out _; (with_reducible repeat (first | refine blk_drewN ?_ _ | refine blk_drew ?_ | refine blk_alloc ?_ _)); exact BK166.out⟩, ⟨by (with_reducible repeat (first | refine blk_drewN ?_ _ | refine blk_drew ?_ | refine blk_alloc ?_ _)); refine blk_far ?_ NB167_169.out _; (with_reducible repeat (first | refine blk_drewN ?_ _ | refine blk_drew ?_ | refine blk_alloc ?_ _)); refine blk_far ?_ NB167_169.out _; (with_reducible repeat (first | refine blk_drewN ?_ _ | refine blk_drew ?_ | refine blk_alloc ?_ _)); exact BK167.out⟩, ⟨by (with_reducible repeat (first | refine blk_drewN ?_ _ | refine blk_drew ?_ | refine blk_alloc ?_ _)); refine blk_put (cs := #[.int .i64 ((rd_T52 l0_5 x38_2).f0), .int .i64 0]) ?_ 1 _ rfl; (with_reducible repeat (first | refine blk_drewN ?_ _ | refine blk_drew ?_ | refine blk_alloc ?_ _)); refine blk_put (cs := #[.int .i64 0, .int .i64 0]) ?_ 0 _ rfl; (with_reducible repeat (first | refine blk_drewN ?_ _ | refine blk_drew ?_ | refine blk_alloc ?_ _)); exact BK169.out⟩, ⟨bl_⟩⟩
            rw [if_neg c45] at H
            have c45b0 : decide ((rd l2_0 x38_2) < 0) = false := decide_eq_false c45
            clear c45
            by_cases c55 : x38_2 < (l2_1.length : Int)
            · rw [if_pos c55] at H
              have c55b0 : decide (x38_2 < (l2_1.length : Int)) = true := decide_eq_true c55
              clear c55
              have H' := Aside0.mk H
              clear H
              have hnb56 := NB169_165.out
              have hnc56 := NB165_169.out
              have hnb57 := NB169_166.out
              have hnc57 := NB166_169.out
              have hnb58 := NB169_167.out
              have hnc58 := NB167_169.out
              obtain ⟨hcz59_0, hcz59_1⟩ := cells2 BK169
              obtain ⟨hfz59_0, hfz59_1⟩ := fz2 BK169
              have hnb60 := NB167_165.out
              have hnc60 := NB165_167.out
              have hnb61 := NB167_166.out
              have hnc61 := NB166_167.out
              obtain ⟨hcz62_0, hcz62_1, hcz62_2, hcz62_3, hcz62_4, hcz62_5, hcz62_6⟩ := cells7 BK167
              obtain ⟨hfz62_0, hfz62_1, hfz62_2, hfz62_3, hfz62_4, hfz62_5, hfz62_6⟩ := fz7 BK167
              have hnb63 := NB166_165.out
              have hnc63 := NB165_166.out
              obtain ⟨hcz64_0, hcz64_1⟩ := cells2 BK166
              obtain ⟨hfz64_0, hfz64_1⟩ := fz2 BK166
              have p170 : 0 ≤ (x38_2 : Int) := of_decide_eq_true (by first | (with_reducible assumption) | assumption)
              have q170 : x38_2 < (l2_0.length : Int) := of_decide_eq_true (by first | (with_reducible assumption) | assumption)
              obtain ⟨ad170, e170, hx170_0⟩ := Kd.at_int HR2_0.out x38_2 p170 q170
              cases e170
              have hn170_0 : ad170.block ≠ gb169 := Nat.ne_of_lt (Nat.lt_of_lt_of_le (by have := World.block_lt_of_cell? _ _ hx170_0; first | rwa [add_block] at this | exact this) GW169.out)
              have hn170_1 : ad170.block ≠ gb169 := Nat.ne_of_lt (Nat.lt_of_lt_of_le (by have := World.block_lt_of_cell? _ _ hx170_0; first | rwa [add_block] at this | exact this) GW169.out)
              replace hx170_0 := hc_ HB hx170_0
              replace hx170_0 := (cell_far (p := ⟨gb169, 0, none⟩) (ab_ hn170_0) (.int .i64 ((rd_T52 l0_5 x38_2).f0))).trans hx170_0
              replace hx170_0 := (cell_far (p := ⟨gb169, 1, none⟩) (ab_ hn170_1) (.int .i64 ((rd_T52 l0_5 x38_2).f1))).trans hx170_0
              replace p170 := eq_true p170
              replace q170 := eq_true q170
              have p171 : 0 ≤ (x38_2 : Int) := of_decide_eq_true (by first | (with_reducible assumption) | assumption)
              have q171 : x38_2 < (l2_1.length : Int) := of_decide_eq_true (by first | (with_reducible assumption) | assumption)
              obtain ⟨ad171, e171, hx171_0⟩ := Kd.at_int HR2_1.out x38_2 p171 q171
              cases e171
              have hn171_0 : ad171.block ≠ gb169 := Nat.ne_of_lt (Nat.lt_of_lt_of_le (by have := World.block_lt_of_cell? _ _ hx171_0; first | rwa [add_block] at this | exact this) GW169.out)
              have hn171_1 : ad171.block ≠ gb169 := Nat.ne_of_lt (Nat.lt_of_lt_of_le (by have := World.block_lt_of_cell? _ _ hx171_0; first | rwa [add_block] at this | exact this) GW169.out)
              replace hx171_0 := hc_ HB hx171_0
              replace hx171_0 := (cell_far (p := ⟨gb169, 0, none⟩) (ab_ hn171_0) (.int .i64 ((rd_T52 l0_5 x38_2).f0))).trans hx171_0
              replace hx171_0 := (cell_far (p := ⟨gb169, 1, none⟩) (ab_ hn171_1) (.int .i64 ((rd_T52 l0_5 x38_2).f1))).trans hx171_0
              replace p171 := eq_true p171
              replace q171 := eq_true q171
              go_wp2
              repeat (go_quiet (fail); try go_wp2)
              go_meet
              case rel => exact ⟨_, (((rd l2_1 x38_2) != a3_5)), (by first | rfl | (simp; done) | (simp [*]; done)), H', ⟨by have := HJ4.out; have := HK2.out; first | omega | exact Nat.le_refl _⟩, ⟨by (with_reducible repeat (first | refine blk_drewN ?_ _ | refine blk_drew ?_ | refine blk_alloc ?_ _)); refine blk_far ?_ NB165_169.out _; (with_reducible repeat (first | refine blk_drewN ?_ _ | refine blk_drew ?_ | refine blk_alloc ?_ _)); refine blk_far ?_ NB165_169.out _; (with_reducible repeat (first | refine blk_drewN ?_ _ | refine blk_drew ?_ | refine blk_alloc ?_ _)); exact BK165.out⟩, ⟨by (with_reducible repeat (first | refine blk_drewN ?_ _ | refine blk_drew ?_ | refine blk_alloc ?_ _)); refine blk_far ?_ NB166_169.out _; (with_reducible repeat (first | refine blk_drewN ?_ _ | refine blk_drew ?_ | refine blk_alloc ?_ _)); refine blk_far ?_ NB166_169.out _; (with_reducible repeat (first | refine blk_drewN ?_ _ | refine blk_drew ?_ | refine blk_alloc ?_ _)); exact BK166.out⟩, ⟨by (with_reducible repeat (first | refine blk_drewN ?_ _ | refine blk_drew ?_ | refine blk_alloc ?_ _)); refine blk_far ?_ NB167_169.out _; (with_reducible repeat (first | refine blk_drewN ?_ _ | refine blk_drew ?_ | refine blk_alloc ?_ _)); refine blk_far ?_ NB167_169.out _; (with_reducible repeat (first | refine blk_drewN ?_ _ | refine blk_drew ?_ | refine blk_alloc ?_ _)); exact BK167.out⟩, ⟨by (with_reducible repeat (first | refine blk_drewN ?_ _ | refine blk_drew ?_ | refine blk_alloc ?_ _)); refine blk_put (cs := #[.int .i64 ((rd_T52 l0_5 x38_2).f0), .int .i64 0]) ?_ 1 _ rfl; (with_reducible repeat (first | refine blk_drewN ?_ _ | refine blk_drew ?_ | refine blk_alloc ?_ _)); refine blk_put (cs := #[.int .i64 0, .int .i64 0]) ?_ 0 _ rfl; (with_reducible repeat (first | refine blk_drewN ?_ _ | refine blk_drew ?_ | refine blk_alloc ?_ _)); exact BK169.out⟩, ⟨bl_⟩⟩
            rw [if_neg c55] at H
            exact absurd H (by simp)
          rw [if_neg c44] at H
          exact absurd H (by simp)
        rw [if_neg c43] at H
        have c43b0 : (((rd_T52 l0_5 x38_2).f0) == a3_4) = false := beq_eq_false_iff_ne.mpr c43
        have c43b1 : (((rd_T52 l0_5 x38_2).f0) != a3_4) = true := bne_iff_ne.mpr c43
        (first | rw [c43b0] | (simp only [i64_w, i32_w]; rw [c43b0]) | skip)
        have H' := Aside0.mk H
        clear H
        have hnb65 := NB169_165.out
        have hnc65 := NB165_169.out
        have hnb66 := NB169_166.out
        have hnc66 := NB166_169.out
        have hnb67 := NB169_167.out
        have hnc67 := NB167_169.out
        obtain ⟨hcz68_0, hcz68_1⟩ := cells2 BK169
        obtain ⟨hfz68_0, hfz68_1⟩ := fz2 BK169
        have hnb69 := NB167_165.out
        have hnc69 := NB165_167.out
        have hnb70 := NB167_166.out
        have hnc70 := NB166_167.out
        obtain ⟨hcz71_0, hcz71_1, hcz71_2, hcz71_3, hcz71_4, hcz71_5, hcz71_6⟩ := cells7 BK167
        obtain ⟨hfz71_0, hfz71_1, hfz71_2, hfz71_3, hfz71_4, hfz71_5, hfz71_6⟩ := fz7 BK167
        go_wp2
        repeat (go_quiet (fail); try go_wp2)
        go_meet
        case rel => exact ⟨_, (true), (by first | rfl | (simp; done) | (simp [*]; done)), H', ⟨by have := HJ4.out; have := HK2.out; first | omega | exact Nat.le_refl _⟩, ⟨by (with_reducible repeat (first | refine blk_drewN ?_ _ | refine blk_drew ?_ | refine blk_alloc ?_ _)); refine blk_far ?_ NB165_169.out _; (with_reducible repeat (first | refine blk_drewN ?_ _ | refine blk_drew ?_ | refine blk_alloc ?_ _)); refine blk_far ?_ NB165_169.out _; (with_reducible repeat (first | refine blk_drewN ?_ _ | refine blk_drew ?_ | refine blk_alloc ?_ _)); exact BK165.out⟩, ⟨by (with_reducible repeat (first | refine blk_drewN ?_ _ | refine blk_drew ?_ | refine blk_alloc ?_ _)); refine blk_far ?_ NB166_169.out _; (with_reducible repeat (first | refine blk_drewN ?_ _ | refine blk_drew ?_ | refine blk_alloc ?_ _)); refine blk_far ?_ NB166_169.out _; (with_reducible repeat (first | refine blk_drewN ?_ _ | refine blk_drew ?_ | refine blk_alloc ?_ _)); exact BK166.out⟩, ⟨by (with_reducible repeat (first | refine blk_drewN ?_ _ | refine blk_drew ?_ | refine blk_alloc ?_ _)); refine blk_far ?_ NB167_169.out _; (with_reducible repeat (first | refine blk_drewN ?_ _ | refine blk_drew ?_ | refine blk_alloc ?_ _)); refine blk_far ?_ NB167_169.out _; (with_reducible repeat (first | refine blk_drewN ?_ _ | refine blk_drew ?_ | refine blk_alloc ?_ _)); exact BK167.out⟩, ⟨by (with_reducible repeat (first | refine blk_drewN ?_ _ | refine blk_drew ?_ | refine blk_alloc ?_ _)); refine blk_put (cs := #[.int .i64 ((rd_T52 l0_5 x38_2).f0), .int .i64 0]) ?_ 1 _ rfl; (with_reducible repeat (first | refine blk_drewN ?_ _ | refine blk_drew ?_ | refine blk_alloc ?_ _)); refine blk_put (cs := #[.int .i64 0, .int .i64 0]) ?_ 0 _ rfl; (with_reducible repeat (first | refine blk_drewN ?_ _ | refine blk_drew ?_ | refine blk_alloc ?_ _)); exact BK169.out⟩, ⟨bl_⟩⟩
       clear HC37
       obtain ⟨kq, x65_36, rfl, HA, HJ36, BK165, BK166, BK167, BK169, HB⟩ := hcut
       cases kq with
       | zero => exact absurd HA.out (by simp [refute_full.j2])
       | succ kj36 => ?_
       have H := HA.out
       clear HA
       simp only [refute_full.j2] at H
       by_cases c72 : x65_36 = true
       · subst c72
         have H1 : (refute_full.l0 kj36 a1 x9_2 l0_5 (l0_5.length : Int) (wrap64 (x38_2 + 1)) l2_0 l2_1 a3_0 a3_1 l3_2 l3_3 a3_4 a3_5 a3_6) = some r := by rw [if_pos rfl] at H; exact H
         clear H
         have H := H1
         clear H1
         have H' := Aside0.mk H
         clear H
         go_wp2
         repeat (go_quiet (fail); try go_wp2)
         go_roundg kj36
         case measure => have := HJ4.out; have := HK2.out; have := HJ36.out; omega
         case rel => exact ⟨(x9_2), (wrap64 (x38_2 + 1)), (by first | rfl | (simp; done) | (simp [*]; done)), (by first | rfl | (simp; done) | (simp [*]; done)), H', ⟨by have := HJ4.out; have := HK2.out; have := HJ36.out; omega⟩, ⟨K_ BK165⟩, ⟨K_ BK166⟩, ⟨K_ BK167⟩, ⟨bl_⟩⟩
       replace c72 := Bool.eq_false_iff.mpr c72
       subst c72
       have H1 : (refute_full.l1 kj36 a1 x9_2 x38_2 l0_5 (l0_5.length : Int) x38_2 ((rd_T52 l0_5 x38_2).f1) 0 l2_0 l2_1 a3_0 a3_1 l3_2 l3_3 a3_4 a3_5 a3_6) = some r := by rw [if_neg (show ¬ (false = true) by decide)] at H; exact H
       clear H
       have H := H1
       clear H1
       have H' := Aside0.mk H
       clear H
       have hnb73 := NB169_165.out
       have hnc73 := NB165_169.out
       have hnb74 := NB169_166.out
       have hnc74 := NB166_169.out
       have hnb75 := NB169_167.out
       have hnc75 := NB167_169.out
       obtain ⟨hcz76_0, hcz76_1⟩ := cells2 BK169
       obtain ⟨hfz76_0, hfz76_1⟩ := fz2 BK169
       go_wp2
       repeat (go_quiet (fail); try go_wp2)
       go_loopg [9, 68] kj36 (fun kq v9 v68 w' => ∃ (x9_4 : Int) (x68_4 : Int), v9 = .int .i64 x9_4 ∧ v68 = .int .i64 x68_4 ∧ Aside0 (refute_full.l1 kq a1 x9_4 x38_2 l0_5 (l0_5.length : Int) x38_2 ((rd_T52 l0_5 x38_2).f1) x68_4 l2_0 l2_1 a3_0 a3_1 l3_2 l3_3 a3_4 a3_5 a3_6 = some r) ∧ Aside0 (kq ≤ kj36) ∧ Aside0 (w'.heap[gb165]? = some (.cells #[.int .i64 a0_0, .int .i64 a0_1, .bool a0_2, (.slice A0_3 l0_3.length c0_3), (.slice A0_4 l0_4.length c0_4), (.slice (some ad168) l0_5.length c0_5)] 26 (0, 0))) ∧ Aside0 (w'.heap[gb166]? = some (.cells #[(.slice A2_0 l2_0.length c2_0), (.slice A2_1 l2_1.length c2_1)] 61 (0, 0))) ∧ Aside0 (w'.heap[gb167]? = some (.cells #[.int .i64 a3_0, .int .i64 a3_1, (.slice A3_2 l3_2.length c3_2), (.slice A3_3 l3_3.length c3_3), .int .i64 a3_4, .int .i64 a3_5, .int .i64 a3_6] 54 (0, 0))) ∧ Aside0 (w'.heap[gb169]? = some (.cells #[.int .i64 ((rd_T52 l0_5 x38_2).f0), .int .i64 ((rd_T52 l0_5 x38_2).f1)] 52 (0, 0))) ∧ Aside0 (Below w.heap.size w w'))
       case atStart => exact ⟨(x9_2), (0), (by first | rfl | (simp; done) | (simp [*]; done)), (by first | rfl | (simp; done) | (simp [*]; done)), H', ⟨Nat.le_refl _⟩, ⟨K_ BK165⟩, ⟨K_ BK166⟩, ⟨K_ BK167⟩, ⟨K_ BK169⟩, ⟨bl_⟩⟩
       clear H'
       obtain ⟨x9_4, x68_4, rfl, rfl, HA, HK4, BK165, BK166, BK167, BK169, HB⟩ := hrel
       cases gk with
       | zero => exact absurd HA.out (by simp [refute_full.l1])
       | succ k4 => ?_
       have H := HA.out
       clear HA
       simp only [refute_full.l1] at H
       by_cases c77 : x68_4 < ((rd_T52 l0_5 x38_2).f1)
       · rw [if_pos c77] at H
         have c77b0 : decide (x68_4 < ((rd_T52 l0_5 x38_2).f1)) = true := decide_eq_true c77
         clear c77
         by_cases c78 : 0 ≤ x38_2
         · rw [if_pos c78] at H
           have c78b0 : decide (0 ≤ x38_2) = true := decide_eq_true c78
           clear c78
           by_cases c79 : x38_2 < (l2_0.length : Int)
           · rw [if_pos c79] at H
             have c79b0 : decide (x38_2 < (l2_0.length : Int)) = true := decide_eq_true c79
             clear c79
             by_cases c80 : a1 = 0
             · rw [if_pos c80] at H
               exact absurd H (by simp)
             rw [if_neg c80] at H
             have c80b0 : (a1 == 0) = false := beq_eq_false_iff_ne.mpr c80
             have c80b1 : (a1 != 0) = true := bne_iff_ne.mpr c80
             by_cases c81 : (Int.tmod (wrap64 ((rd l2_0 x38_2) + x68_4)) a1) = a3_6
             · rw [if_pos c81] at H
               have c81b0 : ((Int.tmod (wrap64 ((rd l2_0 x38_2) + x68_4)) a1) == a3_6) = true := beq_iff_eq.mpr c81
               have c81b1 : ((Int.tmod (wrap64 ((rd l2_0 x38_2) + x68_4)) a1) != a3_6) = false := bne_eq_false_iff_eq.mpr c81
               clear c81
               have H' := Aside0.mk H
               clear H
               have hnb82 := NB166_165.out
               have hnc82 := NB165_166.out
               have hnb83 := NB166_167.out
               have hnc83 := NB167_166.out
               have hnb84 := NB166_169.out
               have hnc84 := NB169_166.out
               obtain ⟨hcz85_0, hcz85_1⟩ := cells2 BK166
               obtain ⟨hfz85_0, hfz85_1⟩ := fz2 BK166
               have p172 : 0 ≤ (x38_2 : Int) := of_decide_eq_true (by first | (with_reducible assumption) | assumption)
               have q172 : x38_2 < (l2_0.length : Int) := of_decide_eq_true (by first | (with_reducible assumption) | assumption)
               obtain ⟨ad172, e172, hx172_0⟩ := Kd.at_int HR2_0.out x38_2 p172 q172
               cases e172
               replace hx172_0 := hc_ HB hx172_0
               replace p172 := eq_true p172
               replace q172 := eq_true q172
               have hnb86 := NB167_165.out
               have hnc86 := NB165_167.out
               have hnb87 := NB167_169.out
               have hnc87 := NB169_167.out
               obtain ⟨hcz88_0, hcz88_1, hcz88_2, hcz88_3, hcz88_4, hcz88_5, hcz88_6⟩ := cells7 BK167
               obtain ⟨hfz88_0, hfz88_1, hfz88_2, hfz88_3, hfz88_4, hfz88_5, hfz88_6⟩ := fz7 BK167
               go_wp2
               repeat (go_quiet (fail); try go_wp2)
               go_roundg k4
               case measure => have := HJ4.out; have := HK2.out; have := HJ36.out; have := HK4.out; omega
               case rel => exact ⟨(wrap64 (x9_4 + 1)), (wrap64 (x68_4 + 1)), (by first | rfl | (simp; done) | (simp [*]; done)), (by first | rfl | (simp; done) | (simp [*]; done)), H', ⟨by have := HJ4.out; have := HK2.out; have := HJ36.out; have := HK4.out; omega⟩, ⟨K_ BK165⟩, ⟨K_ BK166⟩, ⟨K_ BK167⟩, ⟨K_ BK169⟩, ⟨bl_⟩⟩
             rw [if_neg c81] at H
             have c81b0 : ((Int.tmod (wrap64 ((rd l2_0 x38_2) + x68_4)) a1) == a3_6) = false := beq_eq_false_iff_ne.mpr c81
             have c81b1 : ((Int.tmod (wrap64 ((rd l2_0 x38_2) + x68_4)) a1) != a3_6) = true := bne_iff_ne.mpr c81
             have H' := Aside0.mk H
             clear H
             have hnb89 := NB166_165.out
             have hnc89 := NB165_166.out
             have hnb90 := NB166_167.out
             have hnc90 := NB167_166.out
             have hnb91 := NB166_169.out
             have hnc91 := NB169_166.out
             obtain ⟨hcz92_0, hcz92_1⟩ := cells2 BK166
             obtain ⟨hfz92_0, hfz92_1⟩ := fz2 BK166
             have p172 : 0 ≤ (x38_2 : Int) := of_decide_eq_true (by first | (with_reducible assumption) | assumption)
             have q172 : x38_2 < (l2_0.length : Int) := of_decide_eq_true (by first | (with_reducible assumption) | assumption)
             obtain ⟨ad172, e172, hx172_0⟩ := Kd.at_int HR2_0.out x38_2 p172 q172
             cases e172
             replace hx172_0 := hc_ HB hx172_0
             replace p172 := eq_true p172
             replace q172 := eq_true q172
             have hnb93 := NB167_165.out
             have hnc93 := NB165_167.out
             have hnb94 := NB167_169.out
             have hnc94 := NB169_167.out
             obtain ⟨hcz95_0, hcz95_1, hcz95_2, hcz95_3, hcz95_4, hcz95_5, hcz95_6⟩ := cells7 BK167
             obtain ⟨hfz95_0, hfz95_1, hfz95_2, hfz95_3, hfz95_4, hfz95_5, hfz95_6⟩ := fz7 BK167
             go_wp2
             repeat (go_quiet (fail); try go_wp2)
             go_roundg k4
             case measure => have := HJ4.out; have := HK2.out; have := HJ36.out; have := HK4.out; omega
             case rel => exact ⟨(x9_4), (wrap64 (x68_4 + 1)), (by first | rfl | (simp; done) | (simp [*]; done)), (by first | rfl | (simp; done) | (simp [*]; done)), H', ⟨by have := HJ4.out; have := HK2.out; have := HJ36.out; have := HK4.out; omega⟩, ⟨K_ BK165⟩, ⟨K_ BK166⟩, ⟨K_ BK167⟩, ⟨K_ BK169⟩, ⟨bl_⟩⟩
           rw [if_neg c79] at H
           exact absurd H (by simp)
         rw [if_neg c78] at H
         exact absurd H (by simp)
       rw [if_neg c77] at H
       have c77b0 : decide (x68_4 < ((rd_T52 l0_5 x38_2).f1)) = false := decide_eq_false c77
       clear c77
       have H' := Aside0.mk H
       clear H
       go_wp2
       repeat (go_quiet (fail); try go_wp2)
       go_roundg k4
       case measure => have := HJ4.out; have := HK2.out; have := HJ36.out; have := HK4.out; omega
       case rel => exact ⟨(x9_4), (wrap64 (x38_2 + 1)), (by first | rfl | (simp; done) | (simp [*]; done)), (by first | rfl | (simp; done) | (simp [*]; done)), H', ⟨by have := HJ4.out; have := HK2.out; have := HJ36.out; have := HK4.out; omega⟩, ⟨K_ BK165⟩, ⟨K_ BK166⟩, ⟨K_ BK167⟩, ⟨bl_⟩⟩
     rw [if_neg c36] at H
     exact absurd H (by simp)
   rw [if_neg c35] at H
   exact absurd H (by simp)
 rw [if_neg c34] at H
 have c34b0 : decide (x38_2 < (l0_5.length : Int)) = false := decide_eq_false c34
 clear c34
 obtain rfl := Option.some.inj H
 go_wp2
 repeat (go_quiet (fail); try go_wp2)
 go_ret
 exact ⟨by first | rfl | (simp [errW_none, errW_some] <;> rfl) | (simp [*, errW_none, errW_some] <;> rfl), by repeat (first | (with_reducible first | exact HB.out | apply below_alloc | apply pw_below_drewN | apply below_drew1 | refine below_set ?_ GE165.out | refine below_set ?_ GE166.out | refine below_set ?_ GE167.out) | exact HB.out)⟩
end Go.Proofs.Ytpmlbbglekaidaa.PAll
