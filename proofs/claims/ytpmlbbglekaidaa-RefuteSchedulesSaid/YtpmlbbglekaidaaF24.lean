-- Written for this claim by programs of this session (wip/print2 in its repo: a changed printer, a shortener, a packer). Lean checks it.
import Derived.Test.YtpmlbbglekaidaaP0
namespace Go.Proofs.Ytpmlbbglekaidaa.PAll
open Go.RowKit Go.Proofs.YtpmlbbglekaidaaW.PrintWords Go.Proofs.YtpmlbbglekaidaaW.PrintLast Go.Proofs.YtpmlbbglekaidaaW.PrintMore
attribute [local go_sem] max2_int min2_int max_two min_two max_three min_three max_four min_four   -- for this text's walks alone
set_option linter.unusedVariables false
set_option linter.unusedSimpArgs false

/-! ### jacquardref28_Fits: function 24 -/
mutual
def jacquardref28_Fits.j0 : Nat → Bool → Int → Int → Bool → List (S48) → List (S50) → List (S52) → Int → Int → List Int → List Int → List Int → Option (Bool)
  | 0, _, _, _, _, _, _, _, _, _, _, _, _ => none
  | k + 1, x57, x309000, x309001, x309002, x309003, x309004, x309005, x310000, x310001, x310002, x310003, x310004 => if x57 = true then (some false) else (jacquardref28_Fits.l0 k (x310002.length : Int) 0 x309000 x309001 x309002 x309003 x309004 x309005 x310000 x310001 x310002 x310003 x310004)
def jacquardref28_Fits.l0 : Nat → Int → Int → Int → Int → Bool → List (S48) → List (S50) → List (S52) → Int → Int → List Int → List Int → List Int → Option (Bool)
  | 0, _, _, _, _, _, _, _, _, _, _, _, _, _ => none
  | k + 1, x60, x61, x309000, x309001, x309002, x309003, x309004, x309005, x310000, x310001, x310002, x310003, x310004 => if x61 < x60 then (if 0 ≤ x61 then (if x61 < (x309005.length : Int) then (if x61 < (x310002.length : Int) then (if (rd x310002 x61) < 0 then (jacquardref28_Fits.j2 k x60 x61 true x309000 x309001 x309002 x309003 x309004 x309005 x310000 x310001 x310002 x310003 x310004) else (if (rd x310002 x61) > 4096 then (jacquardref28_Fits.j2 k x60 x61 true x309000 x309001 x309002 x309003 x309004 x309005 x310000 x310001 x310002 x310003 x310004) else (if ((rd_T52 x309005 x61).f0) < 0 then (if x61 < (x310004.length : Int) then (if (rd x310004 x61) = (-1) then (if ((rd_T52 x309005 x61).f0) ≥ 0 then (if (rd x310004 x61) < 0 then (jacquardref28_Fits.j2 k x60 x61 true x309000 x309001 x309002 x309003 x309004 x309005 x310000 x310001 x310002 x310003 x310004) else (if 0 ≤ ((rd_T52 x309005 x61).f0) then (if ((rd_T52 x309005 x61).f0) < (x309004.length : Int) then (jacquardref28_Fits.j2 k x60 x61 (decide ((rd x310004 x61) ≥ ((rd_T50 x309004 ((rd_T52 x309005 x61).f0)).f3))) x309000 x309001 x309002 x309003 x309004 x309005 x310000 x310001 x310002 x310003 x310004) else (none)) else (none))) else (jacquardref28_Fits.j2 k x60 x61 false x309000 x309001 x309002 x309003 x309004 x309005 x310000 x310001 x310002 x310003 x310004)) else (jacquardref28_Fits.j2 k x60 x61 true x309000 x309001 x309002 x309003 x309004 x309005 x310000 x310001 x310002 x310003 x310004)) else (none)) else (if ((rd_T52 x309005 x61).f0) ≥ 0 then (if x61 < (x310004.length : Int) then (if (rd x310004 x61) < 0 then (jacquardref28_Fits.j2 k x60 x61 true x309000 x309001 x309002 x309003 x309004 x309005 x310000 x310001 x310002 x310003 x310004) else (if 0 ≤ ((rd_T52 x309005 x61).f0) then (if ((rd_T52 x309005 x61).f0) < (x309004.length : Int) then (jacquardref28_Fits.j2 k x60 x61 (decide ((rd x310004 x61) ≥ ((rd_T50 x309004 ((rd_T52 x309005 x61).f0)).f3))) x309000 x309001 x309002 x309003 x309004 x309005 x310000 x310001 x310002 x310003 x310004) else (none)) else (none))) else (none)) else (jacquardref28_Fits.j2 k x60 x61 false x309000 x309001 x309002 x309003 x309004 x309005 x310000 x310001 x310002 x310003 x310004))))) else (none)) else (none)) else (none)) else (jacquardref28_Fits.l1 k (x310003.length : Int) 0 x310000 x310001 x310002 x310003 x310004)
def jacquardref28_Fits.j2 : Nat → Int → Int → Bool → Int → Int → Bool → List (S48) → List (S50) → List (S52) → Int → Int → List Int → List Int → List Int → Option (Bool)
  | 0, _, _, _, _, _, _, _, _, _, _, _, _, _, _ => none
  | k + 1, x60, x61, x123, x309000, x309001, x309002, x309003, x309004, x309005, x310000, x310001, x310002, x310003, x310004 => if x123 = true then (some false) else (jacquardref28_Fits.l0 k x60 (wrap64 (x61 + 1)) x309000 x309001 x309002 x309003 x309004 x309005 x310000 x310001 x310002 x310003 x310004)
def jacquardref28_Fits.l1 : Nat → Int → Int → Int → Int → List Int → List Int → List Int → Option (Bool)
  | 0, _, _, _, _, _, _, _ => none
  | k + 1, x127, x128, x310000, x310001, x310002, x310003, x310004 => if x128 < x127 then (if 0 ≤ x128 then (if x128 < (x310003.length : Int) then (if (rd x310003 x128) < 0 then (jacquardref28_Fits.j4 k x127 x128 true x310000 x310001 x310002 x310003 x310004) else (jacquardref28_Fits.j4 k x127 x128 (decide ((rd x310003 x128) > 4096)) x310000 x310001 x310002 x310003 x310004)) else (none)) else (none)) else (some true)
def jacquardref28_Fits.j4 : Nat → Int → Int → Bool → Int → Int → List Int → List Int → List Int → Option (Bool)
  | 0, _, _, _, _, _, _, _, _ => none
  | k + 1, x127, x128, x144, x310000, x310001, x310002, x310003, x310004 => if x144 = true then (some false) else (jacquardref28_Fits.l1 k x127 (wrap64 (x128 + 1)) x310000 x310001 x310002 x310003 x310004)
end
def jacquardref28_Fits.f (k : Nat) (a0_0 : Int) (a0_1 : Int) (a0_2 : Bool) (l0_3 : List (S48)) (l0_4 : List (S50)) (l0_5 : List (S52)) (a1_0 : Int) (a1_1 : Int) (l1_2 : List Int) (l1_3 : List Int) (l1_4 : List Int) : Option (Bool) := if (l1_2.length : Int) = a0_0 then (if (l1_4.length : Int) = a0_0 then (if (l1_3.length : Int) = a0_1 then (if a1_0 < 0 then (jacquardref28_Fits.j0 k true a0_0 a0_1 a0_2 l0_3 l0_4 l0_5 a1_0 a1_1 l1_2 l1_3 l1_4) else (if a1_0 > 256 then (jacquardref28_Fits.j0 k true a0_0 a0_1 a0_2 l0_3 l0_4 l0_5 a1_0 a1_1 l1_2 l1_3 l1_4) else (if ((decide (a1_0 > 0)) != a0_2) = true then (jacquardref28_Fits.j0 k true a0_0 a0_1 a0_2 l0_3 l0_4 l0_5 a1_0 a1_1 l1_2 l1_3 l1_4) else (if a1_1 < 1 then (jacquardref28_Fits.j0 k true a0_0 a0_1 a0_2 l0_3 l0_4 l0_5 a1_0 a1_1 l1_2 l1_3 l1_4) else (jacquardref28_Fits.j0 k (decide (a1_1 > 4096)) a0_0 a0_1 a0_2 l0_3 l0_4 l0_5 a1_0 a1_1 l1_2 l1_3 l1_4))))) else (jacquardref28_Fits.j0 k true a0_0 a0_1 a0_2 l0_3 l0_4 l0_5 a1_0 a1_1 l1_2 l1_3 l1_4)) else (jacquardref28_Fits.j0 k true a0_0 a0_1 a0_2 l0_3 l0_4 l0_5 a1_0 a1_1 l1_2 l1_3 l1_4)) else (jacquardref28_Fits.j0 k true a0_0 a0_1 a0_2 l0_3 l0_4 l0_5 a1_0 a1_1 l1_2 l1_3 l1_4)
theorem jacquardref28_Fits.mono_l : ∀ k, (∀ y0 y1 y2 y3 y4 y5 y6 y7 y8 y9 y10 y11, LeO (jacquardref28_Fits.j0 k y0 y1 y2 y3 y4 y5 y6 y7 y8 y9 y10 y11) (jacquardref28_Fits.j0 (k + 1) y0 y1 y2 y3 y4 y5 y6 y7 y8 y9 y10 y11)) ∧ (∀ y0 y1 y2 y3 y4 y5 y6 y7 y8 y9 y10 y11 y12, LeO (jacquardref28_Fits.l0 k y0 y1 y2 y3 y4 y5 y6 y7 y8 y9 y10 y11 y12) (jacquardref28_Fits.l0 (k + 1) y0 y1 y2 y3 y4 y5 y6 y7 y8 y9 y10 y11 y12)) ∧ (∀ y0 y1 y2 y3 y4 y5 y6 y7 y8 y9 y10 y11 y12 y13, LeO (jacquardref28_Fits.j2 k y0 y1 y2 y3 y4 y5 y6 y7 y8 y9 y10 y11 y12 y13) (jacquardref28_Fits.j2 (k + 1) y0 y1 y2 y3 y4 y5 y6 y7 y8 y9 y10 y11 y12 y13)) ∧ (∀ y0 y1 y2 y3 y4 y5 y6, LeO (jacquardref28_Fits.l1 k y0 y1 y2 y3 y4 y5 y6) (jacquardref28_Fits.l1 (k + 1) y0 y1 y2 y3 y4 y5 y6)) ∧ (∀ y0 y1 y2 y3 y4 y5 y6 y7, LeO (jacquardref28_Fits.j4 k y0 y1 y2 y3 y4 y5 y6 y7) (jacquardref28_Fits.j4 (k + 1) y0 y1 y2 y3 y4 y5 y6 y7))
  | 0 => by refine ⟨?_, ?_, ?_, ?_, ?_⟩ <;> intros <;> intro r h <;> simp [jacquardref28_Fits.j0, jacquardref28_Fits.l0, jacquardref28_Fits.j2, jacquardref28_Fits.l1, jacquardref28_Fits.j4] at h
  | k + 1 => by
    obtain ⟨ih0, ih1, ih2, ih3, ih4⟩ := jacquardref28_Fits.mono_l k
    refine ⟨?_, ?_, ?_, ?_, ?_⟩ <;> intros <;> (first | unfold jacquardref28_Fits.j0 | unfold jacquardref28_Fits.l0 | unfold jacquardref28_Fits.j2 | unfold jacquardref28_Fits.l1 | unfold jacquardref28_Fits.j4) <;> repeat' first | (with_reducible first | apply ih0 | apply ih1 | apply ih2 | apply ih3 | apply ih4 | exact LeO.refl _ | exact LeO.none _ | refine LeO.ite ?_ ?_ | refine LeO.bind ?_ (fun _ => ?_)) | apply ih0 | apply ih1 | apply ih2 | apply ih3 | apply ih4 | exact LeO.none _ | refine LeO.ite ?_ ?_ | refine LeO.bind ?_ (fun _ => ?_)
theorem jacquardref28_Fits.mono : ∀ a0 a1 a2 a3 a4 a5 a6 a7 a8 a9 a10 k, LeO (jacquardref28_Fits.f k a0 a1 a2 a3 a4 a5 a6 a7 a8 a9 a10) (jacquardref28_Fits.f (k + 1) a0 a1 a2 a3 a4 a5 a6 a7 a8 a9 a10) := by
 intro a0 a1 a2 a3 a4 a5 a6 a7 a8 a9 a10 k
 obtain ⟨ih0, ih1, ih2, ih3, ih4⟩ := jacquardref28_Fits.mono_l k
 unfold jacquardref28_Fits.f
 repeat' first | (with_reducible first | apply ih0 | apply ih1 | apply ih2 | apply ih3 | apply ih4 | exact LeO.refl _ | exact LeO.none _ | refine LeO.ite ?_ ?_ | refine LeO.bind ?_ (fun _ => ?_)) | apply ih0 | apply ih1 | apply ih2 | apply ih3 | apply ih4 | exact LeO.none _ | refine LeO.ite ?_ ?_ | refine LeO.bind ?_ (fun _ => ?_)
set_option maxHeartbeats 8000000 in
set_option maxRecDepth 100000 in
theorem jacquardref28_Fits.calls (k : Nat) (a0_0 : Int) (a0_1 : Int) (a0_2 : Bool) (A0_3 : Option Addr) (c0_3 : Nat) (l0_3 : List (S48)) (A0_4 : Option Addr) (c0_4 : Nat) (l0_4 : List (S50)) (A0_5 : Option Addr) (c0_5 : Nat) (l0_5 : List (S52)) (a1_0 : Int) (a1_1 : Int) (A1_2 : Option Addr) (c1_2 : Nat) (l1_2 : List Int) (A1_3 : Option Addr) (c1_3 : Nat) (l1_3 : List Int) (A1_4 : Option Addr) (c1_4 : Nat) (l1_4 : List Int) (r : Bool) (w : World) (hr0_3 : Kd.C k48 w A0_3 l0_3.length l0_3) (hc0_3 : l0_3.length ≤ c0_3) (hr0_4 : Kd.C k50 w A0_4 l0_4.length l0_4) (hc0_4 : l0_4.length ≤ c0_4) (hr0_5 : Kd.C k52 w A0_5 l0_5.length l0_5) (hc0_5 : l0_5.length ≤ c0_5) (hr1_2 : Kd.C (Kd.int .i64) w A1_2 l1_2.length l1_2) (hc1_2 : l1_2.length ≤ c1_2) (hr1_3 : Kd.C (Kd.int .i64) w A1_3 l1_3.length l1_3) (hc1_3 : l1_3.length ≤ c1_3) (hr1_4 : Kd.C (Kd.int .i64) w A1_4 l1_4.length l1_4) (hc1_4 : l1_4.length ≤ c1_4) (h : jacquardref28_Fits.f k a0_0 a0_1 a0_2 l0_3 l0_4 l0_5 a1_0 a1_1 l1_2 l1_3 l1_4 = some r) :
    Calls Try.prog 24 #[.agg #[.int .i64 a0_0, .int .i64 a0_1, .bool a0_2, .slice A0_3 l0_3.length c0_3, .slice A0_4 l0_4.length c0_4, .slice A0_5 l0_5.length c0_5], .agg #[.int .i64 a1_0, .int .i64 a1_1, .slice A1_2 l1_2.length c1_2, .slice A1_3 l1_3.length c1_3, .slice A1_4 l1_4.length c1_4]] w fun e w' => e = .returned (.bool r) ∧ Below w.heap.size w w' := by
 have hu26 := Try.underlying26
 have hu35 := Try.underlying35
 have hu52 := Try.underlying52
 have HR0_3 := Aside0.mk hr0_3
 have HC0_3 := Aside0.mk hc0_3
 clear hr0_3 hc0_3
 have HR0_4 := Aside0.mk hr0_4
 have HC0_4 := Aside0.mk hc0_4
 clear hr0_4 hc0_4
 have HR0_5 := Aside0.mk hr0_5
 have HC0_5 := Aside0.mk hc0_5
 clear hr0_5 hc0_5
 have HR1_2 := Aside0.mk hr1_2
 have HC1_2 := Aside0.mk hc1_2
 clear hr1_2 hc1_2
 have HR1_3 := Aside0.mk hr1_3
 have HC1_3 := Aside0.mk hc1_3
 clear hr1_3 hc1_3
 have HR1_4 := Aside0.mk hr1_4
 have HC1_4 := Aside0.mk hc1_4
 clear hr1_4 hc1_4
 have HB := Aside0.mk (Below.refl w.heap.size w)
 have H : (if (l1_2.length : Int) = a0_0 then (if (l1_4.length : Int) = a0_0 then (if (l1_3.length : Int) = a0_1 then (if a1_0 < 0 then (jacquardref28_Fits.j0 k true a0_0 a0_1 a0_2 l0_3 l0_4 l0_5 a1_0 a1_1 l1_2 l1_3 l1_4) else (if a1_0 > 256 then (jacquardref28_Fits.j0 k true a0_0 a0_1 a0_2 l0_3 l0_4 l0_5 a1_0 a1_1 l1_2 l1_3 l1_4) else (if ((decide (a1_0 > 0)) != a0_2) = true then (jacquardref28_Fits.j0 k true a0_0 a0_1 a0_2 l0_3 l0_4 l0_5 a1_0 a1_1 l1_2 l1_3 l1_4) else (if a1_1 < 1 then (jacquardref28_Fits.j0 k true a0_0 a0_1 a0_2 l0_3 l0_4 l0_5 a1_0 a1_1 l1_2 l1_3 l1_4) else (jacquardref28_Fits.j0 k (decide (a1_1 > 4096)) a0_0 a0_1 a0_2 l0_3 l0_4 l0_5 a1_0 a1_1 l1_2 l1_3 l1_4))))) else (jacquardref28_Fits.j0 k true a0_0 a0_1 a0_2 l0_3 l0_4 l0_5 a1_0 a1_1 l1_2 l1_3 l1_4)) else (jacquardref28_Fits.j0 k true a0_0 a0_1 a0_2 l0_3 l0_4 l0_5 a1_0 a1_1 l1_2 l1_3 l1_4)) else (jacquardref28_Fits.j0 k true a0_0 a0_1 a0_2 l0_3 l0_4 l0_5 a1_0 a1_1 l1_2 l1_3 l1_4)) = some r := h
 clear h
 have HC3 := Aside0.mk H
 clear H
 go_enter Try.func24, Try.ntmps24
 go_upto_region 1 with (first | ((with_reducible refine gate_dst (N := 2) rfl ?_); (try (refine gate_guard (by rfl) ?_; dsimp only)); refine box_event ?hg (N := 2) ?hd (cs := #[.int .i64 a0_0, .int .i64 a0_1, .bool a0_2, .slice A0_3 l0_3.length c0_3, .slice A0_4 l0_4.length c0_4, .slice A0_5 l0_5.length c0_5]) (t := 26) ?hr ?_; (case hd => rfl); (case hg => rfl); (case hr => first | (go_simp; done) | (go_simp; rfl)); intro gb308 hg w4 hbox hb; have n0_ := Aside0.mk (below_step bl_ hb); have n1_ := Aside0.mk (hbox); have n2_ := Aside0.mk (gl_ (w := w) hg); have n3_ := Aside0.mk (gl_ (w := w) hg); clear HB; have HB := n0_; have BK308 := n1_; have GW308 := n2_; have GE308 := n3_; clear n0_ n1_ n2_ n3_; clear hb hbox hg) | ((with_reducible refine gate_dst (N := 3) rfl ?_); (try (refine gate_guard (by rfl) ?_; dsimp only)); refine box_event ?hg (N := 3) ?hd (cs := #[.int .i64 a1_0, .int .i64 a1_1, .slice A1_2 l1_2.length c1_2, .slice A1_3 l1_3.length c1_3, .slice A1_4 l1_4.length c1_4]) (t := 35) ?hr ?_; (case hd => rfl); (case hg => rfl); (case hr => first | (go_simp; done) | (go_simp; rfl)); intro gb309 hg w5 hbox hb; have n0_ := Aside0.mk (blk_below (K_ BK308) hb); have n1_ := Aside0.mk (below_step bl_ hb); have n2_ := Aside0.mk (hbox); have n3_ := Aside0.mk (gl_ (w := w) hg); have n4_ := Aside0.mk (gl_ (w := w) hg); have n5_ := Aside0.mk (nl_ hg (K_ BK308)); have n6_ := Aside0.mk (ng_ hg (K_ BK308)); clear BK308; clear HB; have BK308 := n0_; have HB := n1_; have BK309 := n2_; have GW309 := n3_; have GE309 := n4_; have NB308_309 := n5_; have NB309_308 := n6_; clear n0_ n1_ n2_ n3_ n4_ n5_ n6_; clear hb hbox hg))
 repeat (go_quiet (first | ((with_reducible refine gate_dst (N := 2) rfl ?_); (try (refine gate_guard (by rfl) ?_; dsimp only)); refine box_event ?hg (N := 2) ?hd (cs := #[.int .i64 a0_0, .int .i64 a0_1, .bool a0_2, .slice A0_3 l0_3.length c0_3, .slice A0_4 l0_4.length c0_4, .slice A0_5 l0_5.length c0_5]) (t := 26) ?hr ?_; (case hd => rfl); (case hg => rfl); (case hr => first | (go_simp; done) | (go_simp; rfl)); intro gb308 hg w4 hbox hb; have n0_ := Aside0.mk (below_step bl_ hb); have n1_ := Aside0.mk (hbox); have n2_ := Aside0.mk (gl_ (w := w) hg); have n3_ := Aside0.mk (gl_ (w := w) hg); clear HB; have HB := n0_; have BK308 := n1_; have GW308 := n2_; have GE308 := n3_; clear n0_ n1_ n2_ n3_; clear hb hbox hg) | ((with_reducible refine gate_dst (N := 3) rfl ?_); (try (refine gate_guard (by rfl) ?_; dsimp only)); refine box_event ?hg (N := 3) ?hd (cs := #[.int .i64 a1_0, .int .i64 a1_1, .slice A1_2 l1_2.length c1_2, .slice A1_3 l1_3.length c1_3, .slice A1_4 l1_4.length c1_4]) (t := 35) ?hr ?_; (case hd => rfl); (case hg => rfl); (case hr => first | (go_simp; done) | (go_simp; rfl)); intro gb309 hg w5 hbox hb; have n0_ := Aside0.mk (blk_below (K_ BK308) hb); have n1_ := Aside0.mk (below_step bl_ hb); have n2_ := Aside0.mk (hbox); have n3_ := Aside0.mk (gl_ (w := w) hg); have n4_ := Aside0.mk (gl_ (w := w) hg); have n5_ := Aside0.mk (nl_ hg (K_ BK308)); have n6_ := Aside0.mk (ng_ hg (K_ BK308)); clear BK308; clear HB; have BK308 := n0_; have HB := n1_; have BK309 := n2_; have GW309 := n3_; have GE309 := n4_; have NB308_309 := n5_; have NB309_308 := n6_; clear n0_ n1_ n2_ n3_ n4_ n5_ n6_; clear hb hbox hg)); go_upto_region 1 with (first | ((with_reducible refine gate_dst (N := 2) rfl ?_); (try (refine gate_guard (by rfl) ?_; dsimp only)); refine box_event ?hg (N := 2) ?hd (cs := #[.int .i64 a0_0, .int .i64 a0_1, .bool a0_2, .slice A0_3 l0_3.length c0_3, .slice A0_4 l0_4.length c0_4, .slice A0_5 l0_5.length c0_5]) (t := 26) ?hr ?_; (case hd => rfl); (case hg => rfl); (case hr => first | (go_simp; done) | (go_simp; rfl)); intro gb308 hg w4 hbox hb; have n0_ := Aside0.mk (below_step bl_ hb); have n1_ := Aside0.mk (hbox); have n2_ := Aside0.mk (gl_ (w := w) hg); have n3_ := Aside0.mk (gl_ (w := w) hg); clear HB; have HB := n0_; have BK308 := n1_; have GW308 := n2_; have GE308 := n3_; clear n0_ n1_ n2_ n3_; clear hb hbox hg) | ((with_reducible refine gate_dst (N := 3) rfl ?_); (try (refine gate_guard (by rfl) ?_; dsimp only)); refine box_event ?hg (N := 3) ?hd (cs := #[.int .i64 a1_0, .int .i64 a1_1, .slice A1_2 l1_2.length c1_2, .slice A1_3 l1_3.length c1_3, .slice A1_4 l1_4.length c1_4]) (t := 35) ?hr ?_; (case hd => rfl); (case hg => rfl); (case hr => first | (go_simp; done) | (go_simp; rfl)); intro gb309 hg w5 hbox hb; have n0_ := Aside0.mk (blk_below (K_ BK308) hb); have n1_ := Aside0.mk (below_step bl_ hb); have n2_ := Aside0.mk (hbox); have n3_ := Aside0.mk (gl_ (w := w) hg); have n4_ := Aside0.mk (gl_ (w := w) hg); have n5_ := Aside0.mk (nl_ hg (K_ BK308)); have n6_ := Aside0.mk (ng_ hg (K_ BK308)); clear BK308; clear HB; have BK308 := n0_; have HB := n1_; have BK309 := n2_; have GW309 := n3_; have GE309 := n4_; have NB308_309 := n5_; have NB309_308 := n6_; clear n0_ n1_ n2_ n3_ n4_ n5_ n6_; clear hb hbox hg)))
 (try simp only [Act.put, List.setIfInBounds_toArray, List.set_cons_zero, List.set_cons_succ])
 go_cut [57] (fun v57 wc => ∃ (kq : Nat) (x57_2 : Bool), v57 = .bool x57_2 ∧ Aside0 (jacquardref28_Fits.j0 kq x57_2 a0_0 a0_1 a0_2 l0_3 l0_4 l0_5 a1_0 a1_1 l1_2 l1_3 l1_4 = some r) ∧ Aside0 (kq ≤ k) ∧ Aside0 (wc.heap[gb308]? = some (.cells #[.int .i64 a0_0, .int .i64 a0_1, .bool a0_2, (.slice A0_3 l0_3.length c0_3), (.slice A0_4 l0_4.length c0_4), (.slice A0_5 l0_5.length c0_5)] 26 (0, 0))) ∧ Aside0 (wc.heap[gb309]? = some (.cells #[.int .i64 a1_0, .int .i64 a1_1, (.slice A1_2 l1_2.length c1_2), (.slice A1_3 l1_3.length c1_3), (.slice A1_4 l1_4.length c1_4)] 35 (0, 0))) ∧ Aside0 (Below w.heap.size w wc))
 case first =>
  have H := HC3.out
  clear HC3
  by_cases c6 : (l1_2.length : Int) = a0_0
  · rw [if_pos c6] at H
    have c6b0 : ((l1_2.length : Int) == a0_0) = true := beq_iff_eq.mpr c6
    have c6b1 : ((l1_2.length : Int) != a0_0) = false := bne_eq_false_iff_eq.mpr c6
    clear c6
    (first | rw [c6b0] | (simp only [i64_w, i32_w]; rw [c6b0]) | skip)
    by_cases c7 : (l1_4.length : Int) = a0_0
    · rw [if_pos c7] at H
      have c7b0 : ((l1_4.length : Int) == a0_0) = true := beq_iff_eq.mpr c7
      have c7b1 : ((l1_4.length : Int) != a0_0) = false := bne_eq_false_iff_eq.mpr c7
      clear c7
      by_cases c8 : (l1_3.length : Int) = a0_1
      · rw [if_pos c8] at H
        have c8b0 : ((l1_3.length : Int) == a0_1) = true := beq_iff_eq.mpr c8
        have c8b1 : ((l1_3.length : Int) != a0_1) = false := bne_eq_false_iff_eq.mpr c8
        clear c8
        by_cases c9 : a1_0 < 0
        · rw [if_pos c9] at H
          have c9b0 : decide (a1_0 < 0) = true := decide_eq_true c9
          clear c9
          have H' := Aside0.mk H
          clear H
          obtain ⟨hcz11_0, hcz11_1, hcz11_2, hcz11_3, hcz11_4⟩ := cells5 BK309
          obtain ⟨hfz11_0, hfz11_1, hfz11_2, hfz11_3, hfz11_4⟩ := fz5 BK309
          obtain ⟨hcz12_0, hcz12_1, hcz12_2, hcz12_3, hcz12_4, hcz12_5⟩ := cells6 BK308
          obtain ⟨hfz12_0, hfz12_1, hfz12_2, hfz12_3, hfz12_4, hfz12_5⟩ := fz6 BK308
          go_wp2
          repeat (go_quiet (fail); try go_wp2)
          go_meet
          case rel => exact ⟨_, (true), (by first | rfl | (simp; done) | (simp [*]; done)), H', ⟨by first | omega | exact Nat.le_refl _⟩, ⟨K_ BK308⟩, ⟨K_ BK309⟩, ⟨bl_⟩⟩
        rw [if_neg c9] at H
        have c9b0 : decide (a1_0 < 0) = false := decide_eq_false c9
        clear c9
        by_cases c13 : a1_0 > 256
        · rw [if_pos c13] at H
          have c13b0 : decide (256 < a1_0) = true := decide_eq_true c13
          clear c13
          have H' := Aside0.mk H
          clear H
          obtain ⟨hcz15_0, hcz15_1, hcz15_2, hcz15_3, hcz15_4⟩ := cells5 BK309
          obtain ⟨hfz15_0, hfz15_1, hfz15_2, hfz15_3, hfz15_4⟩ := fz5 BK309
          obtain ⟨hcz16_0, hcz16_1, hcz16_2, hcz16_3, hcz16_4, hcz16_5⟩ := cells6 BK308
          obtain ⟨hfz16_0, hfz16_1, hfz16_2, hfz16_3, hfz16_4, hfz16_5⟩ := fz6 BK308
          go_wp2
          repeat (go_quiet (fail); try go_wp2)
          go_meet
          case rel => exact ⟨_, (true), (by first | rfl | (simp; done) | (simp [*]; done)), H', ⟨by first | omega | exact Nat.le_refl _⟩, ⟨K_ BK308⟩, ⟨K_ BK309⟩, ⟨bl_⟩⟩
        rw [if_neg c13] at H
        have c13b0 : decide (256 < a1_0) = false := decide_eq_false c13
        clear c13
        by_cases c17 : ((decide (a1_0 > 0)) != a0_2) = true
        · rw [if_pos c17] at H
          have c17b0 : ((decide (a1_0 > 0)) != a0_2) = true := c17
          (try (have c17b1 : decide ((decide (a1_0 > 0)) = a0_2) = false := by simpa using c17))
          (try (have c17b2 : ((decide (a1_0 > 0)) == a0_2) = false := by simpa using c17))
          (try (have c17b3 : ¬ ((decide (a1_0 > 0)) = a0_2) := by simpa using c17))
          clear c17
          have H' := Aside0.mk H
          clear H
          obtain ⟨hcz19_0, hcz19_1, hcz19_2, hcz19_3, hcz19_4⟩ := cells5 BK309
          obtain ⟨hfz19_0, hfz19_1, hfz19_2, hfz19_3, hfz19_4⟩ := fz5 BK309
          obtain ⟨hcz20_0, hcz20_1, hcz20_2, hcz20_3, hcz20_4, hcz20_5⟩ := cells6 BK308
          obtain ⟨hfz20_0, hfz20_1, hfz20_2, hfz20_3, hfz20_4, hfz20_5⟩ := fz6 BK308
          go_wp2
          repeat (go_quiet (fail); try go_wp2)
          go_meet
          case rel => exact ⟨_, (true), (by first | rfl | (simp; done) | (simp [*]; done)), H', ⟨by first | omega | exact Nat.le_refl _⟩, ⟨K_ BK308⟩, ⟨K_ BK309⟩, ⟨bl_⟩⟩
        rw [if_neg c17] at H
        have c17b0 : ((decide (a1_0 > 0)) != a0_2) = false := by simpa using c17
        (try (have c17b1 : decide ((decide (a1_0 > 0)) = a0_2) = true := by simpa using c17))
        (try (have c17b2 : ((decide (a1_0 > 0)) == a0_2) = true := by simpa using c17))
        clear c17
        by_cases c21 : a1_1 < 1
        · rw [if_pos c21] at H
          have c21b0 : decide (a1_1 < 1) = true := decide_eq_true c21
          clear c21
          have H' := Aside0.mk H
          clear H
          obtain ⟨hcz23_0, hcz23_1, hcz23_2, hcz23_3, hcz23_4⟩ := cells5 BK309
          obtain ⟨hfz23_0, hfz23_1, hfz23_2, hfz23_3, hfz23_4⟩ := fz5 BK309
          obtain ⟨hcz24_0, hcz24_1, hcz24_2, hcz24_3, hcz24_4, hcz24_5⟩ := cells6 BK308
          obtain ⟨hfz24_0, hfz24_1, hfz24_2, hfz24_3, hfz24_4, hfz24_5⟩ := fz6 BK308
          go_wp2
          repeat (go_quiet (fail); try go_wp2)
          go_meet
          case rel => exact ⟨_, (true), (by first | rfl | (simp; done) | (simp [*]; done)), H', ⟨by first | omega | exact Nat.le_refl _⟩, ⟨K_ BK308⟩, ⟨K_ BK309⟩, ⟨bl_⟩⟩
        rw [if_neg c21] at H
        have c21b0 : decide (a1_1 < 1) = false := decide_eq_false c21
        clear c21
        have H' := Aside0.mk H
        clear H
        obtain ⟨hcz26_0, hcz26_1, hcz26_2, hcz26_3, hcz26_4⟩ := cells5 BK309
        obtain ⟨hfz26_0, hfz26_1, hfz26_2, hfz26_3, hfz26_4⟩ := fz5 BK309
        obtain ⟨hcz27_0, hcz27_1, hcz27_2, hcz27_3, hcz27_4, hcz27_5⟩ := cells6 BK308
        obtain ⟨hfz27_0, hfz27_1, hfz27_2, hfz27_3, hfz27_4, hfz27_5⟩ := fz6 BK308
        go_wp2
        repeat (go_quiet (fail); try go_wp2)
        go_meet
        case rel => exact ⟨_, (decide (a1_1 > 4096)), (by first | rfl | (simp; done) | (simp [*]; done)), H', ⟨by first | omega | exact Nat.le_refl _⟩, ⟨K_ BK308⟩, ⟨K_ BK309⟩, ⟨bl_⟩⟩
      rw [if_neg c8] at H
      have c8b0 : ((l1_3.length : Int) == a0_1) = false := beq_eq_false_iff_ne.mpr c8
      have c8b1 : ((l1_3.length : Int) != a0_1) = true := bne_iff_ne.mpr c8
      have H' := Aside0.mk H
      clear H
      obtain ⟨hcz29_0, hcz29_1, hcz29_2, hcz29_3, hcz29_4⟩ := cells5 BK309
      obtain ⟨hfz29_0, hfz29_1, hfz29_2, hfz29_3, hfz29_4⟩ := fz5 BK309
      obtain ⟨hcz30_0, hcz30_1, hcz30_2, hcz30_3, hcz30_4, hcz30_5⟩ := cells6 BK308
      obtain ⟨hfz30_0, hfz30_1, hfz30_2, hfz30_3, hfz30_4, hfz30_5⟩ := fz6 BK308
      go_wp2
      repeat (go_quiet (fail); try go_wp2)
      go_meet
      case rel => exact ⟨_, (true), (by first | rfl | (simp; done) | (simp [*]; done)), H', ⟨by first | omega | exact Nat.le_refl _⟩, ⟨K_ BK308⟩, ⟨K_ BK309⟩, ⟨bl_⟩⟩
    rw [if_neg c7] at H
    have c7b0 : ((l1_4.length : Int) == a0_0) = false := beq_eq_false_iff_ne.mpr c7
    have c7b1 : ((l1_4.length : Int) != a0_0) = true := bne_iff_ne.mpr c7
    have H' := Aside0.mk H
    clear H
    obtain ⟨hcz32_0, hcz32_1, hcz32_2, hcz32_3, hcz32_4⟩ := cells5 BK309
    obtain ⟨hfz32_0, hfz32_1, hfz32_2, hfz32_3, hfz32_4⟩ := fz5 BK309
    obtain ⟨hcz33_0, hcz33_1, hcz33_2, hcz33_3, hcz33_4, hcz33_5⟩ := cells6 BK308
    obtain ⟨hfz33_0, hfz33_1, hfz33_2, hfz33_3, hfz33_4, hfz33_5⟩ := fz6 BK308
    go_wp2
    repeat (go_quiet (fail); try go_wp2)
    go_meet
    case rel => exact ⟨_, (true), (by first | rfl | (simp; done) | (simp [*]; done)), H', ⟨by first | omega | exact Nat.le_refl _⟩, ⟨K_ BK308⟩, ⟨K_ BK309⟩, ⟨bl_⟩⟩
  rw [if_neg c6] at H
  have c6b0 : ((l1_2.length : Int) == a0_0) = false := beq_eq_false_iff_ne.mpr c6
  have c6b1 : ((l1_2.length : Int) != a0_0) = true := bne_iff_ne.mpr c6
  (first | rw [c6b0] | (simp only [i64_w, i32_w]; rw [c6b0]) | skip)
  have H' := Aside0.mk H
  clear H
  obtain ⟨hcz35_0, hcz35_1, hcz35_2, hcz35_3, hcz35_4⟩ := cells5 BK309
  obtain ⟨hfz35_0, hfz35_1, hfz35_2, hfz35_3, hfz35_4⟩ := fz5 BK309
  obtain ⟨hcz36_0, hcz36_1, hcz36_2, hcz36_3, hcz36_4, hcz36_5⟩ := cells6 BK308
  obtain ⟨hfz36_0, hfz36_1, hfz36_2, hfz36_3, hfz36_4, hfz36_5⟩ := fz6 BK308
  go_wp2
  repeat (go_quiet (fail); try go_wp2)
  go_meet
  case rel => exact ⟨_, (true), (by first | rfl | (simp; done) | (simp [*]; done)), H', ⟨by first | omega | exact Nat.le_refl _⟩, ⟨K_ BK308⟩, ⟨K_ BK309⟩, ⟨bl_⟩⟩
 clear HC3
 obtain ⟨kq, x57_2, rfl, HA, HJ2, BK308, BK309, HB⟩ := hcut
 cases kq with
 | zero => exact absurd HA.out (by simp [jacquardref28_Fits.j0])
 | succ kj2 => ?_
 have H := HA.out
 clear HA
 simp only [jacquardref28_Fits.j0] at H
 by_cases c37 : x57_2 = true
 · subst c37
   have H1 : (some false) = some r := by rw [if_pos rfl] at H; exact H
   clear H
   have H := H1
   clear H1
   obtain rfl := Option.some.inj H
   go_wp2
   repeat (go_quiet (fail); try go_wp2)
   go_ret
   exact ⟨by first | rfl | (simp [errW_none, errW_some] <;> rfl) | (simp [*, errW_none, errW_some] <;> rfl), by repeat (first | (with_reducible first | exact HB.out | apply below_alloc | apply pw_below_drewN | apply below_drew1 | refine below_set ?_ GE308.out | refine below_set ?_ GE309.out) | exact HB.out)⟩
 replace c37 := Bool.eq_false_iff.mpr c37
 subst c37
 have H1 : (jacquardref28_Fits.l0 kj2 (l1_2.length : Int) 0 a0_0 a0_1 a0_2 l0_3 l0_4 l0_5 a1_0 a1_1 l1_2 l1_3 l1_4) = some r := by rw [if_neg (show ¬ (false = true) by decide)] at H; exact H
 clear H
 have H := H1
 clear H1
 have H' := Aside0.mk H
 clear H
 obtain ⟨hcz39_0, hcz39_1, hcz39_2, hcz39_3, hcz39_4⟩ := cells5 BK309
 obtain ⟨hfz39_0, hfz39_1, hfz39_2, hfz39_3, hfz39_4⟩ := fz5 BK309
 go_wp2
 repeat (go_quiet (fail); try go_wp2)
 go_loopg [61] kj2 (fun kq v61 w' => ∃ (x61_2 : Int), v61 = .int .i64 x61_2 ∧ Aside0 (jacquardref28_Fits.l0 kq (l1_2.length : Int) x61_2 a0_0 a0_1 a0_2 l0_3 l0_4 l0_5 a1_0 a1_1 l1_2 l1_3 l1_4 = some r) ∧ Aside0 (kq ≤ kj2) ∧ Aside0 (w'.heap[gb308]? = some (.cells #[.int .i64 a0_0, .int .i64 a0_1, .bool a0_2, (.slice A0_3 l0_3.length c0_3), (.slice A0_4 l0_4.length c0_4), (.slice A0_5 l0_5.length c0_5)] 26 (0, 0))) ∧ Aside0 (w'.heap[gb309]? = some (.cells #[.int .i64 a1_0, .int .i64 a1_1, (.slice A1_2 l1_2.length c1_2), (.slice A1_3 l1_3.length c1_3), (.slice A1_4 l1_4.length c1_4)] 35 (0, 0))) ∧ Aside0 (Below w.heap.size w w'))
 case atStart => exact ⟨(0), (by first | rfl | (simp; done) | (simp [*]; done)), H', ⟨Nat.le_refl _⟩, ⟨K_ BK308⟩, ⟨K_ BK309⟩, ⟨bl_⟩⟩
 clear H'
 obtain ⟨x61_2, rfl, HA, HK2, BK308, BK309, HB⟩ := hrel
 cases gk with
 | zero => exact absurd HA.out (by simp [jacquardref28_Fits.l0])
 | succ k2 => ?_
 have H := HA.out
 clear HA
 simp only [jacquardref28_Fits.l0] at H
 by_cases c40 : x61_2 < (l1_2.length : Int)
 · rw [if_pos c40] at H
   have c40b0 : decide (x61_2 < (l1_2.length : Int)) = true := decide_eq_true c40
   clear c40
   by_cases c41 : 0 ≤ x61_2
   · rw [if_pos c41] at H
     have c41b0 : decide (0 ≤ x61_2) = true := decide_eq_true c41
     clear c41
     by_cases c42 : x61_2 < (l0_5.length : Int)
     · rw [if_pos c42] at H
       have c42b0 : decide (x61_2 < (l0_5.length : Int)) = true := decide_eq_true c42
       clear c42
       have HC43 := Aside0.mk H
       clear H
       obtain ⟨hcz45_0, hcz45_1, hcz45_2, hcz45_3, hcz45_4, hcz45_5⟩ := cells6 BK308
       obtain ⟨hfz45_0, hfz45_1, hfz45_2, hfz45_3, hfz45_4, hfz45_5⟩ := fz6 BK308
       have p310 : 0 ≤ (x61_2 : Int) := of_decide_eq_true (by first | (with_reducible assumption) | assumption)
       have q310 : x61_2 < (l0_5.length : Int) := of_decide_eq_true (by first | (with_reducible assumption) | assumption)
       obtain ⟨ad310, e310, hx310_0, hx310_1⟩ := at_T52 HR0_5.out x61_2 p310 q310
       cases e310
       replace hx310_0 := hc_ HB hx310_0
       replace hx310_1 := hc_ HB hx310_1
       replace p310 := eq_true p310
       replace q310 := eq_true q310
       go_upto_region 7 with (first | ((with_reducible refine gate_dst (N := 6) rfl ?_); (try (refine gate_guard (by rfl) ?_; dsimp only)); refine box_event ?hg (N := 6) ?hd (cs := #[.int .i64 0, .int .i64 0]) (t := 52) ?hr ?_; (case hd => rfl); (case hg => rfl); (case hr => first | (go_simp; done) | (go_simp; rfl)); intro gb311 hg w46 hbox hb; have n0_ := Aside0.mk (blk_below (K_ BK308) hb); have n1_ := Aside0.mk (blk_below (K_ BK309) hb); have n2_ := Aside0.mk (below_step bl_ hb); have n3_ := Aside0.mk (hbox); have n4_ := Aside0.mk (gl_ (w := w) hg); have n5_ := Aside0.mk (gl_ (w := w) hg); have n6_ := Aside0.mk (nl_ hg (K_ BK308)); have n7_ := Aside0.mk (ng_ hg (K_ BK308)); have n8_ := Aside0.mk (nl_ hg (K_ BK309)); have n9_ := Aside0.mk (ng_ hg (K_ BK309)); clear BK308; clear BK309; clear HB; have BK308 := n0_; have BK309 := n1_; have HB := n2_; have BK311 := n3_; have GW311 := n4_; have GE311 := n5_; have NB308_311 := n6_; have NB311_308 := n7_; have NB309_311 := n8_; have NB311_309 := n9_; clear n0_ n1_ n2_ n3_ n4_ n5_ n6_ n7_ n8_ n9_; clear hb hbox hg; obtain ⟨hcz49_0, hcz49_1⟩ := cells2 BK311; obtain ⟨hfz49_0, hfz49_1⟩ := fz2 BK311))
       repeat (go_quiet (first | ((with_reducible refine gate_dst (N := 6) rfl ?_); (try (refine gate_guard (by rfl) ?_; dsimp only)); refine box_event ?hg (N := 6) ?hd (cs := #[.int .i64 0, .int .i64 0]) (t := 52) ?hr ?_; (case hd => rfl); (case hg => rfl); (case hr => first | (go_simp; done) | (go_simp; rfl)); intro gb311 hg w46 hbox hb; have n0_ := Aside0.mk (blk_below (K_ BK308) hb); have n1_ := Aside0.mk (blk_below (K_ BK309) hb); have n2_ := Aside0.mk (below_step bl_ hb); have n3_ := Aside0.mk (hbox); have n4_ := Aside0.mk (gl_ (w := w) hg); have n5_ := Aside0.mk (gl_ (w := w) hg); have n6_ := Aside0.mk (nl_ hg (K_ BK308)); have n7_ := Aside0.mk (ng_ hg (K_ BK308)); have n8_ := Aside0.mk (nl_ hg (K_ BK309)); have n9_ := Aside0.mk (ng_ hg (K_ BK309)); clear BK308; clear BK309; clear HB; have BK308 := n0_; have BK309 := n1_; have HB := n2_; have BK311 := n3_; have GW311 := n4_; have GE311 := n5_; have NB308_311 := n6_; have NB311_308 := n7_; have NB309_311 := n8_; have NB311_309 := n9_; clear n0_ n1_ n2_ n3_ n4_ n5_ n6_ n7_ n8_ n9_; clear hb hbox hg; obtain ⟨hcz49_0, hcz49_1⟩ := cells2 BK311; obtain ⟨hfz49_0, hfz49_1⟩ := fz2 BK311)); go_upto_region 7 with (first | ((with_reducible refine gate_dst (N := 6) rfl ?_); (try (refine gate_guard (by rfl) ?_; dsimp only)); refine box_event ?hg (N := 6) ?hd (cs := #[.int .i64 0, .int .i64 0]) (t := 52) ?hr ?_; (case hd => rfl); (case hg => rfl); (case hr => first | (go_simp; done) | (go_simp; rfl)); intro gb311 hg w46 hbox hb; have n0_ := Aside0.mk (blk_below (K_ BK308) hb); have n1_ := Aside0.mk (blk_below (K_ BK309) hb); have n2_ := Aside0.mk (below_step bl_ hb); have n3_ := Aside0.mk (hbox); have n4_ := Aside0.mk (gl_ (w := w) hg); have n5_ := Aside0.mk (gl_ (w := w) hg); have n6_ := Aside0.mk (nl_ hg (K_ BK308)); have n7_ := Aside0.mk (ng_ hg (K_ BK308)); have n8_ := Aside0.mk (nl_ hg (K_ BK309)); have n9_ := Aside0.mk (ng_ hg (K_ BK309)); clear BK308; clear BK309; clear HB; have BK308 := n0_; have BK309 := n1_; have HB := n2_; have BK311 := n3_; have GW311 := n4_; have GE311 := n5_; have NB308_311 := n6_; have NB311_308 := n7_; have NB309_311 := n8_; have NB311_309 := n9_; clear n0_ n1_ n2_ n3_ n4_ n5_ n6_ n7_ n8_ n9_; clear hb hbox hg; obtain ⟨hcz49_0, hcz49_1⟩ := cells2 BK311; obtain ⟨hfz49_0, hfz49_1⟩ := fz2 BK311)))
       (try simp only [Act.put, List.setIfInBounds_toArray, List.set_cons_zero, List.set_cons_succ])
       go_cut [123] (fun v123 wc => ∃ (kq : Nat) (x123_42 : Bool), v123 = .bool x123_42 ∧ Aside0 (jacquardref28_Fits.j2 kq (l1_2.length : Int) x61_2 x123_42 a0_0 a0_1 a0_2 l0_3 l0_4 l0_5 a1_0 a1_1 l1_2 l1_3 l1_4 = some r) ∧ Aside0 (kq ≤ k2) ∧ Aside0 (wc.heap[gb308]? = some (.cells #[.int .i64 a0_0, .int .i64 a0_1, .bool a0_2, (.slice A0_3 l0_3.length c0_3), (.slice A0_4 l0_4.length c0_4), (.slice (some ad310) l0_5.length c0_5)] 26 (0, 0))) ∧ Aside0 (wc.heap[gb309]? = some (.cells #[.int .i64 a1_0, .int .i64 a1_1, (.slice A1_2 l1_2.length c1_2), (.slice A1_3 l1_3.length c1_3), (.slice A1_4 l1_4.length c1_4)] 35 (0, 0))) ∧ Aside0 (wc.heap[gb311]? = some (.cells #[.int .i64 ((rd_T52 l0_5 x61_2).f0), .int .i64 ((rd_T52 l0_5 x61_2).f1)] 52 (0, 0))) ∧ Aside0 (Below w.heap.size w wc))
       case first =>
        have H := HC43.out
        clear HC43
        by_cases c50 : x61_2 < (l1_2.length : Int)
        · rw [if_pos c50] at H
          have c50b0 : decide (x61_2 < (l1_2.length : Int)) = true := decide_eq_true c50
          clear c50
          (first | rw [c50b0] | (simp only [i64_w, i32_w]; rw [c50b0]) | skip)
          by_cases c51 : (rd l1_2 x61_2) < 0
          · rw [if_pos c51] at H
            have c51b0 : decide ((rd l1_2 x61_2) < 0) = true := decide_eq_true c51
            clear c51
            have H' := Aside0.mk H
            clear H
            obtain ⟨hcz54_0, hcz54_1, hcz54_2, hcz54_3, hcz54_4⟩ := cells5 BK309
            obtain ⟨hfz54_0, hfz54_1, hfz54_2, hfz54_3, hfz54_4⟩ := fz5 BK309
            have p312 : 0 ≤ (x61_2 : Int) := of_decide_eq_true (by first | (with_reducible assumption) | assumption)
            have q312 : x61_2 < (l1_2.length : Int) := of_decide_eq_true (by first | (with_reducible assumption) | assumption)
            obtain ⟨ad312, e312, hx312_0⟩ := Kd.at_int HR1_2.out x61_2 p312 q312
            cases e312
            have hn312_0 : ad312.block ≠ gb311 := Nat.ne_of_lt (Nat.lt_of_lt_of_le (by have := World.block_lt_of_cell? _ _ hx312_0; first | rwa [add_block] at this | exact this) GW311.out)
            have hn312_1 : ad312.block ≠ gb311 := Nat.ne_of_lt (Nat.lt_of_lt_of_le (by have := World.block_lt_of_cell? _ _ hx312_0; first | rwa [add_block] at this | exact this) GW311.out)
            replace hx312_0 := hc_ HB hx312_0
            replace hx312_0 := (cell_far (p := ⟨gb311, 0, none⟩) (ab_ hn312_0) (.int .i64 ((rd_T52 l0_5 x61_2).f0))).trans hx312_0
            replace hx312_0 := (cell_far (p := ⟨gb311, 1, none⟩) (ab_ hn312_1) (.int .i64 ((rd_T52 l0_5 x61_2).f1))).trans hx312_0
            replace p312 := eq_true p312
            replace q312 := eq_true q312
            go_wp2
            repeat (go_quiet (fail); try go_wp2)
            go_meet
            case rel => exact ⟨_, (true), (by first | rfl | (simp; done) | (simp [*]; done)), H', ⟨by have := HJ2.out; have := HK2.out; first | omega | exact Nat.le_refl _⟩, ⟨by (with_reducible repeat (first | refine blk_drewN ?_ _ | refine blk_drew ?_ | refine blk_alloc ?_ _)); refine blk_far ?_ NB308_311.out _; (with_reducible repeat (first | refine blk_drewN ?_ _ | refine blk_drew ?_ | refine blk_alloc ?_ _)); refine blk_far ?_ NB308_311.out _; (with_reducible repeat (first | refine blk_drewN ?_ _ | refine blk_drew ?_ | refine blk_alloc ?_ _)); exact BK308.out⟩, ⟨by (with_reducible repeat (first | refine blk_drewN ?_ _ | refine blk_drew ?_ | refine blk_alloc ?_ _)); refine blk_far ?_ NB309_311.out _; (with_reducible repeat (first | refine blk_drewN ?_ _ | refine blk_drew ?_ | refine blk_alloc ?_ _)); refine blk_far ?_ NB309_311.out _; (with_reducible repeat (first | refine blk_drewN ?_ _ | refine blk_drew ?_ | refine blk_alloc ?_ _)); exact BK309.out⟩, ⟨by (with_reducible repeat (first | refine blk_drewN ?_ _ | refine blk_drew ?_ | refine blk_alloc ?_ _)); refine blk_put (cs := #[.int .i64 ((rd_T52 l0_5 x61_2).f0), .int .i64 0]) ?_ 1 _ rfl; (with_reducible repeat (first | refine blk_drewN ?_ _ | refine blk_drew ?_ | refine blk_alloc ?_ _)); refine blk_put (cs := #[.int .i64 0, .int .i64 0]) ?_ 0 _ rfl; (with_reducible repeat (first | refine blk_drewN ?_ _ | refine blk_drew ?_ | refine blk_alloc ?_ _)); exact BK311.out⟩, ⟨bl_⟩⟩
          rw [if_neg c51] at H
          have c51b0 : decide ((rd l1_2 x61_2) < 0) = false := decide_eq_false c51
          clear c51
          by_cases c55 : (rd l1_2 x61_2) > 4096
          · rw [if_pos c55] at H
            have c55b0 : decide (4096 < (rd l1_2 x61_2)) = true := decide_eq_true c55
            clear c55
            have H' := Aside0.mk H
            clear H
            obtain ⟨hcz58_0, hcz58_1, hcz58_2, hcz58_3, hcz58_4⟩ := cells5 BK309
            obtain ⟨hfz58_0, hfz58_1, hfz58_2, hfz58_3, hfz58_4⟩ := fz5 BK309
            have p312 : 0 ≤ (x61_2 : Int) := of_decide_eq_true (by first | (with_reducible assumption) | assumption)
            have q312 : x61_2 < (l1_2.length : Int) := of_decide_eq_true (by first | (with_reducible assumption) | assumption)
            obtain ⟨ad312, e312, hx312_0⟩ := Kd.at_int HR1_2.out x61_2 p312 q312
            cases e312
            have hn312_0 : ad312.block ≠ gb311 := Nat.ne_of_lt (Nat.lt_of_lt_of_le (by have := World.block_lt_of_cell? _ _ hx312_0; first | rwa [add_block] at this | exact this) GW311.out)
            have hn312_1 : ad312.block ≠ gb311 := Nat.ne_of_lt (Nat.lt_of_lt_of_le (by have := World.block_lt_of_cell? _ _ hx312_0; first | rwa [add_block] at this | exact this) GW311.out)
            replace hx312_0 := hc_ HB hx312_0
            replace hx312_0 := (cell_far (p := ⟨gb311, 0, none⟩) (ab_ hn312_0) (.int .i64 ((rd_T52 l0_5 x61_2).f0))).trans hx312_0
            replace hx312_0 := (cell_far (p := ⟨gb311, 1, none⟩) (ab_ hn312_1) (.int .i64 ((rd_T52 l0_5 x61_2).f1))).trans hx312_0
            replace p312 := eq_true p312
            replace q312 := eq_true q312
            have p313 : 0 ≤ (x61_2 : Int) := of_decide_eq_true (by first | (with_reducible assumption) | assumption)
            have q313 : x61_2 < (l1_2.length : Int) := of_decide_eq_true (by first | (with_reducible assumption) | assumption)
            obtain ⟨ad313, e313, hx313_0⟩ := Kd.at_int HR1_2.out x61_2 p313 q313
            obtain rfl : ad312 = ad313 := (by injection e313)
            have hn313_0 : ad312.block ≠ gb311 := Nat.ne_of_lt (Nat.lt_of_lt_of_le (by have := World.block_lt_of_cell? _ _ hx313_0; first | rwa [add_block] at this | exact this) GW311.out)
            have hn313_1 : ad312.block ≠ gb311 := Nat.ne_of_lt (Nat.lt_of_lt_of_le (by have := World.block_lt_of_cell? _ _ hx313_0; first | rwa [add_block] at this | exact this) GW311.out)
            replace hx313_0 := hc_ HB hx313_0
            replace hx313_0 := (cell_far (p := ⟨gb311, 0, none⟩) (ab_ hn313_0) (.int .i64 ((rd_T52 l0_5 x61_2).f0))).trans hx313_0
            replace hx313_0 := (cell_far (p := ⟨gb311, 1, none⟩) (ab_ hn313_1) (.int .i64 ((rd_T52 l0_5 x61_2).f1))).trans hx313_0
            replace p313 := eq_true p313
            replace q313 := eq_true q313
            go_wp2
            repeat (go_quiet (fail); try go_wp2)
            go_meet
            case rel => exact ⟨_, (true), (by first | rfl | (simp; done) | (simp [*]; done)), H', ⟨by have := HJ2.out; have := HK2.out; first | omega | exact Nat.le_refl _⟩, ⟨by (with_reducible repeat (first | refine blk_drewN ?_ _ | refine blk_drew ?_ | refine blk_alloc ?_ _)); refine blk_far ?_ NB308_311.out _; (with_reducible repeat (first | refine blk_drewN ?_ _ | refine blk_drew ?_ | refine blk_alloc ?_ _)); refine blk_far ?_ NB308_311.out _; (with_reducible repeat (first | refine blk_drewN ?_ _ | refine blk_drew ?_ | refine blk_alloc ?_ _)); exact BK308.out⟩, ⟨by (with_reducible repeat (first | refine blk_drewN ?_ _ | refine blk_drew ?_ | refine blk_alloc ?_ _)); refine blk_far ?_ NB309_311.out _; (with_reducible repeat (first | refine blk_drewN ?_ _ | refine blk_drew ?_ | refine blk_alloc ?_ _)); refine blk_far ?_ NB309_311.out _; (with_reducible repeat (first | refine blk_drewN ?_ _ | refine blk_drew ?_ | refine blk_alloc ?_ _)); exact BK309.out⟩, ⟨by (with_reducible repeat (first | refine blk_drewN ?_ _ | refine blk_drew ?_ | refine blk_alloc ?_ _)); refine blk_put (cs := #[.int .i64 ((rd_T52 l0_5 x61_2).f0), .int .i64 0]) ?_ 1 _ rfl; (with_reducible repeat (first | refine blk_drewN ?_ _ | refine blk_drew ?_ | refine blk_alloc ?_ _)); refine blk_put (cs := #[.int .i64 0, .int .i64 0]) ?_ 0 _ rfl; (with_reducible repeat (first | refine blk_drewN ?_ _ | refine blk_drew ?_ | refine blk_alloc ?_ _)); exact BK311.out⟩, ⟨bl_⟩⟩
          rw [if_neg c55] at H
          have c55b0 : decide (4096 < (rd l1_2 x61_2)) = false := decide_eq_false c55
          clear c55
          by_cases c59 : ((rd_T52 l0_5 x61_2).f0) < 0
          · rw [if_pos c59] at H
            have c59b0 : decide (((rd_T52 l0_5 x61_2).f0) < 0) = true := decide_eq_true c59
            clear c59
            by_cases c60 : x61_2 < (l1_4.length : Int)
            · rw [if_pos c60] at H
              have c60b0 : decide (x61_2 < (l1_4.length : Int)) = true := decide_eq_true c60
              clear c60
              by_cases c61 : (rd l1_4 x61_2) = (-1)
              · rw [if_pos c61] at H
                have c61b0 : ((rd l1_4 x61_2) == (-1)) = true := beq_iff_eq.mpr c61
                have c61b1 : ((rd l1_4 x61_2) != (-1)) = false := bne_eq_false_iff_eq.mpr c61
                clear c61
                by_cases c62 : ((rd_T52 l0_5 x61_2).f0) ≥ 0
                · rw [if_pos c62] at H
                  have c62b0 : decide (0 ≤ ((rd_T52 l0_5 x61_2).f0)) = true := decide_eq_true c62
                  clear c62
                  by_cases c63 : (rd l1_4 x61_2) < 0
                  · rw [if_pos c63] at H
                    have c63b0 : decide ((rd l1_4 x61_2) < 0) = true := decide_eq_true c63
                    clear c63
                    have H' := Aside0.mk H
                    clear H
                    obtain ⟨hcz66_0, hcz66_1, hcz66_2, hcz66_3, hcz66_4⟩ := cells5 BK309
                    obtain ⟨hfz66_0, hfz66_1, hfz66_2, hfz66_3, hfz66_4⟩ := fz5 BK309
                    have p312 : 0 ≤ (x61_2 : Int) := of_decide_eq_true (by first | (with_reducible assumption) | assumption)
                    have q312 : x61_2 < (l1_2.length : Int) := of_decide_eq_true (by first | (with_reducible assumption) | assumption)
                    obtain ⟨ad312, e312, hx312_0⟩ := Kd.at_int HR1_2.out x61_2 p312 q312
                    cases e312
                    have hn312_0 : ad312.block ≠ gb311 := Nat.ne_of_lt (Nat.lt_of_lt_of_le (by have := World.block_lt_of_cell? _ _ hx312_0; first | rwa [add_block] at this | exact this) GW311.out)
                    have hn312_1 : ad312.block ≠ gb311 := Nat.ne_of_lt (Nat.lt_of_lt_of_le (by have := World.block_lt_of_cell? _ _ hx312_0; first | rwa [add_block] at this | exact this) GW311.out)
                    replace hx312_0 := hc_ HB hx312_0
                    replace hx312_0 := (cell_far (p := ⟨gb311, 0, none⟩) (ab_ hn312_0) (.int .i64 ((rd_T52 l0_5 x61_2).f0))).trans hx312_0
                    replace hx312_0 := (cell_far (p := ⟨gb311, 1, none⟩) (ab_ hn312_1) (.int .i64 ((rd_T52 l0_5 x61_2).f1))).trans hx312_0
                    replace p312 := eq_true p312
                    replace q312 := eq_true q312
                    have p313 : 0 ≤ (x61_2 : Int) := of_decide_eq_true (by first | (with_reducible assumption) | assumption)
                    have q313 : x61_2 < (l1_2.length : Int) := of_decide_eq_true (by first | (with_reducible assumption) | assumption)
                    obtain ⟨ad313, e313, hx313_0⟩ := Kd.at_int HR1_2.out x61_2 p313 q313
                    obtain rfl : ad312 = ad313 := (by injection e313)
                    have hn313_0 : ad312.block ≠ gb311 := Nat.ne_of_lt (Nat.lt_of_lt_of_le (by have := World.block_lt_of_cell? _ _ hx313_0; first | rwa [add_block] at this | exact this) GW311.out)
                    have hn313_1 : ad312.block ≠ gb311 := Nat.ne_of_lt (Nat.lt_of_lt_of_le (by have := World.block_lt_of_cell? _ _ hx313_0; first | rwa [add_block] at this | exact this) GW311.out)
                    replace hx313_0 := hc_ HB hx313_0
                    replace hx313_0 := (cell_far (p := ⟨gb311, 0, none⟩) (ab_ hn313_0) (.int .i64 ((rd_T52 l0_5 x61_2).f0))).trans hx313_0
                    replace hx313_0 := (cell_far (p := ⟨gb311, 1, none⟩) (ab_ hn313_1) (.int .i64 ((rd_T52 l0_5 x61_2).f1))).trans hx313_0
                    replace p313 := eq_true p313
                    replace q313 := eq_true q313
                    obtain ⟨hcz68_0, hcz68_1⟩ := cells2 BK311
                    obtain ⟨hfz68_0, hfz68_1⟩ := fz2 BK311
                    have p314 : 0 ≤ (x61_2 : Int) := of_decide_eq_true (by first | (with_reducible assumption) | assumption)
                    have q314 : x61_2 < (l1_4.length : Int) := of_decide_eq_true (by first | (with_reducible assumption) | assumption)
                    obtain ⟨ad314, e314, hx314_0⟩ := Kd.at_int HR1_4.out x61_2 p314 q314
                    cases e314
                    have hn314_0 : ad314.block ≠ gb311 := Nat.ne_of_lt (Nat.lt_of_lt_of_le (by have := World.block_lt_of_cell? _ _ hx314_0; first | rwa [add_block] at this | exact this) GW311.out)
                    have hn314_1 : ad314.block ≠ gb311 := Nat.ne_of_lt (Nat.lt_of_lt_of_le (by have := World.block_lt_of_cell? _ _ hx314_0; first | rwa [add_block] at this | exact this) GW311.out)
                    replace hx314_0 := hc_ HB hx314_0
                    replace hx314_0 := (cell_far (p := ⟨gb311, 0, none⟩) (ab_ hn314_0) (.int .i64 ((rd_T52 l0_5 x61_2).f0))).trans hx314_0
                    replace hx314_0 := (cell_far (p := ⟨gb311, 1, none⟩) (ab_ hn314_1) (.int .i64 ((rd_T52 l0_5 x61_2).f1))).trans hx314_0
                    replace p314 := eq_true p314
                    replace q314 := eq_true q314
                    have p315 : 0 ≤ (x61_2 : Int) := of_decide_eq_true (by first | (with_reducible assumption) | assumption)
                    have q315 : x61_2 < (l1_4.length : Int) := of_decide_eq_true (by first | (with_reducible assumption) | assumption)
                    obtain ⟨ad315, e315, hx315_0⟩ := Kd.at_int HR1_4.out x61_2 p315 q315
                    obtain rfl : ad314 = ad315 := (by injection e315)
                    have hn315_0 : ad314.block ≠ gb311 := Nat.ne_of_lt (Nat.lt_of_lt_of_le (by have := World.block_lt_of_cell? _ _ hx315_0; first | rwa [add_block] at this | exact this) GW311.out)
                    have hn315_1 : ad314.block ≠ gb311 := Nat.ne_of_lt (Nat.lt_of_lt_of_le (by have := World.block_lt_of_cell? _ _ hx315_0; first | rwa [add_block] at this | exact this) GW311.out)
                    replace hx315_0 := hc_ HB hx315_0
                    replace hx315_0 := (cell_far (p := ⟨gb311, 0, none⟩) (ab_ hn315_0) (.int .i64 ((rd_T52 l0_5 x61_2).f0))).trans hx315_0
                    replace hx315_0 := (cell_far (p := ⟨gb311, 1, none⟩) (ab_ hn315_1) (.int .i64 ((rd_T52 l0_5 x61_2).f1))).trans hx315_0
                    replace p315 := eq_true p315
                    replace q315 := eq_true q315
                    go_wp2
                    repeat (go_quiet (fail); try go_wp2)
                    go_meet
                    case rel => exact ⟨_, (true), (by first | rfl | (simp; done) | (simp [*]; done)), H', ⟨by have := HJ2.out; have := HK2.out; first | omega | exact Nat.le_refl _⟩, ⟨by (with_reducible repeat (first | refine blk_drewN ?_ _ | refine blk_drew ?_ | refine blk_alloc ?_ _)); refine blk_far ?_ NB308_311.out _; (with_reducible repeat (first | refine blk_drewN ?_ _ | refine blk_drew ?_ | refine blk_alloc ?_ _)); refine blk_far ?_ NB308_311.out _; (with_reducible repeat (first | refine blk_drewN ?_ _ | refine blk_drew ?_ | refine blk_alloc ?_ _)); exact BK308.out⟩, ⟨by (with_reducible repeat (first | refine blk_drewN ?_ _ | refine blk_drew ?_ | refine blk_alloc ?_ _)); refine blk_far ?_ NB309_311.out _; (with_reducible repeat (first | refine blk_drewN ?_ _ | refine blk_drew ?_ | refine blk_alloc ?_ _)); refine blk_far ?_ NB309_311.out _; (with_reducible repeat (first | refine blk_drewN ?_ _ | refine blk_drew ?_ | refine blk_alloc ?_ _)); exact BK309.out⟩, ⟨by (with_reducible repeat (first | refine blk_drewN ?_ _ | refine blk_drew ?_ | refine blk_alloc ?_ _)); refine blk_put (cs := #[.int .i64 ((rd_T52 l0_5 x61_2).f0), .int .i64 0]) ?_ 1 _ rfl; (with_reducible repeat (first | refine blk_drewN ?_ _ | refine blk_drew ?_ | refine blk_alloc ?_ _)); refine blk_put (cs := #[.int .i64 0, .int .i64 0]) ?_ 0 _ rfl; (with_reducible repeat (first | refine blk_drewN ?_ _ | refine blk_drew ?_ | refine blk_alloc ?_ _)); exact BK311.out⟩, ⟨bl_⟩⟩
                  rw [if_neg c63] at H
                  have c63b0 : decide ((rd l1_4 x61_2) < 0) = false := decide_eq_false c63
                  clear c63
                  by_cases c69 : 0 ≤ ((rd_T52 l0_5 x61_2).f0)
                  · rw [if_pos c69] at H
                    have c69b0 : decide (0 ≤ ((rd_T52 l0_5 x61_2).f0)) = true := decide_eq_true c69
                    clear c69
                    by_cases c70 : ((rd_T52 l0_5 x61_2).f0) < (l0_4.length : Int)
                    · rw [if_pos c70] at H
                      have c70b0 : decide (((rd_T52 l0_5 x61_2).f0) < (l0_4.length : Int)) = true := decide_eq_true c70
                      clear c70
                      have H' := Aside0.mk H
                      clear H
                      obtain ⟨hcz73_0, hcz73_1, hcz73_2, hcz73_3, hcz73_4⟩ := cells5 BK309
                      obtain ⟨hfz73_0, hfz73_1, hfz73_2, hfz73_3, hfz73_4⟩ := fz5 BK309
                      have p312 : 0 ≤ (x61_2 : Int) := of_decide_eq_true (by first | (with_reducible assumption) | assumption)
                      have q312 : x61_2 < (l1_2.length : Int) := of_decide_eq_true (by first | (with_reducible assumption) | assumption)
                      obtain ⟨ad312, e312, hx312_0⟩ := Kd.at_int HR1_2.out x61_2 p312 q312
                      cases e312
                      have hn312_0 : ad312.block ≠ gb311 := Nat.ne_of_lt (Nat.lt_of_lt_of_le (by have := World.block_lt_of_cell? _ _ hx312_0; first | rwa [add_block] at this | exact this) GW311.out)
                      have hn312_1 : ad312.block ≠ gb311 := Nat.ne_of_lt (Nat.lt_of_lt_of_le (by have := World.block_lt_of_cell? _ _ hx312_0; first | rwa [add_block] at this | exact this) GW311.out)
                      replace hx312_0 := hc_ HB hx312_0
                      replace hx312_0 := (cell_far (p := ⟨gb311, 0, none⟩) (ab_ hn312_0) (.int .i64 ((rd_T52 l0_5 x61_2).f0))).trans hx312_0
                      replace hx312_0 := (cell_far (p := ⟨gb311, 1, none⟩) (ab_ hn312_1) (.int .i64 ((rd_T52 l0_5 x61_2).f1))).trans hx312_0
                      replace p312 := eq_true p312
                      replace q312 := eq_true q312
                      have p313 : 0 ≤ (x61_2 : Int) := of_decide_eq_true (by first | (with_reducible assumption) | assumption)
                      have q313 : x61_2 < (l1_2.length : Int) := of_decide_eq_true (by first | (with_reducible assumption) | assumption)
                      obtain ⟨ad313, e313, hx313_0⟩ := Kd.at_int HR1_2.out x61_2 p313 q313
                      obtain rfl : ad312 = ad313 := (by injection e313)
                      have hn313_0 : ad312.block ≠ gb311 := Nat.ne_of_lt (Nat.lt_of_lt_of_le (by have := World.block_lt_of_cell? _ _ hx313_0; first | rwa [add_block] at this | exact this) GW311.out)
                      have hn313_1 : ad312.block ≠ gb311 := Nat.ne_of_lt (Nat.lt_of_lt_of_le (by have := World.block_lt_of_cell? _ _ hx313_0; first | rwa [add_block] at this | exact this) GW311.out)
                      replace hx313_0 := hc_ HB hx313_0
                      replace hx313_0 := (cell_far (p := ⟨gb311, 0, none⟩) (ab_ hn313_0) (.int .i64 ((rd_T52 l0_5 x61_2).f0))).trans hx313_0
                      replace hx313_0 := (cell_far (p := ⟨gb311, 1, none⟩) (ab_ hn313_1) (.int .i64 ((rd_T52 l0_5 x61_2).f1))).trans hx313_0
                      replace p313 := eq_true p313
                      replace q313 := eq_true q313
                      obtain ⟨hcz75_0, hcz75_1⟩ := cells2 BK311
                      obtain ⟨hfz75_0, hfz75_1⟩ := fz2 BK311
                      have p314 : 0 ≤ (x61_2 : Int) := of_decide_eq_true (by first | (with_reducible assumption) | assumption)
                      have q314 : x61_2 < (l1_4.length : Int) := of_decide_eq_true (by first | (with_reducible assumption) | assumption)
                      obtain ⟨ad314, e314, hx314_0⟩ := Kd.at_int HR1_4.out x61_2 p314 q314
                      cases e314
                      have hn314_0 : ad314.block ≠ gb311 := Nat.ne_of_lt (Nat.lt_of_lt_of_le (by have := World.block_lt_of_cell? _ _ hx314_0; first | rwa [add_block] at this | exact this) GW311.out)
                      have hn314_1 : ad314.block ≠ gb311 := Nat.ne_of_lt (Nat.lt_of_lt_of_le (by have := World.block_lt_of_cell? _ _ hx314_0; first | rwa [add_block] at this | exact this) GW311.out)
                      replace hx314_0 := hc_ HB hx314_0
                      replace hx314_0 := (cell_far (p := ⟨gb311, 0, none⟩) (ab_ hn314_0) (.int .i64 ((rd_T52 l0_5 x61_2).f0))).trans hx314_0
                      replace hx314_0 := (cell_far (p := ⟨gb311, 1, none⟩) (ab_ hn314_1) (.int .i64 ((rd_T52 l0_5 x61_2).f1))).trans hx314_0
                      replace p314 := eq_true p314
                      replace q314 := eq_true q314
                      have p315 : 0 ≤ (x61_2 : Int) := of_decide_eq_true (by first | (with_reducible assumption) | assumption)
                      have q315 : x61_2 < (l1_4.length : Int) := of_decide_eq_true (by first | (with_reducible assumption) | assumption)
                      obtain ⟨ad315, e315, hx315_0⟩ := Kd.at_int HR1_4.out x61_2 p315 q315
                      obtain rfl : ad314 = ad315 := (by injection e315)
                      have hn315_0 : ad314.block ≠ gb311 := Nat.ne_of_lt (Nat.lt_of_lt_of_le (by have := World.block_lt_of_cell? _ _ hx315_0; first | rwa [add_block] at this | exact this) GW311.out)
                      have hn315_1 : ad314.block ≠ gb311 := Nat.ne_of_lt (Nat.lt_of_lt_of_le (by have := World.block_lt_of_cell? _ _ hx315_0; first | rwa [add_block] at this | exact this) GW311.out)
                      replace hx315_0 := hc_ HB hx315_0
                      replace hx315_0 := (cell_far (p := ⟨gb311, 0, none⟩) (ab_ hn315_0) (.int .i64 ((rd_T52 l0_5 x61_2).f0))).trans hx315_0
                      replace hx315_0 := (cell_far (p := ⟨gb311, 1, none⟩) (ab_ hn315_1) (.int .i64 ((rd_T52 l0_5 x61_2).f1))).trans hx315_0
                      replace p315 := eq_true p315
                      replace q315 := eq_true q315
                      have p316 : 0 ≤ (x61_2 : Int) := of_decide_eq_true (by first | (with_reducible assumption) | assumption)
                      have q316 : x61_2 < (l1_4.length : Int) := of_decide_eq_true (by first | (with_reducible assumption) | assumption)
                      obtain ⟨ad316, e316, hx316_0⟩ := Kd.at_int HR1_4.out x61_2 p316 q316
                      obtain rfl : ad314 = ad316 := (by injection e316)
                      have hn316_0 : ad314.block ≠ gb311 := Nat.ne_of_lt (Nat.lt_of_lt_of_le (by have := World.block_lt_of_cell? _ _ hx316_0; first | rwa [add_block] at this | exact this) GW311.out)
                      have hn316_1 : ad314.block ≠ gb311 := Nat.ne_of_lt (Nat.lt_of_lt_of_le (by have := World.block_lt_of_cell? _ _ hx316_0; first | rwa [add_block] at this | exact this) GW311.out)
                      replace hx316_0 := hc_ HB hx316_0
                      replace hx316_0 := (cell_far (p := ⟨gb311, 0, none⟩) (ab_ hn316_0) (.int .i64 ((rd_T52 l0_5 x61_2).f0))).trans hx316_0
                      replace hx316_0 := (cell_far (p := ⟨gb311, 1, none⟩) (ab_ hn316_1) (.int .i64 ((rd_T52 l0_5 x61_2).f1))).trans hx316_0
                      replace p316 := eq_true p316
                      replace q316 := eq_true q316
                      obtain ⟨hcz76_0, hcz76_1, hcz76_2, hcz76_3, hcz76_4, hcz76_5⟩ := cells6 BK308
                      obtain ⟨hfz76_0, hfz76_1, hfz76_2, hfz76_3, hfz76_4, hfz76_5⟩ := fz6 BK308
                      have p317 : 0 ≤ (((rd_T52 l0_5 x61_2).f0) : Int) := of_decide_eq_true (by first | (with_reducible assumption) | assumption)
                      have q317 : ((rd_T52 l0_5 x61_2).f0) < (l0_4.length : Int) := of_decide_eq_true (by first | (with_reducible assumption) | assumption)
                      obtain ⟨ad317, e317, hx317_0, hx317_1, hx317_2, hx317_3⟩ := at_T50 HR0_4.out ((rd_T52 l0_5 x61_2).f0) p317 q317
                      cases e317
                      have hn317_0 : ad317.block ≠ gb311 := Nat.ne_of_lt (Nat.lt_of_lt_of_le (by have := World.block_lt_of_cell? _ _ hx317_0; first | rwa [add_block] at this | exact this) GW311.out)
                      have hn317_1 : ad317.block ≠ gb311 := Nat.ne_of_lt (Nat.lt_of_lt_of_le (by have := World.block_lt_of_cell? _ _ hx317_0; first | rwa [add_block] at this | exact this) GW311.out)
                      replace hx317_0 := hc_ HB hx317_0
                      replace hx317_1 := hc_ HB hx317_1
                      replace hx317_2 := hc_ HB hx317_2
                      replace hx317_3 := hc_ HB hx317_3
                      replace hx317_0 := (cell_far (p := ⟨gb311, 0, none⟩) (ab_ hn317_0) (.int .i64 ((rd_T52 l0_5 x61_2).f0))).trans hx317_0
                      replace hx317_1 := (cell_far (p := ⟨gb311, 0, none⟩) (ab_ hn317_0) (.int .i64 ((rd_T52 l0_5 x61_2).f0))).trans hx317_1
                      replace hx317_2 := (cell_far (p := ⟨gb311, 0, none⟩) (ab_ hn317_0) (.int .i64 ((rd_T52 l0_5 x61_2).f0))).trans hx317_2
                      replace hx317_3 := (cell_far (p := ⟨gb311, 0, none⟩) (ab_ hn317_0) (.int .i64 ((rd_T52 l0_5 x61_2).f0))).trans hx317_3
                      replace hx317_0 := (cell_far (p := ⟨gb311, 1, none⟩) (ab_ hn317_1) (.int .i64 ((rd_T52 l0_5 x61_2).f1))).trans hx317_0
                      replace hx317_1 := (cell_far (p := ⟨gb311, 1, none⟩) (ab_ hn317_1) (.int .i64 ((rd_T52 l0_5 x61_2).f1))).trans hx317_1
                      replace hx317_2 := (cell_far (p := ⟨gb311, 1, none⟩) (ab_ hn317_1) (.int .i64 ((rd_T52 l0_5 x61_2).f1))).trans hx317_2
                      replace hx317_3 := (cell_far (p := ⟨gb311, 1, none⟩) (ab_ hn317_1) (.int .i64 ((rd_T52 l0_5 x61_2).f1))).trans hx317_3
                      replace p317 := eq_true p317
                      replace q317 := eq_true q317
                      go_wp2
                      repeat (go_quiet (fail); try go_wp2)
                      go_meet
                      case rel => exact ⟨_, (decide ((rd l1_4 x61_2) ≥ ((rd_T50 l0_4 ((rd_T52 l0_5 x61_2).f0)).f3))), (by first | rfl | (simp; done) | (simp [*]; done)), H', ⟨by have := HJ2.out; have := HK2.out; first | omega | exact Nat.le_refl _⟩, ⟨by (with_reducible repeat (first | refine blk_drewN ?_ _ | refine blk_drew ?_ | refine blk_alloc ?_ _)); refine blk_far ?_ NB308_311.out _; (with_reducible repeat (first | refine blk_drewN ?_ _ | refine blk_drew ?_ | refine blk_alloc ?_ _)); refine blk_far ?_ NB308_311.out _; (with_reducible repeat (first | refine blk_drewN ?_ _ | refine blk_drew ?_ | refine blk_alloc ?_ _)); exact BK308.out⟩, ⟨by (with_reducible repeat (first | refine blk_drewN ?_ _ | refine blk_drew ?_ | refine blk_alloc ?_ _)); refine blk_far ?_ NB309_311.out _; (with_reducible repeat (first | refine blk_drewN ?_ _ | refine blk_drew ?_ | refine blk_alloc ?_ _)); refine blk_far ?_ NB309_311.out _; (with_reducible repeat (first | refine blk_drewN ?_ _ | refine blk_drew ?_ | refine blk_alloc ?_ _)); exact BK309.out⟩, ⟨by (with_reducible repeat (first | refine blk_drewN ?_ _ | refine blk_drew ?_ | refine blk_alloc ?_ _)); refine blk_put (cs := #[.int .i64 ((rd_T52 l0_5 x61_2).f0), .int .i64 0]) ?_ 1 _ rfl; (with_reducible repeat (first | refine blk_drewN ?_ _ | refine blk_drew ?_ | refine blk_alloc ?_ _)); refine blk_put (cs := #[.int .i64 0, .int .i64 0]) ?_ 0 _ rfl; (with_reducible repeat (first | refine blk_drewN ?_ _ | refine blk_drew ?_ | refine blk_alloc ?_ _)); exact BK311.out⟩, ⟨bl_⟩⟩
                    rw [if_neg c70] at H
                    exact absurd H (by simp)
                  rw [if_neg c69] at H
                  exact absurd H (by simp)
                rw [if_neg c62] at H
                have c62b0 : decide (0 ≤ ((rd_T52 l0_5 x61_2).f0)) = false := decide_eq_false c62
                clear c62
                have H' := Aside0.mk H
                clear H
                obtain ⟨hcz79_0, hcz79_1, hcz79_2, hcz79_3, hcz79_4⟩ := cells5 BK309
                obtain ⟨hfz79_0, hfz79_1, hfz79_2, hfz79_3, hfz79_4⟩ := fz5 BK309
                have p312 : 0 ≤ (x61_2 : Int) := of_decide_eq_true (by first | (with_reducible assumption) | assumption)
                have q312 : x61_2 < (l1_2.length : Int) := of_decide_eq_true (by first | (with_reducible assumption) | assumption)
                obtain ⟨ad312, e312, hx312_0⟩ := Kd.at_int HR1_2.out x61_2 p312 q312
                cases e312
                have hn312_0 : ad312.block ≠ gb311 := Nat.ne_of_lt (Nat.lt_of_lt_of_le (by have := World.block_lt_of_cell? _ _ hx312_0; first | rwa [add_block] at this | exact this) GW311.out)
                have hn312_1 : ad312.block ≠ gb311 := Nat.ne_of_lt (Nat.lt_of_lt_of_le (by have := World.block_lt_of_cell? _ _ hx312_0; first | rwa [add_block] at this | exact this) GW311.out)
                replace hx312_0 := hc_ HB hx312_0
                replace hx312_0 := (cell_far (p := ⟨gb311, 0, none⟩) (ab_ hn312_0) (.int .i64 ((rd_T52 l0_5 x61_2).f0))).trans hx312_0
                replace hx312_0 := (cell_far (p := ⟨gb311, 1, none⟩) (ab_ hn312_1) (.int .i64 ((rd_T52 l0_5 x61_2).f1))).trans hx312_0
                replace p312 := eq_true p312
                replace q312 := eq_true q312
                have p313 : 0 ≤ (x61_2 : Int) := of_decide_eq_true (by first | (with_reducible assumption) | assumption)
                have q313 : x61_2 < (l1_2.length : Int) := of_decide_eq_true (by first | (with_reducible assumption) | assumption)
                obtain ⟨ad313, e313, hx313_0⟩ := Kd.at_int HR1_2.out x61_2 p313 q313
                obtain rfl : ad312 = ad313 := (by injection e313)
                have hn313_0 : ad312.block ≠ gb311 := Nat.ne_of_lt (Nat.lt_of_lt_of_le (by have := World.block_lt_of_cell? _ _ hx313_0; first | rwa [add_block] at this | exact this) GW311.out)
                have hn313_1 : ad312.block ≠ gb311 := Nat.ne_of_lt (Nat.lt_of_lt_of_le (by have := World.block_lt_of_cell? _ _ hx313_0; first | rwa [add_block] at this | exact this) GW311.out)
                replace hx313_0 := hc_ HB hx313_0
                replace hx313_0 := (cell_far (p := ⟨gb311, 0, none⟩) (ab_ hn313_0) (.int .i64 ((rd_T52 l0_5 x61_2).f0))).trans hx313_0
                replace hx313_0 := (cell_far (p := ⟨gb311, 1, none⟩) (ab_ hn313_1) (.int .i64 ((rd_T52 l0_5 x61_2).f1))).trans hx313_0
                replace p313 := eq_true p313
                replace q313 := eq_true q313
                obtain ⟨hcz81_0, hcz81_1⟩ := cells2 BK311
                obtain ⟨hfz81_0, hfz81_1⟩ := fz2 BK311
                have p314 : 0 ≤ (x61_2 : Int) := of_decide_eq_true (by first | (with_reducible assumption) | assumption)
                have q314 : x61_2 < (l1_4.length : Int) := of_decide_eq_true (by first | (with_reducible assumption) | assumption)
                obtain ⟨ad314, e314, hx314_0⟩ := Kd.at_int HR1_4.out x61_2 p314 q314
                cases e314
                have hn314_0 : ad314.block ≠ gb311 := Nat.ne_of_lt (Nat.lt_of_lt_of_le (by have := World.block_lt_of_cell? _ _ hx314_0; first | rwa [add_block] at this | exact this) GW311.out)
                have hn314_1 : ad314.block ≠ gb311 := Nat.ne_of_lt (Nat.lt_of_lt_of_le (by have := World.block_lt_of_cell? _ _ hx314_0; first | rwa [add_block] at this | exact this) GW311.out)
                replace hx314_0 := hc_ HB hx314_0
                replace hx314_0 := (cell_far (p := ⟨gb311, 0, none⟩) (ab_ hn314_0) (.int .i64 ((rd_T52 l0_5 x61_2).f0))).trans hx314_0
                replace hx314_0 := (cell_far (p := ⟨gb311, 1, none⟩) (ab_ hn314_1) (.int .i64 ((rd_T52 l0_5 x61_2).f1))).trans hx314_0
                replace p314 := eq_true p314
                replace q314 := eq_true q314
                go_wp2
                repeat (go_quiet (fail); try go_wp2)
                go_meet
                case rel => exact ⟨_, (false), (by first | rfl | (simp; done) | (simp [*]; done)), H', ⟨by have := HJ2.out; have := HK2.out; first | omega | exact Nat.le_refl _⟩, ⟨by (with_reducible repeat (first | refine blk_drewN ?_ _ | refine blk_drew ?_ | refine blk_alloc ?_ _)); refine blk_far ?_ NB308_311.out _; (with_reducible repeat (first | refine blk_drewN ?_ _ | refine blk_drew ?_ | refine blk_alloc ?_ _)); refine blk_far ?_ NB308_311.out _; (with_reducible repeat (first | refine blk_drewN ?_ _ | refine blk_drew ?_ | refine blk_alloc ?_ _)); exact BK308.out⟩, ⟨by (with_reducible repeat (first | refine blk_drewN ?_ _ | refine blk_drew ?_ | refine blk_alloc ?_ _)); refine blk_far ?_ NB309_311.out _; (with_reducible repeat (first | refine blk_drewN ?_ _ | refine blk_drew ?_ | refine blk_alloc ?_ _)); refine blk_far ?_ NB309_311.out _; (with_reducible repeat (first | refine blk_drewN ?_ _ | refine blk_drew ?_ | refine blk_alloc ?_ _)); exact BK309.out⟩, ⟨by (with_reducible repeat (first | refine blk_drewN ?_ _ | refine blk_drew ?_ | refine blk_alloc ?_ _)); refine blk_put (cs := #[.int .i64 ((rd_T52 l0_5 x61_2).f0), .int .i64 0]) ?_ 1 _ rfl; (with_reducible repeat (first | refine blk_drewN ?_ _ | refine blk_drew ?_ | refine blk_alloc ?_ _)); refine blk_put (cs := #[.int .i64 0, .int .i64 0]) ?_ 0 _ rfl; (with_reducible repeat (first | refine blk_drewN ?_ _ | refine blk_drew ?_ | refine blk_alloc ?_ _)); exact BK311.out⟩, ⟨bl_⟩⟩
              rw [if_neg c61] at H
              have c61b0 : ((rd l1_4 x61_2) == (-1)) = false := beq_eq_false_iff_ne.mpr c61
              have c61b1 : ((rd l1_4 x61_2) != (-1)) = true := bne_iff_ne.mpr c61
              have H' := Aside0.mk H
              clear H
              obtain ⟨hcz84_0, hcz84_1, hcz84_2, hcz84_3, hcz84_4⟩ := cells5 BK309
              obtain ⟨hfz84_0, hfz84_1, hfz84_2, hfz84_3, hfz84_4⟩ := fz5 BK309
              have p312 : 0 ≤ (x61_2 : Int) := of_decide_eq_true (by first | (with_reducible assumption) | assumption)
              have q312 : x61_2 < (l1_2.length : Int) := of_decide_eq_true (by first | (with_reducible assumption) | assumption)
              obtain ⟨ad312, e312, hx312_0⟩ := Kd.at_int HR1_2.out x61_2 p312 q312
              cases e312
              have hn312_0 : ad312.block ≠ gb311 := Nat.ne_of_lt (Nat.lt_of_lt_of_le (by have := World.block_lt_of_cell? _ _ hx312_0; first | rwa [add_block] at this | exact this) GW311.out)
              have hn312_1 : ad312.block ≠ gb311 := Nat.ne_of_lt (Nat.lt_of_lt_of_le (by have := World.block_lt_of_cell? _ _ hx312_0; first | rwa [add_block] at this | exact this) GW311.out)
              replace hx312_0 := hc_ HB hx312_0
              replace hx312_0 := (cell_far (p := ⟨gb311, 0, none⟩) (ab_ hn312_0) (.int .i64 ((rd_T52 l0_5 x61_2).f0))).trans hx312_0
              replace hx312_0 := (cell_far (p := ⟨gb311, 1, none⟩) (ab_ hn312_1) (.int .i64 ((rd_T52 l0_5 x61_2).f1))).trans hx312_0
              replace p312 := eq_true p312
              replace q312 := eq_true q312
              have p313 : 0 ≤ (x61_2 : Int) := of_decide_eq_true (by first | (with_reducible assumption) | assumption)
              have q313 : x61_2 < (l1_2.length : Int) := of_decide_eq_true (by first | (with_reducible assumption) | assumption)
              obtain ⟨ad313, e313, hx313_0⟩ := Kd.at_int HR1_2.out x61_2 p313 q313
              obtain rfl : ad312 = ad313 := (by injection e313)
              have hn313_0 : ad312.block ≠ gb311 := Nat.ne_of_lt (Nat.lt_of_lt_of_le (by have := World.block_lt_of_cell? _ _ hx313_0; first | rwa [add_block] at this | exact this) GW311.out)
              have hn313_1 : ad312.block ≠ gb311 := Nat.ne_of_lt (Nat.lt_of_lt_of_le (by have := World.block_lt_of_cell? _ _ hx313_0; first | rwa [add_block] at this | exact this) GW311.out)
              replace hx313_0 := hc_ HB hx313_0
              replace hx313_0 := (cell_far (p := ⟨gb311, 0, none⟩) (ab_ hn313_0) (.int .i64 ((rd_T52 l0_5 x61_2).f0))).trans hx313_0
              replace hx313_0 := (cell_far (p := ⟨gb311, 1, none⟩) (ab_ hn313_1) (.int .i64 ((rd_T52 l0_5 x61_2).f1))).trans hx313_0
              replace p313 := eq_true p313
              replace q313 := eq_true q313
              obtain ⟨hcz86_0, hcz86_1⟩ := cells2 BK311
              obtain ⟨hfz86_0, hfz86_1⟩ := fz2 BK311
              have p314 : 0 ≤ (x61_2 : Int) := of_decide_eq_true (by first | (with_reducible assumption) | assumption)
              have q314 : x61_2 < (l1_4.length : Int) := of_decide_eq_true (by first | (with_reducible assumption) | assumption)
              obtain ⟨ad314, e314, hx314_0⟩ := Kd.at_int HR1_4.out x61_2 p314 q314
              cases e314
              have hn314_0 : ad314.block ≠ gb311 := Nat.ne_of_lt (Nat.lt_of_lt_of_le (by have := World.block_lt_of_cell? _ _ hx314_0; first | rwa [add_block] at this | exact this) GW311.out)
              have hn314_1 : ad314.block ≠ gb311 := Nat.ne_of_lt (Nat.lt_of_lt_of_le (by have := World.block_lt_of_cell? _ _ hx314_0; first | rwa [add_block] at this | exact this) GW311.out)
              replace hx314_0 := hc_ HB hx314_0
              replace hx314_0 := (cell_far (p := ⟨gb311, 0, none⟩) (ab_ hn314_0) (.int .i64 ((rd_T52 l0_5 x61_2).f0))).trans hx314_0
              replace hx314_0 := (cell_far (p := ⟨gb311, 1, none⟩) (ab_ hn314_1) (.int .i64 ((rd_T52 l0_5 x61_2).f1))).trans hx314_0
              replace p314 := eq_true p314
              replace q314 := eq_true q314
              go_wp2
              repeat (go_quiet (fail); try go_wp2)
              go_meet
              case rel => exact ⟨_, (true), (by first | rfl | (simp; done) | (simp [*]; done)), H', ⟨by have := HJ2.out; have := HK2.out; first | omega | exact Nat.le_refl _⟩, ⟨by (with_reducible repeat (first | refine blk_drewN ?_ _ | refine blk_drew ?_ | refine blk_alloc ?_ _)); refine blk_far ?_ NB308_311.out _; (with_reducible repeat (first | refine blk_drewN ?_ _ | refine blk_drew ?_ | refine blk_alloc ?_ _)); refine blk_far ?_ NB308_311.out _; (with_reducible repeat (first | refine blk_drewN ?_ _ | refine blk_drew ?_ | refine blk_alloc ?_ _)); exact BK308.out⟩, ⟨by (with_reducible repeat (first | refine blk_drewN ?_ _ | refine blk_drew ?_ | refine blk_alloc ?_ _)); refine blk_far ?_ NB309_311.out _; (with_reducible repeat (first | refine blk_drewN ?_ _ | refine blk_drew ?_ | refine blk_alloc ?_ _)); refine blk_far ?_ NB309_311.out _; (with_reducible repeat (first | refine blk_drewN ?_ _ | refine blk_drew ?_ | refine blk_alloc ?_ _)); exact BK309.out⟩, ⟨by (with_reducible repeat (first | refine blk_drewN ?_ _ | refine blk_drew ?_ | refine blk_alloc ?_ _)); refine blk_put (cs := #[.int .i64 ((rd_T52 l0_5 x61_2).f0), .int .i64 0]) ?_ 1 _ rfl; (with_reducible repeat (first | refine blk_drewN ?_ _ | refine blk_drew ?_ | refine blk_alloc ?_ _)); refine blk_put (cs := #[.int .i64 0, .int .i64 0]) ?_ 0 _ rfl; (with_reducible repeat (first | refine blk_drewN ?_ _ | refine blk_drew ?_ | refine blk_alloc ?_ _)); exact BK311.out⟩, ⟨bl_⟩⟩
            rw [if_neg c60] at H
            exact absurd H (by simp)
          rw [if_neg c59] at H
          have c59b0 : decide (((rd_T52 l0_5 x61_2).f0) < 0) = false := decide_eq_false c59
          clear c59
          by_cases c87 : ((rd_T52 l0_5 x61_2).f0) ≥ 0
          · rw [if_pos c87] at H
            have c87b0 : decide (0 ≤ ((rd_T52 l0_5 x61_2).f0)) = true := decide_eq_true c87
            clear c87
            by_cases c88 : x61_2 < (l1_4.length : Int)
            · rw [if_pos c88] at H
              have c88b0 : decide (x61_2 < (l1_4.length : Int)) = true := decide_eq_true c88
              clear c88
              by_cases c89 : (rd l1_4 x61_2) < 0
              · rw [if_pos c89] at H
                have c89b0 : decide ((rd l1_4 x61_2) < 0) = true := decide_eq_true c89
                clear c89
                have H' := Aside0.mk H
                clear H
                obtain ⟨hcz92_0, hcz92_1, hcz92_2, hcz92_3, hcz92_4⟩ := cells5 BK309
                obtain ⟨hfz92_0, hfz92_1, hfz92_2, hfz92_3, hfz92_4⟩ := fz5 BK309
                have p312 : 0 ≤ (x61_2 : Int) := of_decide_eq_true (by first | (with_reducible assumption) | assumption)
                have q312 : x61_2 < (l1_2.length : Int) := of_decide_eq_true (by first | (with_reducible assumption) | assumption)
                obtain ⟨ad312, e312, hx312_0⟩ := Kd.at_int HR1_2.out x61_2 p312 q312
                cases e312
                have hn312_0 : ad312.block ≠ gb311 := Nat.ne_of_lt (Nat.lt_of_lt_of_le (by have := World.block_lt_of_cell? _ _ hx312_0; first | rwa [add_block] at this | exact this) GW311.out)
                have hn312_1 : ad312.block ≠ gb311 := Nat.ne_of_lt (Nat.lt_of_lt_of_le (by have := World.block_lt_of_cell? _ _ hx312_0; first | rwa [add_block] at this | exact this) GW311.out)
                replace hx312_0 := hc_ HB hx312_0
                replace hx312_0 := (cell_far (p := ⟨gb311, 0, none⟩) (ab_ hn312_0) (.int .i64 ((rd_T52 l0_5 x61_2).f0))).trans hx312_0
                replace hx312_0 := (cell_far (p := ⟨gb311, 1, none⟩) (ab_ hn312_1) (.int .i64 ((rd_T52 l0_5 x61_2).f1))).trans hx312_0
                replace p312 := eq_true p312
                replace q312 := eq_true q312
                have p313 : 0 ≤ (x61_2 : Int) := of_decide_eq_true (by first | (with_reducible assumption) | assumption)
                have q313 : x61_2 < (l1_2.length : Int) := of_decide_eq_true (by first | (with_reducible assumption) | assumption)
                obtain ⟨ad313, e313, hx313_0⟩ := Kd.at_int HR1_2.out x61_2 p313 q313
                obtain rfl : ad312 = ad313 := (by injection e313)
                have hn313_0 : ad312.block ≠ gb311 := Nat.ne_of_lt (Nat.lt_of_lt_of_le (by have := World.block_lt_of_cell? _ _ hx313_0; first | rwa [add_block] at this | exact this) GW311.out)
                have hn313_1 : ad312.block ≠ gb311 := Nat.ne_of_lt (Nat.lt_of_lt_of_le (by have := World.block_lt_of_cell? _ _ hx313_0; first | rwa [add_block] at this | exact this) GW311.out)
                replace hx313_0 := hc_ HB hx313_0
                replace hx313_0 := (cell_far (p := ⟨gb311, 0, none⟩) (ab_ hn313_0) (.int .i64 ((rd_T52 l0_5 x61_2).f0))).trans hx313_0
                replace hx313_0 := (cell_far (p := ⟨gb311, 1, none⟩) (ab_ hn313_1) (.int .i64 ((rd_T52 l0_5 x61_2).f1))).trans hx313_0
                replace p313 := eq_true p313
                replace q313 := eq_true q313
                obtain ⟨hcz94_0, hcz94_1⟩ := cells2 BK311
                obtain ⟨hfz94_0, hfz94_1⟩ := fz2 BK311
                have p318 : 0 ≤ (x61_2 : Int) := of_decide_eq_true (by first | (with_reducible assumption) | assumption)
                have q318 : x61_2 < (l1_4.length : Int) := of_decide_eq_true (by first | (with_reducible assumption) | assumption)
                obtain ⟨ad318, e318, hx318_0⟩ := Kd.at_int HR1_4.out x61_2 p318 q318
                cases e318
                have hn318_0 : ad318.block ≠ gb311 := Nat.ne_of_lt (Nat.lt_of_lt_of_le (by have := World.block_lt_of_cell? _ _ hx318_0; first | rwa [add_block] at this | exact this) GW311.out)
                have hn318_1 : ad318.block ≠ gb311 := Nat.ne_of_lt (Nat.lt_of_lt_of_le (by have := World.block_lt_of_cell? _ _ hx318_0; first | rwa [add_block] at this | exact this) GW311.out)
                replace hx318_0 := hc_ HB hx318_0
                replace hx318_0 := (cell_far (p := ⟨gb311, 0, none⟩) (ab_ hn318_0) (.int .i64 ((rd_T52 l0_5 x61_2).f0))).trans hx318_0
                replace hx318_0 := (cell_far (p := ⟨gb311, 1, none⟩) (ab_ hn318_1) (.int .i64 ((rd_T52 l0_5 x61_2).f1))).trans hx318_0
                replace p318 := eq_true p318
                replace q318 := eq_true q318
                go_wp2
                repeat (go_quiet (fail); try go_wp2)
                go_meet
                case rel => exact ⟨_, (true), (by first | rfl | (simp; done) | (simp [*]; done)), H', ⟨by have := HJ2.out; have := HK2.out; first | omega | exact Nat.le_refl _⟩, ⟨by (with_reducible repeat (first | refine blk_drewN ?_ _ | refine blk_drew ?_ | refine blk_alloc ?_ _)); refine blk_far ?_ NB308_311.out _; (with_reducible repeat (first | refine blk_drewN ?_ _ | refine blk_drew ?_ | refine blk_alloc ?_ _)); refine blk_far ?_ NB308_311.out _; (with_reducible repeat (first | refine blk_drewN ?_ _ | refine blk_drew ?_ | refine blk_alloc ?_ _)); exact BK308.out⟩, ⟨by (with_reducible repeat (first | refine blk_drewN ?_ _ | refine blk_drew ?_ | refine blk_alloc ?_ _)); refine blk_far ?_ NB309_311.out _; (with_reducible repeat (first | refine blk_drewN ?_ _ | refine blk_drew ?_ | refine blk_alloc ?_ _)); refine blk_far ?_ NB309_311.out _; (with_reducible repeat (first | refine blk_drewN ?_ _ | refine blk_drew ?_ | refine blk_alloc ?_ _)); exact BK309.out⟩, ⟨by (with_reducible repeat (first | refine blk_drewN ?_ _ | refine blk_drew ?_ | refine blk_alloc ?_ _)); refine blk_put (cs := #[.int .i64 ((rd_T52 l0_5 x61_2).f0), .int .i64 0]) ?_ 1 _ rfl; (with_reducible repeat (first | refine blk_drewN ?_ _ | refine blk_drew ?_ | refine blk_alloc ?_ _)); refine blk_put (cs := #[.int .i64 0, .int .i64 0]) ?_ 0 _ rfl; (with_reducible repeat (first | refine blk_drewN ?_ _ | refine blk_drew ?_ | refine blk_alloc ?_ _)); exact BK311.out⟩, ⟨bl_⟩⟩
              rw [if_neg c89] at H
              have c89b0 : decide ((rd l1_4 x61_2) < 0) = false := decide_eq_false c89
              clear c89
              by_cases c95 : 0 ≤ ((rd_T52 l0_5 x61_2).f0)
              · rw [if_pos c95] at H
                have c95b0 : decide (0 ≤ ((rd_T52 l0_5 x61_2).f0)) = true := decide_eq_true c95
                clear c95
                by_cases c96 : ((rd_T52 l0_5 x61_2).f0) < (l0_4.length : Int)
                · rw [if_pos c96] at H
                  have c96b0 : decide (((rd_T52 l0_5 x61_2).f0) < (l0_4.length : Int)) = true := decide_eq_true c96
                  clear c96
                  have H' := Aside0.mk H
                  clear H
                  obtain ⟨hcz99_0, hcz99_1, hcz99_2, hcz99_3, hcz99_4⟩ := cells5 BK309
                  obtain ⟨hfz99_0, hfz99_1, hfz99_2, hfz99_3, hfz99_4⟩ := fz5 BK309
                  have p312 : 0 ≤ (x61_2 : Int) := of_decide_eq_true (by first | (with_reducible assumption) | assumption)
                  have q312 : x61_2 < (l1_2.length : Int) := of_decide_eq_true (by first | (with_reducible assumption) | assumption)
                  obtain ⟨ad312, e312, hx312_0⟩ := Kd.at_int HR1_2.out x61_2 p312 q312
                  cases e312
                  have hn312_0 : ad312.block ≠ gb311 := Nat.ne_of_lt (Nat.lt_of_lt_of_le (by have := World.block_lt_of_cell? _ _ hx312_0; first | rwa [add_block] at this | exact this) GW311.out)
                  have hn312_1 : ad312.block ≠ gb311 := Nat.ne_of_lt (Nat.lt_of_lt_of_le (by have := World.block_lt_of_cell? _ _ hx312_0; first | rwa [add_block] at this | exact this) GW311.out)
                  replace hx312_0 := hc_ HB hx312_0
                  replace hx312_0 := (cell_far (p := ⟨gb311, 0, none⟩) (ab_ hn312_0) (.int .i64 ((rd_T52 l0_5 x61_2).f0))).trans hx312_0
                  replace hx312_0 := (cell_far (p := ⟨gb311, 1, none⟩) (ab_ hn312_1) (.int .i64 ((rd_T52 l0_5 x61_2).f1))).trans hx312_0
                  replace p312 := eq_true p312
                  replace q312 := eq_true q312
                  have p313 : 0 ≤ (x61_2 : Int) := of_decide_eq_true (by first | (with_reducible assumption) | assumption)
                  have q313 : x61_2 < (l1_2.length : Int) := of_decide_eq_true (by first | (with_reducible assumption) | assumption)
                  obtain ⟨ad313, e313, hx313_0⟩ := Kd.at_int HR1_2.out x61_2 p313 q313
                  obtain rfl : ad312 = ad313 := (by injection e313)
                  have hn313_0 : ad312.block ≠ gb311 := Nat.ne_of_lt (Nat.lt_of_lt_of_le (by have := World.block_lt_of_cell? _ _ hx313_0; first | rwa [add_block] at this | exact this) GW311.out)
                  have hn313_1 : ad312.block ≠ gb311 := Nat.ne_of_lt (Nat.lt_of_lt_of_le (by have := World.block_lt_of_cell? _ _ hx313_0; first | rwa [add_block] at this | exact this) GW311.out)
                  replace hx313_0 := hc_ HB hx313_0
                  replace hx313_0 := (cell_far (p := ⟨gb311, 0, none⟩) (ab_ hn313_0) (.int .i64 ((rd_T52 l0_5 x61_2).f0))).trans hx313_0
                  replace hx313_0 := (cell_far (p := ⟨gb311, 1, none⟩) (ab_ hn313_1) (.int .i64 ((rd_T52 l0_5 x61_2).f1))).trans hx313_0
                  replace p313 := eq_true p313
                  replace q313 := eq_true q313
                  obtain ⟨hcz101_0, hcz101_1⟩ := cells2 BK311
                  obtain ⟨hfz101_0, hfz101_1⟩ := fz2 BK311
                  have p318 : 0 ≤ (x61_2 : Int) := of_decide_eq_true (by first | (with_reducible assumption) | assumption)
                  have q318 : x61_2 < (l1_4.length : Int) := of_decide_eq_true (by first | (with_reducible assumption) | assumption)
                  obtain ⟨ad318, e318, hx318_0⟩ := Kd.at_int HR1_4.out x61_2 p318 q318
                  cases e318
                  have hn318_0 : ad318.block ≠ gb311 := Nat.ne_of_lt (Nat.lt_of_lt_of_le (by have := World.block_lt_of_cell? _ _ hx318_0; first | rwa [add_block] at this | exact this) GW311.out)
                  have hn318_1 : ad318.block ≠ gb311 := Nat.ne_of_lt (Nat.lt_of_lt_of_le (by have := World.block_lt_of_cell? _ _ hx318_0; first | rwa [add_block] at this | exact this) GW311.out)
                  replace hx318_0 := hc_ HB hx318_0
                  replace hx318_0 := (cell_far (p := ⟨gb311, 0, none⟩) (ab_ hn318_0) (.int .i64 ((rd_T52 l0_5 x61_2).f0))).trans hx318_0
                  replace hx318_0 := (cell_far (p := ⟨gb311, 1, none⟩) (ab_ hn318_1) (.int .i64 ((rd_T52 l0_5 x61_2).f1))).trans hx318_0
                  replace p318 := eq_true p318
                  replace q318 := eq_true q318
                  have p319 : 0 ≤ (x61_2 : Int) := of_decide_eq_true (by first | (with_reducible assumption) | assumption)
                  have q319 : x61_2 < (l1_4.length : Int) := of_decide_eq_true (by first | (with_reducible assumption) | assumption)
                  obtain ⟨ad319, e319, hx319_0⟩ := Kd.at_int HR1_4.out x61_2 p319 q319
                  obtain rfl : ad318 = ad319 := (by injection e319)
                  have hn319_0 : ad318.block ≠ gb311 := Nat.ne_of_lt (Nat.lt_of_lt_of_le (by have := World.block_lt_of_cell? _ _ hx319_0; first | rwa [add_block] at this | exact this) GW311.out)
                  have hn319_1 : ad318.block ≠ gb311 := Nat.ne_of_lt (Nat.lt_of_lt_of_le (by have := World.block_lt_of_cell? _ _ hx319_0; first | rwa [add_block] at this | exact this) GW311.out)
                  replace hx319_0 := hc_ HB hx319_0
                  replace hx319_0 := (cell_far (p := ⟨gb311, 0, none⟩) (ab_ hn319_0) (.int .i64 ((rd_T52 l0_5 x61_2).f0))).trans hx319_0
                  replace hx319_0 := (cell_far (p := ⟨gb311, 1, none⟩) (ab_ hn319_1) (.int .i64 ((rd_T52 l0_5 x61_2).f1))).trans hx319_0
                  replace p319 := eq_true p319
                  replace q319 := eq_true q319
                  obtain ⟨hcz102_0, hcz102_1, hcz102_2, hcz102_3, hcz102_4, hcz102_5⟩ := cells6 BK308
                  obtain ⟨hfz102_0, hfz102_1, hfz102_2, hfz102_3, hfz102_4, hfz102_5⟩ := fz6 BK308
                  have p320 : 0 ≤ (((rd_T52 l0_5 x61_2).f0) : Int) := of_decide_eq_true (by first | (with_reducible assumption) | assumption)
                  have q320 : ((rd_T52 l0_5 x61_2).f0) < (l0_4.length : Int) := of_decide_eq_true (by first | (with_reducible assumption) | assumption)
                  obtain ⟨ad320, e320, hx320_0, hx320_1, hx320_2, hx320_3⟩ := at_T50 HR0_4.out ((rd_T52 l0_5 x61_2).f0) p320 q320
                  cases e320
                  have hn320_0 : ad320.block ≠ gb311 := Nat.ne_of_lt (Nat.lt_of_lt_of_le (by have := World.block_lt_of_cell? _ _ hx320_0; first | rwa [add_block] at this | exact this) GW311.out)
                  have hn320_1 : ad320.block ≠ gb311 := Nat.ne_of_lt (Nat.lt_of_lt_of_le (by have := World.block_lt_of_cell? _ _ hx320_0; first | rwa [add_block] at this | exact this) GW311.out)
                  replace hx320_0 := hc_ HB hx320_0
                  replace hx320_1 := hc_ HB hx320_1
                  replace hx320_2 := hc_ HB hx320_2
                  replace hx320_3 := hc_ HB hx320_3
                  replace hx320_0 := (cell_far (p := ⟨gb311, 0, none⟩) (ab_ hn320_0) (.int .i64 ((rd_T52 l0_5 x61_2).f0))).trans hx320_0
                  replace hx320_1 := (cell_far (p := ⟨gb311, 0, none⟩) (ab_ hn320_0) (.int .i64 ((rd_T52 l0_5 x61_2).f0))).trans hx320_1
                  replace hx320_2 := (cell_far (p := ⟨gb311, 0, none⟩) (ab_ hn320_0) (.int .i64 ((rd_T52 l0_5 x61_2).f0))).trans hx320_2
                  replace hx320_3 := (cell_far (p := ⟨gb311, 0, none⟩) (ab_ hn320_0) (.int .i64 ((rd_T52 l0_5 x61_2).f0))).trans hx320_3
                  replace hx320_0 := (cell_far (p := ⟨gb311, 1, none⟩) (ab_ hn320_1) (.int .i64 ((rd_T52 l0_5 x61_2).f1))).trans hx320_0
                  replace hx320_1 := (cell_far (p := ⟨gb311, 1, none⟩) (ab_ hn320_1) (.int .i64 ((rd_T52 l0_5 x61_2).f1))).trans hx320_1
                  replace hx320_2 := (cell_far (p := ⟨gb311, 1, none⟩) (ab_ hn320_1) (.int .i64 ((rd_T52 l0_5 x61_2).f1))).trans hx320_2
                  replace hx320_3 := (cell_far (p := ⟨gb311, 1, none⟩) (ab_ hn320_1) (.int .i64 ((rd_T52 l0_5 x61_2).f1))).trans hx320_3
                  replace p320 := eq_true p320
                  replace q320 := eq_true q320
                  go_wp2
                  repeat (go_quiet (fail); try go_wp2)
                  go_meet
                  case rel => exact ⟨_, (decide ((rd l1_4 x61_2) ≥ ((rd_T50 l0_4 ((rd_T52 l0_5 x61_2).f0)).f3))), (by first | rfl | (simp; done) | (simp [*]; done)), H', ⟨by have := HJ2.out; have := HK2.out; first | omega | exact Nat.le_refl _⟩, ⟨by (with_reducible repeat (first | refine blk_drewN ?_ _ | refine blk_drew ?_ | refine blk_alloc ?_ _)); refine blk_far ?_ NB308_311.out _; (with_reducible repeat (first | refine blk_drewN ?_ _ | refine blk_drew ?_ | refine blk_alloc ?_ _)); refine blk_far ?_ NB308_311.out _; (with_reducible repeat (first | refine blk_drewN ?_ _ | refine blk_drew ?_ | refine blk_alloc ?_ _)); exact BK308.out⟩, ⟨by (with_reducible repeat (first | refine blk_drewN ?_ _ | refine blk_drew ?_ | refine blk_alloc ?_ _)); refine blk_far ?_ NB309_311.out _; (with_reducible repeat (first | refine blk_drewN ?_ _ | refine blk_drew ?_ | refine blk_alloc ?_ _)); refine blk_far ?_ NB309_311.out _; (with_reducible repeat (first | refine blk_drewN ?_ _ | refine blk_drew ?_ | refine blk_alloc ?_ _)); exact BK309.out⟩, ⟨by (with_reducible repeat (first | refine blk_drewN ?_ _ | refine blk_drew ?_ | refine blk_alloc ?_ _)); refine blk_put (cs := #[.int .i64 ((rd_T52 l0_5 x61_2).f0), .int .i64 0]) ?_ 1 _ rfl; (with_reducible repeat (first | refine blk_drewN ?_ _ | refine blk_drew ?_ | refine blk_alloc ?_ _)); refine blk_put (cs := #[.int .i64 0, .int .i64 0]) ?_ 0 _ rfl; (with_reducible repeat (first | refine blk_drewN ?_ _ | refine blk_drew ?_ | refine blk_alloc ?_ _)); exact BK311.out⟩, ⟨bl_⟩⟩
                rw [if_neg c96] at H
                exact absurd H (by simp)
              rw [if_neg c95] at H
              exact absurd H (by simp)
            rw [if_neg c88] at H
            exact absurd H (by simp)
          rw [if_neg c87] at H
          have c87b0 : decide (0 ≤ ((rd_T52 l0_5 x61_2).f0)) = false := decide_eq_false c87
          clear c87
          have H' := Aside0.mk H
          clear H
          obtain ⟨hcz105_0, hcz105_1, hcz105_2, hcz105_3, hcz105_4⟩ := cells5 BK309
          obtain ⟨hfz105_0, hfz105_1, hfz105_2, hfz105_3, hfz105_4⟩ := fz5 BK309
          have p312 : 0 ≤ (x61_2 : Int) := of_decide_eq_true (by first | (with_reducible assumption) | assumption)
          have q312 : x61_2 < (l1_2.length : Int) := of_decide_eq_true (by first | (with_reducible assumption) | assumption)
          obtain ⟨ad312, e312, hx312_0⟩ := Kd.at_int HR1_2.out x61_2 p312 q312
          cases e312
          have hn312_0 : ad312.block ≠ gb311 := Nat.ne_of_lt (Nat.lt_of_lt_of_le (by have := World.block_lt_of_cell? _ _ hx312_0; first | rwa [add_block] at this | exact this) GW311.out)
          have hn312_1 : ad312.block ≠ gb311 := Nat.ne_of_lt (Nat.lt_of_lt_of_le (by have := World.block_lt_of_cell? _ _ hx312_0; first | rwa [add_block] at this | exact this) GW311.out)
          replace hx312_0 := hc_ HB hx312_0
          replace hx312_0 := (cell_far (p := ⟨gb311, 0, none⟩) (ab_ hn312_0) (.int .i64 ((rd_T52 l0_5 x61_2).f0))).trans hx312_0
          replace hx312_0 := (cell_far (p := ⟨gb311, 1, none⟩) (ab_ hn312_1) (.int .i64 ((rd_T52 l0_5 x61_2).f1))).trans hx312_0
          replace p312 := eq_true p312
          replace q312 := eq_true q312
          have p313 : 0 ≤ (x61_2 : Int) := of_decide_eq_true (by first | (with_reducible assumption) | assumption)
          have q313 : x61_2 < (l1_2.length : Int) := of_decide_eq_true (by first | (with_reducible assumption) | assumption)
          obtain ⟨ad313, e313, hx313_0⟩ := Kd.at_int HR1_2.out x61_2 p313 q313
          obtain rfl : ad312 = ad313 := (by injection e313)
          have hn313_0 : ad312.block ≠ gb311 := Nat.ne_of_lt (Nat.lt_of_lt_of_le (by have := World.block_lt_of_cell? _ _ hx313_0; first | rwa [add_block] at this | exact this) GW311.out)
          have hn313_1 : ad312.block ≠ gb311 := Nat.ne_of_lt (Nat.lt_of_lt_of_le (by have := World.block_lt_of_cell? _ _ hx313_0; first | rwa [add_block] at this | exact this) GW311.out)
          replace hx313_0 := hc_ HB hx313_0
          replace hx313_0 := (cell_far (p := ⟨gb311, 0, none⟩) (ab_ hn313_0) (.int .i64 ((rd_T52 l0_5 x61_2).f0))).trans hx313_0
          replace hx313_0 := (cell_far (p := ⟨gb311, 1, none⟩) (ab_ hn313_1) (.int .i64 ((rd_T52 l0_5 x61_2).f1))).trans hx313_0
          replace p313 := eq_true p313
          replace q313 := eq_true q313
          obtain ⟨hcz107_0, hcz107_1⟩ := cells2 BK311
          obtain ⟨hfz107_0, hfz107_1⟩ := fz2 BK311
          go_wp2
          repeat (go_quiet (fail); try go_wp2)
          go_meet
          case rel => exact ⟨_, (false), (by first | rfl | (simp; done) | (simp [*]; done)), H', ⟨by have := HJ2.out; have := HK2.out; first | omega | exact Nat.le_refl _⟩, ⟨by (with_reducible repeat (first | refine blk_drewN ?_ _ | refine blk_drew ?_ | refine blk_alloc ?_ _)); refine blk_far ?_ NB308_311.out _; (with_reducible repeat (first | refine blk_drewN ?_ _ | refine blk_drew ?_ | refine blk_alloc ?_ _)); refine blk_far ?_ NB308_311.out _; (with_reducible repeat (first | refine blk_drewN ?_ _ | refine blk_drew ?_ | refine blk_alloc ?_ _)); exact BK308.out⟩, ⟨by (with_reducible repeat (first | refine blk_drewN ?_ _ | refine blk_drew ?_ | refine blk_alloc ?_ _)); refine blk_far ?_ NB309_311.out _; (with_reducible repeat (first | refine blk_drewN ?_ _ | refine blk_drew ?_ | refine blk_alloc ?_ _)); refine blk_far ?_ NB309_311.out _; (with_reducible repeat (first | refine blk_drewN ?_ _ | refine blk_drew ?_ | refine blk_alloc ?_ _)); exact BK309.out⟩, ⟨by (with_reducible repeat (first | refine blk_drewN ?_ _ | refine blk_drew ?_ | refine blk_alloc ?_ _)); refine blk_put (cs := #[.int .i64 ((rd_T52 l0_5 x61_2).f0), .int .i64 0]) ?_ 1 _ rfl; (with_reducible repeat (first | refine blk_drewN ?_ _ | refine blk_drew ?_ | refine blk_alloc ?_ _)); refine blk_put (cs := #[.int .i64 0, .int .i64 0]) ?_ 0 _ rfl; (with_reducible repeat (first | refine blk_drewN ?_ _ | refine blk_drew ?_ | refine blk_alloc ?_ _)); exact BK311.out⟩, ⟨bl_⟩⟩
        rw [if_neg c50] at H
        exact absurd H (by simp)
       clear HC43
       obtain ⟨kq, x123_42, rfl, HA, HJ42, BK308, BK309, BK311, HB⟩ := hcut
       cases kq with
       | zero => exact absurd HA.out (by simp [jacquardref28_Fits.j2])
       | succ kj42 => ?_
       have H := HA.out
       clear HA
       simp only [jacquardref28_Fits.j2] at H
       by_cases c108 : x123_42 = true
       · subst c108
         have H1 : (some false) = some r := by rw [if_pos rfl] at H; exact H
         clear H
         have H := H1
         clear H1
         obtain rfl := Option.some.inj H
         go_wp2
         repeat (go_quiet (fail); try go_wp2)
         go_ret
         exact ⟨by first | rfl | (simp [errW_none, errW_some] <;> rfl) | (simp [*, errW_none, errW_some] <;> rfl), by repeat (first | (with_reducible first | exact HB.out | apply below_alloc | apply pw_below_drewN | apply below_drew1 | refine below_set ?_ GE308.out | refine below_set ?_ GE309.out | refine below_set ?_ GE311.out) | exact HB.out)⟩
       replace c108 := Bool.eq_false_iff.mpr c108
       subst c108
       have H1 : (jacquardref28_Fits.l0 kj42 (l1_2.length : Int) (wrap64 (x61_2 + 1)) a0_0 a0_1 a0_2 l0_3 l0_4 l0_5 a1_0 a1_1 l1_2 l1_3 l1_4) = some r := by rw [if_neg (show ¬ (false = true) by decide)] at H; exact H
       clear H
       have H := H1
       clear H1
       have H' := Aside0.mk H
       clear H
       go_wp2
       repeat (go_quiet (fail); try go_wp2)
       go_roundg kj42
       case measure => have := HJ2.out; have := HK2.out; have := HJ42.out; omega
       case rel => exact ⟨(wrap64 (x61_2 + 1)), (by first | rfl | (simp; done) | (simp [*]; done)), H', ⟨by have := HJ2.out; have := HK2.out; have := HJ42.out; omega⟩, ⟨K_ BK308⟩, ⟨K_ BK309⟩, ⟨bl_⟩⟩
     rw [if_neg c42] at H
     exact absurd H (by simp)
   rw [if_neg c41] at H
   exact absurd H (by simp)
 rw [if_neg c40] at H
 have c40b0 : decide (x61_2 < (l1_2.length : Int)) = false := decide_eq_false c40
 clear c40
 have H' := Aside0.mk H
 clear H
 obtain ⟨hcz110_0, hcz110_1, hcz110_2, hcz110_3, hcz110_4⟩ := cells5 BK309
 obtain ⟨hfz110_0, hfz110_1, hfz110_2, hfz110_3, hfz110_4⟩ := fz5 BK309
 go_wp2
 repeat (go_quiet (fail); try go_wp2)
 go_loopg [128] k2 (fun kq v128 w' => ∃ (x128_3 : Int), v128 = .int .i64 x128_3 ∧ Aside0 (jacquardref28_Fits.l1 kq (l1_3.length : Int) x128_3 a1_0 a1_1 l1_2 l1_3 l1_4 = some r) ∧ Aside0 (kq ≤ k2) ∧ Aside0 (w'.heap[gb308]? = some (.cells #[.int .i64 a0_0, .int .i64 a0_1, .bool a0_2, (.slice A0_3 l0_3.length c0_3), (.slice A0_4 l0_4.length c0_4), (.slice A0_5 l0_5.length c0_5)] 26 (0, 0))) ∧ Aside0 (w'.heap[gb309]? = some (.cells #[.int .i64 a1_0, .int .i64 a1_1, (.slice A1_2 l1_2.length c1_2), (.slice A1_3 l1_3.length c1_3), (.slice A1_4 l1_4.length c1_4)] 35 (0, 0))) ∧ Aside0 (Below w.heap.size w w'))
 case atStart => exact ⟨(0), (by first | rfl | (simp; done) | (simp [*]; done)), H', ⟨Nat.le_refl _⟩, ⟨K_ BK308⟩, ⟨K_ BK309⟩, ⟨bl_⟩⟩
 clear H'
 obtain ⟨x128_3, rfl, HA, HK3, BK308, BK309, HB⟩ := hrel
 cases gk with
 | zero => exact absurd HA.out (by simp [jacquardref28_Fits.l1])
 | succ k3 => ?_
 have H := HA.out
 clear HA
 simp only [jacquardref28_Fits.l1] at H
 by_cases c111 : x128_3 < (l1_3.length : Int)
 · rw [if_pos c111] at H
   have c111b0 : decide (x128_3 < (l1_3.length : Int)) = true := decide_eq_true c111
   clear c111
   have HC112 := Aside0.mk H
   clear H
   go_upto_region 13 with (fail)
   repeat (go_quiet (fail); go_upto_region 13 with (fail))
   go_cut [144] (fun v144 wc => ∃ (kq : Nat) (x144_111 : Bool), v144 = .bool x144_111 ∧ Aside0 (jacquardref28_Fits.j4 kq (l1_3.length : Int) x128_3 x144_111 a1_0 a1_1 l1_2 l1_3 l1_4 = some r) ∧ Aside0 (kq ≤ k3) ∧ Aside0 (wc.heap[gb308]? = some (.cells #[.int .i64 a0_0, .int .i64 a0_1, .bool a0_2, (.slice A0_3 l0_3.length c0_3), (.slice A0_4 l0_4.length c0_4), (.slice A0_5 l0_5.length c0_5)] 26 (0, 0))) ∧ Aside0 (wc.heap[gb309]? = some (.cells #[.int .i64 a1_0, .int .i64 a1_1, (.slice A1_2 l1_2.length c1_2), (.slice A1_3 l1_3.length c1_3), (.slice A1_4 l1_4.length c1_4)] 35 (0, 0))) ∧ Aside0 (Below w.heap.size w wc))
   case first =>
    have H := HC112.out
    clear HC112
    by_cases c113 : 0 ≤ x128_3
    · rw [if_pos c113] at H
      have c113b0 : decide (0 ≤ x128_3) = true := decide_eq_true c113
      clear c113
      (first | rw [c113b0] | (simp only [i64_w, i32_w]; rw [c113b0]) | skip)
      by_cases c114 : x128_3 < (l1_3.length : Int)
      · rw [if_pos c114] at H
        have c114b0 : decide (x128_3 < (l1_3.length : Int)) = true := decide_eq_true c114
        clear c114
        by_cases c115 : (rd l1_3 x128_3) < 0
        · rw [if_pos c115] at H
          have c115b0 : decide ((rd l1_3 x128_3) < 0) = true := decide_eq_true c115
          clear c115
          have H' := Aside0.mk H
          clear H
          obtain ⟨hcz117_0, hcz117_1, hcz117_2, hcz117_3, hcz117_4⟩ := cells5 BK309
          obtain ⟨hfz117_0, hfz117_1, hfz117_2, hfz117_3, hfz117_4⟩ := fz5 BK309
          have p321 : 0 ≤ (x128_3 : Int) := of_decide_eq_true (by first | (with_reducible assumption) | assumption)
          have q321 : x128_3 < (l1_3.length : Int) := of_decide_eq_true (by first | (with_reducible assumption) | assumption)
          obtain ⟨ad321, e321, hx321_0⟩ := Kd.at_int HR1_3.out x128_3 p321 q321
          cases e321
          replace hx321_0 := hc_ HB hx321_0
          replace p321 := eq_true p321
          replace q321 := eq_true q321
          go_wp2
          repeat (go_quiet (fail); try go_wp2)
          go_meet
          case rel => exact ⟨_, (true), (by first | rfl | (simp; done) | (simp [*]; done)), H', ⟨by have := HJ2.out; have := HK2.out; have := HK3.out; first | omega | exact Nat.le_refl _⟩, ⟨K_ BK308⟩, ⟨K_ BK309⟩, ⟨bl_⟩⟩
        rw [if_neg c115] at H
        have c115b0 : decide ((rd l1_3 x128_3) < 0) = false := decide_eq_false c115
        clear c115
        have H' := Aside0.mk H
        clear H
        obtain ⟨hcz119_0, hcz119_1, hcz119_2, hcz119_3, hcz119_4⟩ := cells5 BK309
        obtain ⟨hfz119_0, hfz119_1, hfz119_2, hfz119_3, hfz119_4⟩ := fz5 BK309
        have p321 : 0 ≤ (x128_3 : Int) := of_decide_eq_true (by first | (with_reducible assumption) | assumption)
        have q321 : x128_3 < (l1_3.length : Int) := of_decide_eq_true (by first | (with_reducible assumption) | assumption)
        obtain ⟨ad321, e321, hx321_0⟩ := Kd.at_int HR1_3.out x128_3 p321 q321
        cases e321
        replace hx321_0 := hc_ HB hx321_0
        replace p321 := eq_true p321
        replace q321 := eq_true q321
        have p322 : 0 ≤ (x128_3 : Int) := of_decide_eq_true (by first | (with_reducible assumption) | assumption)
        have q322 : x128_3 < (l1_3.length : Int) := of_decide_eq_true (by first | (with_reducible assumption) | assumption)
        obtain ⟨ad322, e322, hx322_0⟩ := Kd.at_int HR1_3.out x128_3 p322 q322
        obtain rfl : ad321 = ad322 := (by injection e322)
        replace hx322_0 := hc_ HB hx322_0
        replace p322 := eq_true p322
        replace q322 := eq_true q322
        go_wp2
        repeat (go_quiet (fail); try go_wp2)
        go_meet
        case rel => exact ⟨_, (decide ((rd l1_3 x128_3) > 4096)), (by first | rfl | (simp; done) | (simp [*]; done)), H', ⟨by have := HJ2.out; have := HK2.out; have := HK3.out; first | omega | exact Nat.le_refl _⟩, ⟨K_ BK308⟩, ⟨K_ BK309⟩, ⟨bl_⟩⟩
      rw [if_neg c114] at H
      exact absurd H (by simp)
    rw [if_neg c113] at H
    exact absurd H (by simp)
   clear HC112
   obtain ⟨kq, x144_111, rfl, HA, HJ111, BK308, BK309, HB⟩ := hcut
   cases kq with
   | zero => exact absurd HA.out (by simp [jacquardref28_Fits.j4])
   | succ kj111 => ?_
   have H := HA.out
   clear HA
   simp only [jacquardref28_Fits.j4] at H
   by_cases c120 : x144_111 = true
   · subst c120
     have H1 : (some false) = some r := by rw [if_pos rfl] at H; exact H
     clear H
     have H := H1
     clear H1
     obtain rfl := Option.some.inj H
     go_wp2
     repeat (go_quiet (fail); try go_wp2)
     go_ret
     exact ⟨by first | rfl | (simp [errW_none, errW_some] <;> rfl) | (simp [*, errW_none, errW_some] <;> rfl), by repeat (first | (with_reducible first | exact HB.out | apply below_alloc | apply pw_below_drewN | apply below_drew1 | refine below_set ?_ GE308.out | refine below_set ?_ GE309.out) | exact HB.out)⟩
   replace c120 := Bool.eq_false_iff.mpr c120
   subst c120
   have H1 : (jacquardref28_Fits.l1 kj111 (l1_3.length : Int) (wrap64 (x128_3 + 1)) a1_0 a1_1 l1_2 l1_3 l1_4) = some r := by rw [if_neg (show ¬ (false = true) by decide)] at H; exact H
   clear H
   have H := H1
   clear H1
   have H' := Aside0.mk H
   clear H
   go_wp2
   repeat (go_quiet (fail); try go_wp2)
   go_roundg kj111
   case measure => have := HJ2.out; have := HK2.out; have := HK3.out; have := HJ111.out; omega
   case rel => exact ⟨(wrap64 (x128_3 + 1)), (by first | rfl | (simp; done) | (simp [*]; done)), H', ⟨by have := HJ2.out; have := HK2.out; have := HK3.out; have := HJ111.out; omega⟩, ⟨K_ BK308⟩, ⟨K_ BK309⟩, ⟨bl_⟩⟩
 rw [if_neg c111] at H
 have c111b0 : decide (x128_3 < (l1_3.length : Int)) = false := decide_eq_false c111
 clear c111
 obtain rfl := Option.some.inj H
 go_wp2
 repeat (go_quiet (fail); try go_wp2)
 go_ret
 exact ⟨by first | rfl | (simp [errW_none, errW_some] <;> rfl) | (simp [*, errW_none, errW_some] <;> rfl), by repeat (first | (with_reducible first | exact HB.out | apply below_alloc | apply pw_below_drewN | apply below_drew1 | refine below_set ?_ GE308.out | refine below_set ?_ GE309.out) | exact HB.out)⟩
end Go.Proofs.Ytpmlbbglekaidaa.PAll
