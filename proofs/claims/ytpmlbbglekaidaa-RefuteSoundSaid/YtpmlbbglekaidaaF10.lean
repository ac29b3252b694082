-- Written for this claim by programs of this session (wip/print2 in its repo: a changed printer, a shortener, a packer). Lean checks it.
import Derived.Test.YtpmlbbglekaidaaP0
import Derived.Test.YtpmlbbglekaidaaF21
import Derived.Test.YtpmlbbglekaidaaF22
import Derived.Test.YtpmlbbglekaidaaF23
import Derived.Test.YtpmlbbglekaidaaF9
namespace Go.Proofs.Ytpmlbbglekaidaa.PAll
open Go.RowKit Go.Proofs.YtpmlbbglekaidaaW.PrintWords Go.Proofs.YtpmlbbglekaidaaW.PrintLast Go.Proofs.YtpmlbbglekaidaaW.PrintMore
attribute [local go_sem] max2_int min2_int max_two min_two max_three min_three max_four min_four   -- for this text's walks alone
set_option linter.unusedVariables false
set_option linter.unusedSimpArgs false

/-! ### jacquardref33_Possible: function 10 -/
mutual
def jacquardref33_Possible.j0 : Nat → Int → List (S44) → List Int → Bool → Int → Int → Bool → List (S48) → List (S50) → List (S52) → Option (Bool)
  | 0, _, _, _, _, _, _, _, _, _, _ => none
  | k + 1, x1, x2, x7, x23, x421000, x421001, x421002, x421003, x421004, x421005 => if x23 = true then (some false) else (jacquardref33_Possible.l0 k x1 x2 x7 (x2.length : Int) 0 x421000 x421001 x421002 x421003 x421004 x421005)
def jacquardref33_Possible.l0 : Nat → Int → List (S44) → List Int → Int → Int → Int → Int → Bool → List (S48) → List (S50) → List (S52) → Option (Bool)
  | 0, _, _, _, _, _, _, _, _, _, _, _ => none
  | k + 1, x1, x2, x7, x25, x26, x421000, x421001, x421002, x421003, x421004, x421005 => if x26 < x25 then (jacquardref33_Possible.l1 k x1 x2 x7 x26 x25 x26 x26 0 x421000 x421001 x421002 x421003 x421004 x421005) else (if (x2.length : Int) = (x7.length : Int) then ((jacquardref33_settles.f k x421000 x421001 x421002 x421003 x421004 x421005 x1 x2).bind fun t428 => (some t428)) else (if 0 ≤ (x2.length : Int) then (if (x2.length : Int) < (x7.length : Int) then (if 0 ≤ (rd x7 (x2.length : Int)) then (if (rd x7 (x2.length : Int)) < (x421005.length : Int) then (if ((rd_T52 x421005 (rd x7 (x2.length : Int))).f1) > x1 then (some false) else ((jacquardref33_Units.f k x421000 x421001 x421002 x421003 x421004 x421005 x2 (rd x7 (x2.length : Int))).bind fun t431 => (jacquardref33_Possible.l2 k x1 x2 (rd x7 (x2.length : Int)) t431 (wrap64 (x1 * t431)) 0 x421000 x421001 x421002 x421003 x421004 x421005))) else (none)) else (none)) else (none)) else (none)))
def jacquardref33_Possible.l1 : Nat → Int → List (S44) → List Int → Int → Int → Int → Int → Int → Int → Int → Bool → List (S48) → List (S50) → List (S52) → Option (Bool)
  | 0, _, _, _, _, _, _, _, _, _, _, _, _, _, _ => none
  | k + 1, x1, x2, x7, x8, x25, x26, x29, x30, x421000, x421001, x421002, x421003, x421004, x421005 => if x30 < x29 then (if 0 ≤ x8 then (if x8 < (x2.length : Int) then (if 0 ≤ x30 then (if x30 < (x2.length : Int) then ((jacquardref33_clash.f k x421000 x421001 x421002 x421003 x421004 x421005 x1 ((rd_T44 x2 x8).f0) ((rd_T44 x2 x8).f1) ((rd_T44 x2 x8).f2) ((rd_T44 x2 x30).f0) ((rd_T44 x2 x30).f1) ((rd_T44 x2 x30).f2)).bind fun t427 => (if t427 = true then (some false) else (jacquardref33_Possible.l1 k x1 x2 x7 x8 x25 x26 x29 (wrap64 (x30 + 1)) x421000 x421001 x421002 x421003 x421004 x421005))) else (none)) else (none)) else (none)) else (none)) else (jacquardref33_Possible.l0 k x1 x2 x7 x25 (wrap64 (x26 + 1)) x421000 x421001 x421002 x421003 x421004 x421005)
def jacquardref33_Possible.l2 : Nat → Int → List (S44) → Int → Int → Int → Int → Int → Int → Bool → List (S48) → List (S50) → List (S52) → Option (Bool)
  | 0, _, _, _, _, _, _, _, _, _, _, _, _ => none
  | k + 1, x1, x2, x10, x11, x74, x75, x421000, x421001, x421002, x421003, x421004, x421005 => if x75 < x74 then ((some (([] : List (S44)) : List (S44))).bind fun y432 => (if y432.length + x2.length < 5864062014805 then ((some (y432 ++ x2 : List (S44))).bind fun y435 => (if x11 = 0 then (none) else ((some (([(⟨x10, wrap64 (Int.tdiv x75 x11), Int.tmod x75 x11⟩ : S44)] : List (S44)) : List (S44))).bind fun y438 => (if y435.length + y438.length < 5864062014805 then ((jacquardref33_Possible.f k x421000 x421001 x421002 x421003 x421004 x421005 x1 (y435 ++ y438)).bind fun t444 => (if t444 = true then (some true) else (jacquardref33_Possible.l2 k x1 x2 x10 x11 x74 (wrap64 (x75 + 1)) x421000 x421001 x421002 x421003 x421004 x421005))) else (none))))) else (none))) else (some false)
def jacquardref33_Possible.f : Nat → Int → Int → Bool → List (S48) → List (S50) → List (S52) → Int → List (S44) → Option (Bool)
  | 0, _, _, _, _, _, _, _, _ => none
  | k + 1, a0_0, a0_1, a0_2, l0_3, l0_4, l0_5, a1, l2 => (jacquardref33_Needy.f k a0_0 a0_1 a0_2 l0_3 l0_4 l0_5).bind fun t421 => (if (l2.length : Int) = 0 then ((jacquardref33_settles.f k a0_0 a0_1 a0_2 l0_3 l0_4 l0_5 a1 ([] : List (S44))).bind fun t424 => (jacquardref33_Possible.j0 k a1 l2 t421 (!t424) a0_0 a0_1 a0_2 l0_3 l0_4 l0_5)) else (jacquardref33_Possible.j0 k a1 l2 t421 false a0_0 a0_1 a0_2 l0_3 l0_4 l0_5))
end
theorem jacquardref33_Possible.mono_l : ∀ k, (∀ y0 y1 y2 y3 y4 y5 y6 y7, LeO (jacquardref33_Possible.f k y0 y1 y2 y3 y4 y5 y6 y7) (jacquardref33_Possible.f (k + 1) y0 y1 y2 y3 y4 y5 y6 y7)) ∧ (∀ y0 y1 y2 y3 y4 y5 y6 y7 y8 y9, LeO (jacquardref33_Possible.j0 k y0 y1 y2 y3 y4 y5 y6 y7 y8 y9) (jacquardref33_Possible.j0 (k + 1) y0 y1 y2 y3 y4 y5 y6 y7 y8 y9)) ∧ (∀ y0 y1 y2 y3 y4 y5 y6 y7 y8 y9 y10, LeO (jacquardref33_Possible.l0 k y0 y1 y2 y3 y4 y5 y6 y7 y8 y9 y10) (jacquardref33_Possible.l0 (k + 1) y0 y1 y2 y3 y4 y5 y6 y7 y8 y9 y10)) ∧ (∀ y0 y1 y2 y3 y4 y5 y6 y7 y8 y9 y10 y11 y12 y13, LeO (jacquardref33_Possible.l1 k y0 y1 y2 y3 y4 y5 y6 y7 y8 y9 y10 y11 y12 y13) (jacquardref33_Possible.l1 (k + 1) y0 y1 y2 y3 y4 y5 y6 y7 y8 y9 y10 y11 y12 y13)) ∧ (∀ y0 y1 y2 y3 y4 y5 y6 y7 y8 y9 y10 y11, LeO (jacquardref33_Possible.l2 k y0 y1 y2 y3 y4 y5 y6 y7 y8 y9 y10 y11) (jacquardref33_Possible.l2 (k + 1) y0 y1 y2 y3 y4 y5 y6 y7 y8 y9 y10 y11))
  | 0 => by refine ⟨?_, ?_, ?_, ?_, ?_⟩ <;> intros <;> intro r h <;> simp [jacquardref33_Possible.f, jacquardref33_Possible.j0, jacquardref33_Possible.l0, jacquardref33_Possible.l1, jacquardref33_Possible.l2] at h
  | k + 1 => by
    obtain ⟨ih0, ih1, ih2, ih3, ih4⟩ := jacquardref33_Possible.mono_l k
    refine ⟨?_, ?_, ?_, ?_, ?_⟩ <;> intros <;> (first | unfold jacquardref33_Possible.f | unfold jacquardref33_Possible.j0 | unfold jacquardref33_Possible.l0 | unfold jacquardref33_Possible.l1 | unfold jacquardref33_Possible.l2) <;> repeat' first | (with_reducible first | apply ih0 | apply ih1 | apply ih2 | apply ih3 | apply ih4 | apply jacquardref33_Needy.mono | apply jacquardref33_Units.mono | apply jacquardref33_clash.mono | apply jacquardref33_settles.mono | exact LeO.refl _ | exact LeO.none _ | refine LeO.ite ?_ ?_ | refine LeO.bind ?_ (fun _ => ?_)) | apply ih0 | apply ih1 | apply ih2 | apply ih3 | apply ih4 | apply jacquardref33_Needy.mono | apply jacquardref33_Units.mono | apply jacquardref33_clash.mono | apply jacquardref33_settles.mono | exact LeO.none _ | refine LeO.ite ?_ ?_ | refine LeO.bind ?_ (fun _ => ?_)
theorem jacquardref33_Possible.mono : ∀ a0 a1 a2 a3 a4 a5 a6 a7 k, LeO (jacquardref33_Possible.f k a0 a1 a2 a3 a4 a5 a6 a7) (jacquardref33_Possible.f (k + 1) a0 a1 a2 a3 a4 a5 a6 a7) := by
 intro a0 a1 a2 a3 a4 a5 a6 a7 k
 obtain ⟨ih0, ih1, ih2, ih3, ih4⟩ := jacquardref33_Possible.mono_l k
 exact ih0 a0 a1 a2 a3 a4 a5 a6 a7
def jacquardref33_Possible.T10 : Bool × List (List Nat × List Nat) := (true, [([], []), ([], []), ([], []), ([], []), ([2, 3], [2, 3]), ([4], [4]), ([], []), ([], []), ([6, 7], [6, 7]), ([8], [8]), ([0, 1, 5, 9], [0, 1, 5, 9])])
def jacquardref33_Possible.B10 : List Nat := [0, 0, 0, 0, 12, 28, 0, 0, 192, 448, 1023]
theorem jacquardref33_Possible.tab10 : rtab .any (opsOf Try.f10 10) = jacquardref33_Possible.T10 := by kernel_rfl
theorem jacquardref33_Possible.bits10 : waitsOk jacquardref33_Possible.T10.2 jacquardref33_Possible.B10 = true := by kernel_rfl
def jacquardref33_Possible.T23 : Bool × List (List Nat × List Nat) := (true, [([], []), ([], []), ([], []), ([], []), ([2, 3], [2, 3]), ([], []), ([], []), ([], []), ([6, 7], [6, 7]), ([], []), ([], []), ([9, 10], [9, 10]), ([5, 8, 11], [5, 8, 11]), ([12], [12]), ([4, 13, 4], [4, 13]), ([0, 1, 14, 14], [0, 1, 14])])
def jacquardref33_Possible.B23 : List Nat := [0, 0, 0, 0, 12, 0, 0, 0, 192, 0, 0, 1536, 4064, 8160, 16380, 32767]
theorem jacquardref33_Possible.tab23 : rtab .any (opsOf Try.f10 23) = jacquardref33_Possible.T23 := by kernel_rfl
theorem jacquardref33_Possible.bits23 : waitsOk jacquardref33_Possible.T23.2 jacquardref33_Possible.B23 = true := by kernel_rfl
set_option maxHeartbeats 8000000 in
set_option maxRecDepth 100000 in
theorem jacquardref33_Possible.calls (k : Nat) : ∀ (a0_0 : Int) (a0_1 : Int) (a0_2 : Bool) (A0_3 : Option Addr) (c0_3 : Nat) (l0_3 : List (S48)) (A0_4 : Option Addr) (c0_4 : Nat) (l0_4 : List (S50)) (A0_5 : Option Addr) (c0_5 : Nat) (l0_5 : List (S52)) (a1 : Int) (A2 : Option Addr) (c2 : Nat) (l2 : List (S44)) (r : Bool) (w : World) (hr0_3 : Kd.C k48 w A0_3 l0_3.length l0_3) (hc0_3 : l0_3.length ≤ c0_3) (hr0_4 : Kd.C k50 w A0_4 l0_4.length l0_4) (hc0_4 : l0_4.length ≤ c0_4) (hr0_5 : Kd.C k52 w A0_5 l0_5.length l0_5) (hc0_5 : l0_5.length ≤ c0_5) (hr2 : Kd.C k44 w A2 l2.length l2) (hc2 : l2.length ≤ c2) (h : jacquardref33_Possible.f k a0_0 a0_1 a0_2 l0_3 l0_4 l0_5 a1 l2 = some r),
    Calls Try.prog 10 #[.agg #[.int .i64 a0_0, .int .i64 a0_1, .bool a0_2, .slice A0_3 l0_3.length c0_3, .slice A0_4 l0_4.length c0_4, .slice A0_5 l0_5.length c0_5], .int .i64 a1, .slice A2 l2.length c2] w fun e w' => e = .returned (.bool r) ∧ Below w.heap.size w w' := by
 induction k using Nat.strongRecOn with
 | _ k ih =>
 intro a0_0 a0_1 a0_2 A0_3 c0_3 l0_3 A0_4 c0_4 l0_4 A0_5 c0_5 l0_5 a1 A2 c2 l2 r w hr0_3 hc0_3 hr0_4 hc0_4 hr0_5 hc0_5 hr2 hc2 h
 cases k with
 | zero => exact absurd h (by simp [jacquardref33_Possible.f])
 | succ k =>
 simp only [jacquardref33_Possible.f] at h
 have hu26 := Try.underlying26
 have hu44 := Try.underlying44
 have HR0_3 := Aside0.mk hr0_3
 have HC0_3 := Aside0.mk hc0_3
 clear hr0_3 hc0_3
 have HR0_4 := Aside0.mk hr0_4
 have HC0_4 := Aside0.mk hc0_4
 clear hr0_4 hc0_4
 have HR0_5 := Aside0.mk hr0_5
 have HC0_5 := Aside0.mk hc0_5
 clear hr0_5 hc0_5
 have HR2 := Aside0.mk hr2
 have HC2 := Aside0.mk hc2
 clear hr2 hc2
 have HB := Aside0.mk (Below.refl w.heap.size w)
 have H : ((jacquardref33_Needy.f k a0_0 a0_1 a0_2 l0_3 l0_4 l0_5).bind fun t421 => (if (l2.length : Int) = 0 then ((jacquardref33_settles.f k a0_0 a0_1 a0_2 l0_3 l0_4 l0_5 a1 ([] : List (S44))).bind fun t424 => (jacquardref33_Possible.j0 k a1 l2 t421 (!t424) a0_0 a0_1 a0_2 l0_3 l0_4 l0_5)) else (jacquardref33_Possible.j0 k a1 l2 t421 false a0_0 a0_1 a0_2 l0_3 l0_4 l0_5))) = some r := h
 clear h
 replace H := Option.bind_eq_some_iff.mp H
 obtain ⟨t421, A40, H⟩ := H
 replace H : (if (l2.length : Int) = 0 then ((jacquardref33_settles.f k a0_0 a0_1 a0_2 l0_3 l0_4 l0_5 a1 ([] : List (S44))).bind fun t424 => (jacquardref33_Possible.j0 k a1 l2 t421 (!t424) a0_0 a0_1 a0_2 l0_3 l0_4 l0_5)) else (jacquardref33_Possible.j0 k a1 l2 t421 false a0_0 a0_1 a0_2 l0_3 l0_4 l0_5)) = some r := H
 have A4 := Aside0.mk A40
 clear A40
 have HC5 := Aside0.mk H
 clear H
 go_enter Try.func10, Try.ntmps10
 go_upto_region 2 with (first | ((with_reducible refine gate_dst (N := 3) rfl ?_); refine box_event ?hg (N := 3) ?hd (cs := #[.int .i64 a0_0, .int .i64 a0_1, .bool a0_2, .slice A0_3 l0_3.length c0_3, .slice A0_4 l0_4.length c0_4, .slice A0_5 l0_5.length c0_5]) (t := 26) ?hr ?_; (case hd => rfl); (case hg => rfl); (case hr => first | (go_simp; done) | (go_simp; rfl)); intro gb420 hg w6 hbox hb; have n0_ := Aside0.mk (below_step bl_ hb); have n1_ := Aside0.mk (hbox); have n2_ := Aside0.mk (gl_ (w := w) hg); have n3_ := Aside0.mk (gl_ (w := w) hg); clear HB; have HB := n0_; have BK420 := n1_; have GW420 := n2_; have GE420 := n3_; clear n0_ n1_ n2_ n3_; clear hb hbox hg; obtain ⟨hcz7_0, hcz7_1, hcz7_2, hcz7_3, hcz7_4, hcz7_5⟩ := cells6 BK420) | ((with_reducible refine gate_callee (f := 9) rfl ?_); refine gL_ 14 Try.func9 #[.agg #[.int .i64 a0_0, .int .i64 a0_1, .bool a0_2, .slice A0_3 l0_3.length c0_3, .slice A0_4 l0_4.length c0_4, .slice A0_5 l0_5.length c0_5]] ?_; (with_reducible refine (jacquardref33_Needy.calls k a0_0 a0_1 a0_2 _ _ l0_3 _ _ l0_4 _ _ l0_5 t421 _ ?side1 ?side2 ?side3 ?side4 ?side5 ?side6 A4.out).mono ?_); (case side1 => exact CB_ HR0_3); (case side2 => exact HC0_3.out); (case side3 => exact CB_ HR0_4); (case side4 => exact HC0_4.out); (case side5 => exact CB_ HR0_5); (case side6 => exact HC0_5.out); rintro e w8 ⟨v422, rfl, ho0, hb⟩; refine ⟨_, rfl, ?_⟩; have n0_ := Aside0.mk (Kd.R_lower ho0 (below_size bl_)); have n1_ := Aside0.mk (blk_below (K_ BK420) hb); have n2_ := Aside0.mk (below_step bl_ hb); clear BK420; clear HB; have HO423 := n0_; have BK420 := n1_; have HB := n2_; clear n0_ n1_ n2_; (try clear hb); (try clear hb2); (try clear hk); (try clear hi); (try clear ho0)))
 (try simp only [Act.put, List.setIfInBounds_toArray, List.set_cons_zero, List.set_cons_succ])
 go_cut [23] (fun v23 wc => ∃ (kq : Nat) (x23_4 : Bool), v23 = .bool x23_4 ∧ Aside0 (jacquardref33_Possible.j0 kq a1 l2 t421 x23_4 a0_0 a0_1 a0_2 l0_3 l0_4 l0_5 = some r) ∧ Aside0 (kq ≤ k) ∧ Aside0 (Kd.R (Kd.int .i64) 3 wc w.heap.size (fun _ => True) v422 t421) ∧ Aside0 (wc.heap[gb420]? = some (.cells #[.int .i64 a0_0, .int .i64 a0_1, .bool a0_2, (.slice A0_3 l0_3.length c0_3), (.slice A0_4 l0_4.length c0_4), (.slice A0_5 l0_5.length c0_5)] 26 (0, 0))) ∧ Aside0 (Below w.heap.size w wc))
 case first =>
  have H := HC5.out
  clear HC5
  by_cases c9 : (l2.length : Int) = 0
  · rw [if_pos c9] at H
    have c9b0 : ((l2.length : Int) == 0) = true := beq_iff_eq.mpr c9
    have c9b1 : ((l2.length : Int) != 0) = false := bne_eq_false_iff_eq.mpr c9
    clear c9
    (first | rw [c9b0] | (simp only [i64_w, i32_w]; rw [c9b0]) | skip)
    replace H := Option.bind_eq_some_iff.mp H
    obtain ⟨t424, A100, H⟩ := H
    replace H : (jacquardref33_Possible.j0 k a1 l2 t421 (!t424) a0_0 a0_1 a0_2 l0_3 l0_4 l0_5) = some r := H
    have A10 := Aside0.mk A100
    clear A100
    have H' := Aside0.mk H
    clear H
    obtain ⟨hcz11_0, hcz11_1, hcz11_2, hcz11_3, hcz11_4, hcz11_5⟩ := cells6 BK420
    go_wp2_with (first | (go_at_call 21; (refine (jacquardref33_settles.calls k a0_0 a0_1 a0_2 _ _ l0_3 _ _ l0_4 _ _ l0_5 a1 _ _ ([] : List (S44)) t424 _ ?side1 ?side2 ?side3 ?side4 ?side5 ?side6 ?side7 ?side8 A10.out).mono ?_); (case side1 => exact CB_ HR0_3); (case side2 => exact HC0_3.out); (case side3 => exact CB_ HR0_4); (case side4 => exact HC0_4.out); (case side5 => exact CB_ HR0_5); (case side6 => exact HC0_5.out); (case side7 => exact Kd.C_nil _ _); (case side8 => exact Nat.le_refl _); rintro e w12 ⟨rfl, hb⟩; have n0_ := Aside0.mk (Kd.R_below (R_ HO423) hb); have n1_ := Aside0.mk (blk_below (K_ BK420) hb); have n2_ := Aside0.mk (below_step bl_ hb); clear HO423; clear BK420; clear HB; have HO423 := n0_; have BK420 := n1_; have HB := n2_; clear n0_ n1_ n2_; (try clear hb); (try clear hb2); (try clear hk); (try clear hi)))
    go_meet
    case rel => exact ⟨_, (!t424), (by first | rfl | (simp; done) | (simp [*]; done)), H', ⟨by first | omega | exact Nat.le_refl _⟩, ⟨R_ HO423⟩, ⟨K_ BK420⟩, ⟨bl_⟩⟩
  rw [if_neg c9] at H
  have c9b0 : ((l2.length : Int) == 0) = false := beq_eq_false_iff_ne.mpr c9
  have c9b1 : ((l2.length : Int) != 0) = true := bne_iff_ne.mpr c9
  have c9b2 : ¬ (l2 = []) := fun h_ => c9 (by rw [h_]; rfl)
  (first | rw [c9b0] | (simp only [i64_w, i32_w]; rw [c9b0]) | skip)
  have H' := Aside0.mk H
  clear H
  go_wp2
  go_meet
  case rel => exact ⟨_, (false), (by first | rfl | (simp; done) | (simp [*]; done)), H', ⟨by first | omega | exact Nat.le_refl _⟩, ⟨R_ HO423⟩, ⟨K_ BK420⟩, ⟨bl_⟩⟩
 clear HC5
 obtain ⟨kq, x23_4, rfl, HA, HJ4, HO_7, BK420, HB⟩ := hcut
 cases kq with
 | zero => exact absurd HA.out (by simp [jacquardref33_Possible.j0])
 | succ kj4 => ?_
 have H := HA.out
 clear HA
 simp only [jacquardref33_Possible.j0] at H
 by_cases c13 : x23_4 = true
 · subst c13
   have H1 : (some false) = some r := by rw [if_pos rfl] at H; exact H
   clear H
   have H := H1
   clear H1
   obtain rfl := Option.some.inj H
   go_wp2
   go_ret
   exact ⟨by first | rfl | (simp [errW_none, errW_some] <;> rfl) | (simp [*, errW_none, errW_some] <;> rfl), by repeat (first | (with_reducible first | exact HB.out | apply below_alloc | apply pw_below_drewN | apply below_drew1 | refine below_set ?_ GE420.out) | exact HB.out)⟩
 replace c13 := Bool.eq_false_iff.mpr c13
 subst c13
 have H1 : (jacquardref33_Possible.l0 kj4 a1 l2 t421 (l2.length : Int) 0 a0_0 a0_1 a0_2 l0_3 l0_4 l0_5) = some r := by rw [if_neg (show ¬ (false = true) by decide)] at H; exact H
 clear H
 have H := H1
 clear H1
 have H' := Aside0.mk H
 clear H
 go_wp2
 go_loopg [26] kj4 (fun kq v26 w' => ∃ (x26_2 : Int), v26 = .int .i64 x26_2 ∧ Aside0 (jacquardref33_Possible.l0 kq a1 l2 t421 (l2.length : Int) x26_2 a0_0 a0_1 a0_2 l0_3 l0_4 l0_5 = some r) ∧ Aside0 (kq ≤ kj4) ∧ Aside0 (Kd.R (Kd.int .i64) 3 w' w.heap.size (fun _ => True) v422 t421) ∧ Aside0 (w'.heap[gb420]? = some (.cells #[.int .i64 a0_0, .int .i64 a0_1, .bool a0_2, (.slice A0_3 l0_3.length c0_3), (.slice A0_4 l0_4.length c0_4), (.slice A0_5 l0_5.length c0_5)] 26 (0, 0))) ∧ Aside0 (Below w.heap.size w w'))
 case atStart => exact ⟨(0), (by first | rfl | (simp; done) | (simp [*]; done)), H', ⟨Nat.le_refl _⟩, ⟨R_ HO_7⟩, ⟨K_ BK420⟩, ⟨bl_⟩⟩
 clear H'
 obtain ⟨x26_2, rfl, HA, HK2, HO_7, BK420, HB⟩ := hrel
 cases gk with
 | zero => exact absurd HA.out (by simp [jacquardref33_Possible.l0])
 | succ k2 => ?_
 have H := HA.out
 clear HA
 simp only [jacquardref33_Possible.l0] at H
 by_cases c14 : x26_2 < (l2.length : Int)
 · rw [if_pos c14] at H
   have c14b0 : decide (x26_2 < (l2.length : Int)) = true := decide_eq_true c14
   clear c14
   have H' := Aside0.mk H
   clear H
   go_wp2
   go_loopg [30] k2 (fun kq v30 w' => ∃ (x30_3 : Int), v30 = .int .i64 x30_3 ∧ Aside0 (jacquardref33_Possible.l1 kq a1 l2 t421 x26_2 (l2.length : Int) x26_2 x26_2 x30_3 a0_0 a0_1 a0_2 l0_3 l0_4 l0_5 = some r) ∧ Aside0 (kq ≤ k2) ∧ Aside0 (Kd.R (Kd.int .i64) 3 w' w.heap.size (fun _ => True) v422 t421) ∧ Aside0 (w'.heap[gb420]? = some (.cells #[.int .i64 a0_0, .int .i64 a0_1, .bool a0_2, (.slice A0_3 l0_3.length c0_3), (.slice A0_4 l0_4.length c0_4), (.slice A0_5 l0_5.length c0_5)] 26 (0, 0))) ∧ Aside0 (Below w.heap.size w w'))
   case atStart => exact ⟨(0), (by first | rfl | (simp; done) | (simp [*]; done)), H', ⟨Nat.le_refl _⟩, ⟨R_ HO_7⟩, ⟨K_ BK420⟩, ⟨bl_⟩⟩
   clear H'
   obtain ⟨x30_3, rfl, HA, HK3, HO_7, BK420, HB⟩ := hrel
   cases gk with
   | zero => exact absurd HA.out (by simp [jacquardref33_Possible.l1])
   | succ k3 => ?_
   have H := HA.out
   clear HA
   simp only [jacquardref33_Possible.l1] at H
   by_cases c15 : x30_3 < x26_2
   · rw [if_pos c15] at H
     have c15b0 : decide (x30_3 < x26_2) = true := decide_eq_true c15
     clear c15
     by_cases c16 : 0 ≤ x26_2
     · rw [if_pos c16] at H
       have c16b0 : decide (0 ≤ x26_2) = true := decide_eq_true c16
       clear c16
       by_cases c17 : x26_2 < (l2.length : Int)
       · rw [if_pos c17] at H
         have c17b0 : decide (x26_2 < (l2.length : Int)) = true := decide_eq_true c17
         clear c17
         by_cases c18 : 0 ≤ x30_3
         · rw [if_pos c18] at H
           have c18b0 : decide (0 ≤ x30_3) = true := decide_eq_true c18
           clear c18
           by_cases c19 : x30_3 < (l2.length : Int)
           · rw [if_pos c19] at H
             have c19b0 : decide (x30_3 < (l2.length : Int)) = true := decide_eq_true c19
             clear c19
             replace H := Option.bind_eq_some_iff.mp H
             obtain ⟨t427, A200, H⟩ := H
             replace H : (if t427 = true then (some false) else (jacquardref33_Possible.l1 k3 a1 l2 t421 x26_2 (l2.length : Int) x26_2 x26_2 (wrap64 (x30_3 + 1)) a0_0 a0_1 a0_2 l0_3 l0_4 l0_5)) = some r := H
             have A20 := Aside0.mk A200
             clear A200
             by_cases c21 : t427 = true
             · subst c21
               have H1 : (some false) = some r := by rw [if_pos rfl] at H; exact H
               clear H
               have H := H1
               clear H1
               obtain rfl := Option.some.inj H
               try go_wp2
               have n0_ := Aside0.mk (Kd.R_drew HO_7.out)
               have n1_ := Aside0.mk (blk_drew BK420.out)
               have n2_ := Aside0.mk (below_drew1 HB.out)
               clear HO_7
               clear BK420
               clear HB
               have HO_7 := n0_
               have BK420 := n1_
               have HB := n2_
               clear n0_ n1_ n2_
               have p425 : 0 ≤ (x26_2 : Int) := of_decide_eq_true (by first | (with_reducible assumption) | assumption)
               have q425 : x26_2 < (l2.length : Int) := of_decide_eq_true (by first | (with_reducible assumption) | assumption)
               obtain ⟨ad425, e425, hx425_0, hx425_1, hx425_2⟩ := at_T44 HR2.out x26_2 p425 q425
               have hw425_2 := hx425_2
               have hw425_1 := hx425_1
               have hw425_0 := hx425_0
               cases e425
               replace hx425_0 := hc_ HB hx425_0
               replace hx425_1 := hc_ HB hx425_1
               replace hx425_2 := hc_ HB hx425_2
               replace p425 := eq_true p425
               replace q425 := eq_true q425
               have p426 : 0 ≤ (x30_3 : Int) := of_decide_eq_true (by first | (with_reducible assumption) | assumption)
               have q426 : x30_3 < (l2.length : Int) := of_decide_eq_true (by first | (with_reducible assumption) | assumption)
               obtain ⟨ad426, e426, hx426_0, hx426_1, hx426_2⟩ := at_T44 HR2.out x30_3 p426 q426
               have hw426_2 := hx426_2
               have hw426_1 := hx426_1
               have hw426_0 := hx426_0
               obtain rfl : ad425 = ad426 := (by injection e426)
               replace hx426_0 := hc_ HB hx426_0
               replace hx426_1 := hc_ HB hx426_1
               replace hx426_2 := hc_ HB hx426_2
               replace p426 := eq_true p426
               replace q426 := eq_true q426
               refine start_ (n := 11) (S := fun w' => w'.cell? ⟨gb420, 0, none⟩ = some (.int .i64 a0_0) ∧ w'.cell? ⟨gb420, 1, none⟩ = some (.int .i64 a0_1) ∧ w'.cell? ⟨gb420, 2, none⟩ = some (.bool a0_2) ∧ w'.cell? ⟨gb420, 3, none⟩ = some (.slice A0_3 l0_3.length c0_3) ∧ w'.cell? ⟨gb420, 4, none⟩ = some (.slice A0_4 l0_4.length c0_4) ∧ w'.cell? ⟨gb420, 5, none⟩ = some (.slice A0_5 l0_5.length c0_5) ∧ w'.cell? (ad425.add ((x26_2).toNat * 3)) = some (.int .i64 ((rd_T44 l2 x26_2).f0)) ∧ w'.cell? ⟨(ad425.add ((x26_2).toNat * 3)).block, (ad425.add ((x26_2).toNat * 3)).off + 1, none⟩ = some (.int .i64 ((rd_T44 l2 x26_2).f1)) ∧ w'.cell? ⟨(ad425.add ((x26_2).toNat * 3)).block, (ad425.add ((x26_2).toNat * 3)).off + 2, none⟩ = some (.int .i64 ((rd_T44 l2 x26_2).f2)) ∧ w'.cell? (ad425.add ((x30_3).toNat * 3)) = some (.int .i64 ((rd_T44 l2 x30_3).f0)) ∧ w'.cell? ⟨(ad425.add ((x30_3).toNat * 3)).block, (ad425.add ((x30_3).toNat * 3)).off + 1, none⟩ = some (.int .i64 ((rd_T44 l2 x30_3).f1)) ∧ w'.cell? ⟨(ad425.add ((x30_3).toNat * 3)).block, (ad425.add ((x30_3).toNat * 3)).off + 2, none⟩ = some (.int .i64 ((rd_T44 l2 x30_3).f2))) (ds := []) (bz 11 0) (by kernel_rfl) rfl rfl ⟨(blk_cell BK420.out 0).trans rfl, (blk_cell BK420.out 1).trans rfl, (blk_cell BK420.out 2).trans rfl, (blk_cell BK420.out 3).trans rfl, (blk_cell BK420.out 4).trans rfl, (blk_cell BK420.out 5).trans rfl, (hc_ HB hw425_0), (hc_ HB hw425_1), (hc_ HB hw425_2), (hc_ HB hw426_0), (hc_ HB hw426_1), (hc_ HB hw426_2)⟩ (fun hHeld => ?_); refine with_tabW jacquardref33_Possible.tab10 jacquardref33_Possible.bits10 (fun HT_ HW_ => ?_)
               generalize wr.drew = w22 at HO_7 BK420 HB hx425_0 hx425_1 hx425_2 hx426_0 hx426_1 hx426_2 hHeld ⊢
               refine pu_ 1 34 HT_ ?_
               refine pu_ 2 35 HT_ ?_
               refine pu_ 3 36 HT_ ?_
               refine pu_ 4 37 HT_ ?_
               refine pu_ 6 39 HT_ ?_
               refine pu_ 7 40 HT_ ?_
               refine pu_ 8 41 HT_ ?_
               refine tk_ 0 33 HT_ HW_ hHeld ?_ (hy := by rintro w' ⟨s0, s1, s2, s3, s4, s5, s6, s7, s8, s9, s10, s11⟩; go_simp; with_reducible rfl)
               refine tk_ 5 38 HT_ HW_ hHeld ?_ (hy := by rintro w' ⟨s0, s1, s2, s3, s4, s5, s6, s7, s8, s9, s10, s11⟩; go_simp; with_reducible rfl)
               refine tk_ 9 42 HT_ HW_ hHeld ?_ (hy := by rintro w' ⟨s0, s1, s2, s3, s4, s5, s6, s7, s8, s9, s10, s11⟩; go_simp; with_reducible rfl)
               refine on_ 10 (some 43) HT_ (fun K hK => ?_)
               refine gs_ Try.func22 #[.agg #[.int .i64 a0_0, .int .i64 a0_1, .bool a0_2, .slice A0_3 l0_3.length c0_3, .slice A0_4 l0_4.length c0_4, .slice A0_5 l0_5.length c0_5], .int .i64 a1, .agg #[.int .i64 ((rd_T44 l2 x26_2).f0), .int .i64 ((rd_T44 l2 x26_2).f1), .int .i64 ((rd_T44 l2 x26_2).f2)], .agg #[.int .i64 ((rd_T44 l2 x30_3).f0), .int .i64 ((rd_T44 l2 x30_3).f1), .int .i64 ((rd_T44 l2 x30_3).f2)]] ?_
               with_reducible refine (jacquardref33_clash.calls k3 a0_0 a0_1 a0_2 _ _ l0_3 _ _ l0_4 _ _ l0_5 a1 ((rd_T44 l2 x26_2).f0) ((rd_T44 l2 x26_2).f1) ((rd_T44 l2 x26_2).f2) ((rd_T44 l2 x30_3).f0) ((rd_T44 l2 x30_3).f1) ((rd_T44 l2 x30_3).f2) true _ ?side1 ?side2 ?side3 ?side4 ?side5 ?side6 A20.out).mono ?_
               (case side1 => exact CB_ HR0_3)
               (case side2 => exact HC0_3.out)
               (case side3 => exact CB_ HR0_4)
               (case side4 => exact HC0_4.out)
               (case side5 => exact CB_ HR0_5)
               (case side6 => exact HC0_5.out)
               rintro e w23 ⟨rfl, hb⟩
               refine ⟨_, rfl, ?_⟩
               have n0_ := Aside0.mk (Kd.R_below (R_ HO_7) hb)
               have n1_ := Aside0.mk (blk_below (K_ BK420) hb)
               have n2_ := Aside0.mk (below_step bl_ hb)
               clear HO_7
               clear BK420
               clear HB
               have HO_7 := n0_
               have BK420 := n1_
               have HB := n2_
               clear n0_ n1_ n2_
               refine hK.out _ _ ⟨(blk_cell BK420.out 0).trans rfl, (blk_cell BK420.out 1).trans rfl, (blk_cell BK420.out 2).trans rfl, (blk_cell BK420.out 3).trans rfl, (blk_cell BK420.out 4).trans rfl, (blk_cell BK420.out 5).trans rfl, (hc_ HB hw425_0), (hc_ HB hw425_1), (hc_ HB hw425_2), (hc_ HB hw426_0), (hc_ HB hw426_1), (hc_ HB hw426_2)⟩ (fun hHeld => ?_)
               clear hK K
               refine no_ 43 ?_
               refine done_ (done_of HT_.out (by kernel_rfl)) ?_
               try go_wp2
               go_ret
               exact ⟨by first | rfl | (simp [errW_none, errW_some] <;> rfl) | (simp [*, errW_none, errW_some] <;> rfl), by repeat (first | (with_reducible first | exact HB.out | apply below_alloc | apply pw_below_drewN | apply below_drew1 | refine below_set ?_ GE420.out) | exact HB.out)⟩
             replace c21 := Bool.eq_false_iff.mpr c21
             subst c21
             have H1 : (jacquardref33_Possible.l1 k3 a1 l2 t421 x26_2 (l2.length : Int) x26_2 x26_2 (wrap64 (x30_3 + 1)) a0_0 a0_1 a0_2 l0_3 l0_4 l0_5) = some r := by rw [if_neg (show ¬ (false = true) by decide)] at H; exact H
             clear H
             have H := H1
             clear H1
             have H' := Aside0.mk H
             clear H
             try go_wp2
             have n0_ := Aside0.mk (Kd.R_drew HO_7.out)
             have n1_ := Aside0.mk (blk_drew BK420.out)
             have n2_ := Aside0.mk (below_drew1 HB.out)
             clear HO_7
             clear BK420
             clear HB
             have HO_7 := n0_
             have BK420 := n1_
             have HB := n2_
             clear n0_ n1_ n2_
             have p425 : 0 ≤ (x26_2 : Int) := of_decide_eq_true (by first | (with_reducible assumption) | assumption)
             have q425 : x26_2 < (l2.length : Int) := of_decide_eq_true (by first | (with_reducible assumption) | assumption)
             obtain ⟨ad425, e425, hx425_0, hx425_1, hx425_2⟩ := at_T44 HR2.out x26_2 p425 q425
             have hw425_2 := hx425_2
             have hw425_1 := hx425_1
             have hw425_0 := hx425_0
             cases e425
             replace hx425_0 := hc_ HB hx425_0
             replace hx425_1 := hc_ HB hx425_1
             replace hx425_2 := hc_ HB hx425_2
             replace p425 := eq_true p425
             replace q425 := eq_true q425
             have p426 : 0 ≤ (x30_3 : Int) := of_decide_eq_true (by first | (with_reducible assumption) | assumption)
             have q426 : x30_3 < (l2.length : Int) := of_decide_eq_true (by first | (with_reducible assumption) | assumption)
             obtain ⟨ad426, e426, hx426_0, hx426_1, hx426_2⟩ := at_T44 HR2.out x30_3 p426 q426
             have hw426_2 := hx426_2
             have hw426_1 := hx426_1
             have hw426_0 := hx426_0
             obtain rfl : ad425 = ad426 := (by injection e426)
             replace hx426_0 := hc_ HB hx426_0
             replace hx426_1 := hc_ HB hx426_1
             replace hx426_2 := hc_ HB hx426_2
             replace p426 := eq_true p426
             replace q426 := eq_true q426
             refine start_ (n := 11) (S := fun w' => w'.cell? ⟨gb420, 0, none⟩ = some (.int .i64 a0_0) ∧ w'.cell? ⟨gb420, 1, none⟩ = some (.int .i64 a0_1) ∧ w'.cell? ⟨gb420, 2, none⟩ = some (.bool a0_2) ∧ w'.cell? ⟨gb420, 3, none⟩ = some (.slice A0_3 l0_3.length c0_3) ∧ w'.cell? ⟨gb420, 4, none⟩ = some (.slice A0_4 l0_4.length c0_4) ∧ w'.cell? ⟨gb420, 5, none⟩ = some (.slice A0_5 l0_5.length c0_5) ∧ w'.cell? (ad425.add ((x26_2).toNat * 3)) = some (.int .i64 ((rd_T44 l2 x26_2).f0)) ∧ w'.cell? ⟨(ad425.add ((x26_2).toNat * 3)).block, (ad425.add ((x26_2).toNat * 3)).off + 1, none⟩ = some (.int .i64 ((rd_T44 l2 x26_2).f1)) ∧ w'.cell? ⟨(ad425.add ((x26_2).toNat * 3)).block, (ad425.add ((x26_2).toNat * 3)).off + 2, none⟩ = some (.int .i64 ((rd_T44 l2 x26_2).f2)) ∧ w'.cell? (ad425.add ((x30_3).toNat * 3)) = some (.int .i64 ((rd_T44 l2 x30_3).f0)) ∧ w'.cell? ⟨(ad425.add ((x30_3).toNat * 3)).block, (ad425.add ((x30_3).toNat * 3)).off + 1, none⟩ = some (.int .i64 ((rd_T44 l2 x30_3).f1)) ∧ w'.cell? ⟨(ad425.add ((x30_3).toNat * 3)).block, (ad425.add ((x30_3).toNat * 3)).off + 2, none⟩ = some (.int .i64 ((rd_T44 l2 x30_3).f2))) (ds := []) (bz 11 0) (by kernel_rfl) rfl rfl ⟨(blk_cell BK420.out 0).trans rfl, (blk_cell BK420.out 1).trans rfl, (blk_cell BK420.out 2).trans rfl, (blk_cell BK420.out 3).trans rfl, (blk_cell BK420.out 4).trans rfl, (blk_cell BK420.out 5).trans rfl, (hc_ HB hw425_0), (hc_ HB hw425_1), (hc_ HB hw425_2), (hc_ HB hw426_0), (hc_ HB hw426_1), (hc_ HB hw426_2)⟩ (fun hHeld => ?_); refine with_tabW jacquardref33_Possible.tab10 jacquardref33_Possible.bits10 (fun HT_ HW_ => ?_)
             generalize wr.drew = w24 at HO_7 BK420 HB hx425_0 hx425_1 hx425_2 hx426_0 hx426_1 hx426_2 hHeld ⊢
             refine pu_ 1 34 HT_ ?_
             refine pu_ 2 35 HT_ ?_
             refine pu_ 3 36 HT_ ?_
             refine pu_ 4 37 HT_ ?_
             refine pu_ 6 39 HT_ ?_
             refine pu_ 7 40 HT_ ?_
             refine pu_ 8 41 HT_ ?_
             refine tk_ 0 33 HT_ HW_ hHeld ?_ (hy := by rintro w' ⟨s0, s1, s2, s3, s4, s5, s6, s7, s8, s9, s10, s11⟩; go_simp; with_reducible rfl)
             refine tk_ 5 38 HT_ HW_ hHeld ?_ (hy := by rintro w' ⟨s0, s1, s2, s3, s4, s5, s6, s7, s8, s9, s10, s11⟩; go_simp; with_reducible rfl)
             refine tk_ 9 42 HT_ HW_ hHeld ?_ (hy := by rintro w' ⟨s0, s1, s2, s3, s4, s5, s6, s7, s8, s9, s10, s11⟩; go_simp; with_reducible rfl)
             refine on_ 10 (some 43) HT_ (fun K hK => ?_)
             refine gs_ Try.func22 #[.agg #[.int .i64 a0_0, .int .i64 a0_1, .bool a0_2, .slice A0_3 l0_3.length c0_3, .slice A0_4 l0_4.length c0_4, .slice A0_5 l0_5.length c0_5], .int .i64 a1, .agg #[.int .i64 ((rd_T44 l2 x26_2).f0), .int .i64 ((rd_T44 l2 x26_2).f1), .int .i64 ((rd_T44 l2 x26_2).f2)], .agg #[.int .i64 ((rd_T44 l2 x30_3).f0), .int .i64 ((rd_T44 l2 x30_3).f1), .int .i64 ((rd_T44 l2 x30_3).f2)]] ?_
             with_reducible refine (jacquardref33_clash.calls k3 a0_0 a0_1 a0_2 _ _ l0_3 _ _ l0_4 _ _ l0_5 a1 ((rd_T44 l2 x26_2).f0) ((rd_T44 l2 x26_2).f1) ((rd_T44 l2 x26_2).f2) ((rd_T44 l2 x30_3).f0) ((rd_T44 l2 x30_3).f1) ((rd_T44 l2 x30_3).f2) false _ ?side1 ?side2 ?side3 ?side4 ?side5 ?side6 A20.out).mono ?_
             (case side1 => exact CB_ HR0_3)
             (case side2 => exact HC0_3.out)
             (case side3 => exact CB_ HR0_4)
             (case side4 => exact HC0_4.out)
             (case side5 => exact CB_ HR0_5)
             (case side6 => exact HC0_5.out)
             rintro e w25 ⟨rfl, hb⟩
             refine ⟨_, rfl, ?_⟩
             have n0_ := Aside0.mk (Kd.R_below (R_ HO_7) hb)
             have n1_ := Aside0.mk (blk_below (K_ BK420) hb)
             have n2_ := Aside0.mk (below_step bl_ hb)
             clear HO_7
             clear BK420
             clear HB
             have HO_7 := n0_
             have BK420 := n1_
             have HB := n2_
             clear n0_ n1_ n2_
             refine hK.out _ _ ⟨(blk_cell BK420.out 0).trans rfl, (blk_cell BK420.out 1).trans rfl, (blk_cell BK420.out 2).trans rfl, (blk_cell BK420.out 3).trans rfl, (blk_cell BK420.out 4).trans rfl, (blk_cell BK420.out 5).trans rfl, (hc_ HB hw425_0), (hc_ HB hw425_1), (hc_ HB hw425_2), (hc_ HB hw426_0), (hc_ HB hw426_1), (hc_ HB hw426_2)⟩ (fun hHeld => ?_)
             clear hK K
             refine no_ 43 ?_
             refine done_ (done_of HT_.out (by kernel_rfl)) ?_
             try go_wp2
             go_roundg k3
             case measure => have := HJ4.out; have := HK2.out; have := HK3.out; omega
             case rel => exact ⟨(wrap64 (x30_3 + 1)), (by first | rfl | (simp; done) | (simp [*]; done)), H', ⟨by have := HJ4.out; have := HK2.out; have := HK3.out; omega⟩, ⟨R_ HO_7⟩, ⟨K_ BK420⟩, ⟨bl_⟩⟩
           rw [if_neg c19] at H
           exact absurd H (by simp)
         rw [if_neg c18] at H
         exact absurd H (by simp)
       rw [if_neg c17] at H
       exact absurd H (by simp)
     rw [if_neg c16] at H
     exact absurd H (by simp)
   rw [if_neg c15] at H
   have c15b0 : decide (x30_3 < x26_2) = false := decide_eq_false c15
   clear c15
   have H' := Aside0.mk H
   clear H
   go_wp2
   go_roundg k3
   case measure => have := HJ4.out; have := HK2.out; have := HK3.out; omega
   case rel => exact ⟨(wrap64 (x26_2 + 1)), (by first | rfl | (simp; done) | (simp [*]; done)), H', ⟨by have := HJ4.out; have := HK2.out; have := HK3.out; omega⟩, ⟨R_ HO_7⟩, ⟨K_ BK420⟩, ⟨bl_⟩⟩
 rw [if_neg c14] at H
 have c14b0 : decide (x26_2 < (l2.length : Int)) = false := decide_eq_false c14
 clear c14
 by_cases c26 : (l2.length : Int) = (t421.length : Int)
 · rw [if_pos c26] at H
   have c26b0 : ((l2.length : Int) == (t421.length : Int)) = true := beq_iff_eq.mpr c26
   have c26b1 : ((l2.length : Int) != (t421.length : Int)) = false := bne_eq_false_iff_eq.mpr c26
   have c26b2 : (l2.length == t421.length) = true := by first | simpa using c26 | (simp at c26 ⊢; omega)
   clear c26
   replace H := Option.bind_eq_some_iff.mp H
   obtain ⟨t428, A270, H⟩ := H
   replace H : (some t428) = some r := H
   have A27 := Aside0.mk A270
   clear A270
   obtain rfl := Option.some.inj H
   obtain ⟨Ao28, co28, eo28⟩ := Kd.R_slice HO_7.out
   subst eo28
   obtain ⟨hcz29_0, hcz29_1, hcz29_2, hcz29_3, hcz29_4, hcz29_5⟩ := cells6 BK420
   go_wp2_with (first | ((with_reducible refine gate_callee (f := 21) rfl ?_); refine gL_ 54 Try.func21 #[.agg #[.int .i64 a0_0, .int .i64 a0_1, .bool a0_2, .slice A0_3 l0_3.length c0_3, .slice A0_4 l0_4.length c0_4, .slice A0_5 l0_5.length c0_5], .int .i64 a1, .slice A2 l2.length c2] ?_; (with_reducible refine (jacquardref33_settles.calls k2 a0_0 a0_1 a0_2 _ _ l0_3 _ _ l0_4 _ _ l0_5 a1 _ _ l2 t428 _ ?side1 ?side2 ?side3 ?side4 ?side5 ?side6 ?side7 ?side8 A27.out).mono ?_); (case side1 => exact CB_ HR0_3); (case side2 => exact HC0_3.out); (case side3 => exact CB_ HR0_4); (case side4 => exact HC0_4.out); (case side5 => exact CB_ HR0_5); (case side6 => exact HC0_5.out); (case side7 => exact CB_ HR2); (case side8 => exact HC2.out); rintro e w30 ⟨rfl, hb⟩; refine ⟨_, rfl, ?_⟩; have n0_ := Aside0.mk (Kd.R_below (R_ HO_7) hb); have n1_ := Aside0.mk (blk_below (K_ BK420) hb); have n2_ := Aside0.mk (below_step bl_ hb); clear HO_7; clear BK420; clear HB; have HO_7 := n0_; have BK420 := n1_; have HB := n2_; clear n0_ n1_ n2_; (try clear hb); (try clear hb2); (try clear hk); (try clear hi)))
   go_ret
   exact ⟨by first | rfl | (simp [errW_none, errW_some] <;> rfl) | (simp [*, errW_none, errW_some] <;> rfl), by repeat (first | (with_reducible first | exact HB.out | apply below_alloc | apply pw_below_drewN | apply below_drew1 | refine below_set ?_ GE420.out) | exact HB.out)⟩
 rw [if_neg c26] at H
 have c26b0 : ((l2.length : Int) == (t421.length : Int)) = false := beq_eq_false_iff_ne.mpr c26
 have c26b1 : ((l2.length : Int) != (t421.length : Int)) = true := bne_iff_ne.mpr c26
 have c26b2 : (l2.length == t421.length) = false := by first | simpa using c26 | (simp at c26 ⊢; omega)
 by_cases c31 : 0 ≤ (l2.length : Int)
 · rw [if_pos c31] at H
   have c31b0 : decide (0 ≤ (l2.length : Int)) = true := decide_eq_true c31
   have c31b1 : decide (0 ≤ l2.length) = true := decide_eq_true (by omega)
   clear c31
   by_cases c32 : (l2.length : Int) < (t421.length : Int)
   · rw [if_pos c32] at H
     have c32b0 : decide ((l2.length : Int) < (t421.length : Int)) = true := decide_eq_true c32
     have c32b1 : decide (l2.length < t421.length) = true := decide_eq_true (Int.ofNat_lt.mp c32)
     clear c32
     by_cases c33 : 0 ≤ (rd t421 (l2.length : Int))
     · rw [if_pos c33] at H
       have c33b0 : decide (0 ≤ (rd t421 (l2.length : Int))) = true := decide_eq_true c33
       clear c33
       by_cases c34 : (rd t421 (l2.length : Int)) < (l0_5.length : Int)
       · rw [if_pos c34] at H
         have c34b0 : decide ((rd t421 (l2.length : Int)) < (l0_5.length : Int)) = true := decide_eq_true c34
         clear c34
         by_cases c35 : ((rd_T52 l0_5 (rd t421 (l2.length : Int))).f1) > a1
         · rw [if_pos c35] at H
           have c35b0 : decide (a1 < ((rd_T52 l0_5 (rd t421 (l2.length : Int))).f1)) = true := decide_eq_true c35
           clear c35
           obtain rfl := Option.some.inj H
           obtain ⟨Ao36, co36, eo36⟩ := Kd.R_slice HO_7.out
           subst eo36
           have p429 : 0 ≤ ((l2.length : Int) : Int) := of_decide_eq_true (by first | (with_reducible assumption) | assumption)
           have q429 : (l2.length : Int) < (t421.length : Int) := of_decide_eq_true (by first | (with_reducible assumption) | assumption)
           obtain ⟨ad429, e429, hx429_0⟩ := Kd.at_int (Kd.R_reads' HO_7.out).2.2 (l2.length : Int) p429 q429
           cases e429
           (try simp only [Go.IntWalk.toNatUp] at hx429_0)
           replace p429 := eq_true p429
           replace q429 := eq_true q429
           obtain ⟨hcz37_0, hcz37_1, hcz37_2, hcz37_3, hcz37_4, hcz37_5⟩ := cells6 BK420
           have p430 : 0 ≤ ((rd t421 (l2.length : Int)) : Int) := of_decide_eq_true (by first | (with_reducible assumption) | assumption)
           have q430 : (rd t421 (l2.length : Int)) < (l0_5.length : Int) := of_decide_eq_true (by first | (with_reducible assumption) | assumption)
           obtain ⟨ad430, e430, hx430_0, hx430_1⟩ := at_T52 HR0_5.out (rd t421 (l2.length : Int)) p430 q430
           cases e430
           replace hx430_0 := hc_ HB hx430_0
           replace hx430_1 := hc_ HB hx430_1
           (try simp only [Go.IntWalk.toNatUp] at hx430_0)
           (try simp only [Go.IntWalk.toNatUp] at hx430_1)
           replace p430 := eq_true p430
           replace q430 := eq_true q430
           go_wp2
           go_ret
           exact ⟨by first | rfl | (simp [errW_none, errW_some] <;> rfl) | (simp [*, errW_none, errW_some] <;> rfl), by repeat (first | (with_reducible first | exact HB.out | apply below_alloc | apply pw_below_drewN | apply below_drew1 | refine below_set ?_ GE420.out) | exact HB.out)⟩
         rw [if_neg c35] at H
         have c35b0 : decide (a1 < ((rd_T52 l0_5 (rd t421 (l2.length : Int))).f1)) = false := decide_eq_false c35
         clear c35
         replace H := Option.bind_eq_some_iff.mp H
         obtain ⟨t431, A380, H⟩ := H
         replace H : (jacquardref33_Possible.l2 k2 a1 l2 (rd t421 (l2.length : Int)) t431 (wrap64 (a1 * t431)) 0 a0_0 a0_1 a0_2 l0_3 l0_4 l0_5) = some r := H
         have A38 := Aside0.mk A380
         clear A380
         have H' := Aside0.mk H
         clear H
         obtain ⟨Ao39, co39, eo39⟩ := Kd.R_slice HO_7.out
         subst eo39
         have p429 : 0 ≤ ((l2.length : Int) : Int) := of_decide_eq_true (by first | (with_reducible assumption) | assumption)
         have q429 : (l2.length : Int) < (t421.length : Int) := of_decide_eq_true (by first | (with_reducible assumption) | assumption)
         obtain ⟨ad429, e429, hx429_0⟩ := Kd.at_int (Kd.R_reads' HO_7.out).2.2 (l2.length : Int) p429 q429
         cases e429
         (try simp only [Go.IntWalk.toNatUp] at hx429_0)
         replace p429 := eq_true p429
         replace q429 := eq_true q429
         obtain ⟨hcz40_0, hcz40_1, hcz40_2, hcz40_3, hcz40_4, hcz40_5⟩ := cells6 BK420
         have p430 : 0 ≤ ((rd t421 (l2.length : Int)) : Int) := of_decide_eq_true (by first | (with_reducible assumption) | assumption)
         have q430 : (rd t421 (l2.length : Int)) < (l0_5.length : Int) := of_decide_eq_true (by first | (with_reducible assumption) | assumption)
         obtain ⟨ad430, e430, hx430_0, hx430_1⟩ := at_T52 HR0_5.out (rd t421 (l2.length : Int)) p430 q430
         cases e430
         replace hx430_0 := hc_ HB hx430_0
         replace hx430_1 := hc_ HB hx430_1
         (try simp only [Go.IntWalk.toNatUp] at hx430_0)
         (try simp only [Go.IntWalk.toNatUp] at hx430_1)
         replace p430 := eq_true p430
         replace q430 := eq_true q430
         go_wp2_with (first | ((with_reducible refine gate_callee (f := 23) rfl ?_); refine gL_ 71 Try.func23 #[.agg #[.int .i64 a0_0, .int .i64 a0_1, .bool a0_2, .slice A0_3 l0_3.length c0_3, .slice A0_4 l0_4.length c0_4, .slice (some ad430) l0_5.length c0_5], .slice A2 l2.length c2, .int .i64 (rd t421 (l2.length : Int))] ?_; (with_reducible refine (jacquardref33_Units.calls k2 a0_0 a0_1 a0_2 _ _ l0_3 _ _ l0_4 _ _ l0_5 _ _ l2 (rd t421 (l2.length : Int)) t431 _ ?side1 ?side2 ?side3 ?side4 ?side5 ?side6 ?side7 ?side8 A38.out).mono ?_); (case side1 => exact CB_ HR0_3); (case side2 => exact HC0_3.out); (case side3 => exact CB_ HR0_4); (case side4 => exact HC0_4.out); (case side5 => exact CB_ HR0_5); (case side6 => exact HC0_5.out); (case side7 => exact CB_ HR2); (case side8 => exact HC2.out); rintro e w41 ⟨rfl, hb⟩; refine ⟨_, rfl, ?_⟩; have n0_ := Aside0.mk (Kd.R_below (R_ HO_7) hb); have n1_ := Aside0.mk (blk_below (K_ BK420) hb); have n2_ := Aside0.mk (below_step bl_ hb); clear HO_7; clear BK420; clear HB; have HO_7 := n0_; have BK420 := n1_; have HB := n2_; clear n0_ n1_ n2_; (try clear hb); (try clear hb2); (try clear hk); (try clear hi)))
         go_loopg [75] k2 (fun kq v75 w' => ∃ (x75_3 : Int), v75 = .int .i64 x75_3 ∧ Aside0 (jacquardref33_Possible.l2 kq a1 l2 (rd t421 (l2.length : Int)) t431 (wrap64 (a1 * t431)) x75_3 a0_0 a0_1 a0_2 l0_3 l0_4 l0_5 = some r) ∧ Aside0 (kq ≤ k2) ∧ Aside0 (w'.heap[gb420]? = some (.cells #[.int .i64 a0_0, .int .i64 a0_1, .bool a0_2, (.slice A0_3 l0_3.length c0_3), (.slice A0_4 l0_4.length c0_4), (.slice (some ad430) l0_5.length c0_5)] 26 (0, 0))) ∧ Aside0 (Below w.heap.size w w'))
         case atStart => exact ⟨(0), (by first | rfl | (simp; done) | (simp [*]; done)), H', ⟨Nat.le_refl _⟩, ⟨K_ BK420⟩, ⟨bl_⟩⟩
         clear H'
         obtain ⟨x75_3, rfl, HA, HK3, BK420, HB⟩ := hrel
         cases gk with
         | zero => exact absurd HA.out (by simp [jacquardref33_Possible.l2])
         | succ k3 => ?_
         have H := HA.out
         clear HA
         simp only [jacquardref33_Possible.l2] at H
         by_cases c42 : x75_3 < (wrap64 (a1 * t431))
         · rw [if_pos c42] at H
           have c42b0 : decide (x75_3 < (wrap64 (a1 * t431))) = true := decide_eq_true c42
           clear c42
           obtain ⟨y432, hy432⟩ : ∃ y_ : List (S44), y_ = (([] : List (S44))) := ⟨_, rfl⟩
           replace H : (if y432.length + l2.length < 5864062014805 then ((some (y432 ++ l2 : List (S44))).bind fun y435 => (if t431 = 0 then (none) else ((some (([(⟨(rd t421 (l2.length : Int)), wrap64 (Int.tdiv x75_3 t431), Int.tmod x75_3 t431⟩ : S44)] : List (S44)) : List (S44))).bind fun y438 => (if y435.length + y438.length < 5864062014805 then ((jacquardref33_Possible.f k3 a0_0 a0_1 a0_2 l0_3 l0_4 l0_5 a1 (y435 ++ y438)).bind fun t444 => (if t444 = true then (some true) else (jacquardref33_Possible.l2 k3 a1 l2 (rd t421 (l2.length : Int)) t431 (wrap64 (a1 * t431)) (wrap64 (x75_3 + 1)) a0_0 a0_1 a0_2 l0_3 l0_4 l0_5))) else (none))))) else (none)) = some r := by first | (rw [hy432]; with_reducible exact H) | (have H2_ := (Option.bind_some _ _).symm.trans H; rw [hy432]; with_reducible exact H2_) | (have H2_ := (Option.bind_some _ _).symm.trans H; with_reducible exact H2_) | with_reducible exact H | (rw [hy432]; exact H) | exact H
           have Ny432 := Aside0.mk hy432
           clear hy432
           by_cases c43 : y432.length + l2.length < 5864062014805
           · rw [if_pos c43] at H
             have LMc43 := Aside0.mk c43
             clear c43
             obtain ⟨y435, hy435⟩ : ∃ y_ : List (S44), y_ = (y432 ++ l2) := ⟨_, rfl⟩
             replace H : (if t431 = 0 then (none) else ((some (([(⟨(rd t421 (l2.length : Int)), wrap64 (Int.tdiv x75_3 t431), Int.tmod x75_3 t431⟩ : S44)] : List (S44)) : List (S44))).bind fun y438 => (if y435.length + y438.length < 5864062014805 then ((jacquardref33_Possible.f k3 a0_0 a0_1 a0_2 l0_3 l0_4 l0_5 a1 (y435 ++ y438)).bind fun t444 => (if t444 = true then (some true) else (jacquardref33_Possible.l2 k3 a1 l2 (rd t421 (l2.length : Int)) t431 (wrap64 (a1 * t431)) (wrap64 (x75_3 + 1)) a0_0 a0_1 a0_2 l0_3 l0_4 l0_5))) else (none)))) = some r := by first | (rw [hy435]; with_reducible exact H) | (have H2_ := (Option.bind_some _ _).symm.trans H; rw [hy435]; with_reducible exact H2_) | (have H2_ := (Option.bind_some _ _).symm.trans H; with_reducible exact H2_) | with_reducible exact H | (rw [hy435]; exact H) | exact H
             have Ny435 := Aside0.mk hy435
             clear hy435
             by_cases c44 : t431 = 0
             · rw [if_pos c44] at H
               exact absurd H (by simp)
             rw [if_neg c44] at H
             have c44b0 : (t431 == 0) = false := beq_eq_false_iff_ne.mpr c44
             have c44b1 : (t431 != 0) = true := bne_iff_ne.mpr c44
             obtain ⟨y438, hy438⟩ : ∃ y_ : List (S44), y_ = (([(⟨(rd t421 (l2.length : Int)), wrap64 (Int.tdiv x75_3 t431), Int.tmod x75_3 t431⟩ : S44)] : List (S44))) := ⟨_, rfl⟩
             replace H : (if y435.length + y438.length < 5864062014805 then ((jacquardref33_Possible.f k3 a0_0 a0_1 a0_2 l0_3 l0_4 l0_5 a1 (y435 ++ y438)).bind fun t444 => (if t444 = true then (some true) else (jacquardref33_Possible.l2 k3 a1 l2 (rd t421 (l2.length : Int)) t431 (wrap64 (a1 * t431)) (wrap64 (x75_3 + 1)) a0_0 a0_1 a0_2 l0_3 l0_4 l0_5))) else (none)) = some r := by first | (rw [hy438]; with_reducible exact H) | (have H2_ := (Option.bind_some _ _).symm.trans H; rw [hy438]; with_reducible exact H2_) | (have H2_ := (Option.bind_some _ _).symm.trans H; with_reducible exact H2_) | with_reducible exact H | (rw [hy438]; exact H) | exact H
             have Ny438 := Aside0.mk hy438
             clear hy438
             by_cases c45 : y435.length + y438.length < 5864062014805
             · rw [if_pos c45] at H
               have LMc45 := Aside0.mk c45
               clear c45
               obtain ⟨y441, hy441⟩ : ∃ y_ : List (S44), y_ = (y435 ++ y438) := ⟨_, rfl⟩
               replace H : ((jacquardref33_Possible.f k3 a0_0 a0_1 a0_2 l0_3 l0_4 l0_5 a1 y441).bind fun t444 => (if t444 = true then (some true) else (jacquardref33_Possible.l2 k3 a1 l2 (rd t421 (l2.length : Int)) t431 (wrap64 (a1 * t431)) (wrap64 (x75_3 + 1)) a0_0 a0_1 a0_2 l0_3 l0_4 l0_5))) = some r := by first | (rw [hy441]; with_reducible exact H) | (have H2_ := (Option.bind_some _ _).symm.trans H; rw [hy441]; with_reducible exact H2_) | (have H2_ := (Option.bind_some _ _).symm.trans H; with_reducible exact H2_) | with_reducible exact H | (rw [hy441]; exact H) | exact H
               have Ny441 := Aside0.mk hy441
               clear hy441
               replace H := Option.bind_eq_some_iff.mp H
               obtain ⟨t444, A460, H⟩ := H
               replace H : (if t444 = true then (some true) else (jacquardref33_Possible.l2 k3 a1 l2 (rd t421 (l2.length : Int)) t431 (wrap64 (a1 * t431)) (wrap64 (x75_3 + 1)) a0_0 a0_1 a0_2 l0_3 l0_4 l0_5)) = some r := H
               have A46 := Aside0.mk A460
               clear A460
               by_cases c47 : t444 = true
               · subst c47
                 have H1 : (some true) = some r := by rw [if_pos rfl] at H; exact H
                 clear H
                 have H := H1
                 clear H1
                 obtain rfl := Option.some.inj H
                 try go_wp2
                 have n0_ := Aside0.mk (blk_drew BK420.out)
                 have n1_ := Aside0.mk (below_drew1 HB.out)
                 clear BK420
                 clear HB
                 have BK420 := n0_
                 have HB := n1_
                 clear n0_ n1_
                 refine start_ (n := 16) (S := fun w' => w'.cell? ⟨gb420, 0, none⟩ = some (.int .i64 a0_0) ∧ w'.cell? ⟨gb420, 1, none⟩ = some (.int .i64 a0_1) ∧ w'.cell? ⟨gb420, 2, none⟩ = some (.bool a0_2) ∧ w'.cell? ⟨gb420, 3, none⟩ = some (.slice A0_3 l0_3.length c0_3) ∧ w'.cell? ⟨gb420, 4, none⟩ = some (.slice A0_4 l0_4.length c0_4) ∧ w'.cell? ⟨gb420, 5, none⟩ = some (.slice (some ad430) l0_5.length c0_5)) (ds := []) (bz 16 0) (by kernel_rfl) rfl rfl ⟨(blk_cell BK420.out 0).trans rfl, (blk_cell BK420.out 1).trans rfl, (blk_cell BK420.out 2).trans rfl, (blk_cell BK420.out 3).trans rfl, (blk_cell BK420.out 4).trans rfl, (blk_cell BK420.out 5).trans rfl⟩ (fun hHeld => ?_); refine with_tabW jacquardref33_Possible.tab23 jacquardref33_Possible.bits23 (fun HT_ HW_ => ?_)
                 generalize wr.drew = w48 at BK420 HB hHeld ⊢
                 refine pu_ 1 79 HT_ ?_
                 refine pu_ 3 81 HT_ ?_
                 refine pu_ 5 83 HT_ ?_
                 refine pu_ 6 84 HT_ ?_
                 refine pu_ 7 85 HT_ ?_
                 refine pu_ 8 86 HT_ ?_
                 refine pu_ 9 87 HT_ ?_
                 refine pu_ 10 88 HT_ ?_
                 refine pu_ 11 89 HT_ ?_
                 refine pu_ 12 90 HT_ ?_
                 refine tk_ 0 78 HT_ HW_ hHeld ?_ (hy := by rintro w' ⟨s0, s1, s2, s3, s4, s5⟩; go_simp; with_reducible rfl)
                 refine join_ (σ := Value × Value × Value) 2 (bz 16 16383) (fun s_ => [(80, s_.1), (82, s_.2.1), (91, s_.2.2)]) (fun s_ w' => (w'.cell? ⟨gb420, 0, none⟩ = some (.int .i64 a0_0) ∧ w'.cell? ⟨gb420, 1, none⟩ = some (.int .i64 a0_1) ∧ w'.cell? ⟨gb420, 2, none⟩ = some (.bool a0_2) ∧ w'.cell? ⟨gb420, 3, none⟩ = some (.slice A0_3 l0_3.length c0_3) ∧ w'.cell? ⟨gb420, 4, none⟩ = some (.slice A0_4 l0_4.length c0_4) ∧ w'.cell? ⟨gb420, 5, none⟩ = some (.slice (some ad430) l0_5.length c0_5)) ∧ (Kd.R k44 44 w' w.heap.size (fun k_ => some k_ ≠ (s_.2.2 : Value).ownBlock) s_.2.1 y435) ∧ (Kd.R k44 44 w' w.heap.size (fun k_ => some k_ ≠ (s_.2.1 : Value).ownBlock) s_.2.2 y438) ∧ (w'.heap[gb420]? = some (.cells #[.int .i64 a0_0, .int .i64 a0_1, .bool a0_2, .slice A0_3 l0_3.length c0_3, .slice A0_4 l0_4.length c0_4, .slice (some ad430) l0_5.length c0_5] 26 (0, 0))) ∧ (Below w.heap.size w w')) ?_ ?_
                 rotate_left
                 · intro hCont
                   refine two_ (i := 2) (j := 13) (Ni := some 80) (Nj := some 91) (bz 16 8175) (bz 16 16363) rfl rfl rfl rfl (two_of HT_.out (by kernel_rfl)) (by decide) (by decide) (fun K hK => ?_) (fun K hK => ?_)
                   · skip
                     refine Kd.R_lit_step k44 _ 44 ?hg (N := 80) ?hd (xs := ([] : List (S44))) (inner := []) (ok := fun _ => True) (okp := fun _ => True) ?hr ?hp (fun _ hk => hk) trivial (Below.refl _ _) (Nat.le_refl _) (by simp) ?_; (case hd => rfl); (case hg => rfl); (case hr => first | (go_simp; done) | (go_simp; rfl)); (case hp => exact (Reps.none _ _))
                     intro v433 w49 ho50 hb hg_ hnew_
                     clear hg_ hnew_
                     (first | rw [← Ny432.out] at ho50 | (simp only [Int.reduceToNat] at ho50; rw [← Ny432.out] at ho50))
                     have n0_ := Aside0.mk (Kd.R_lower ho50 (below_size bl_))
                     have n1_ := Aside0.mk (blk_below (K_ BK420) hb)
                     have n2_ := Aside0.mk (below_step bl_ hb)
                     clear BK420
                     clear HB
                     have HO434 := n0_
                     have BK420 := n1_
                     have HB := n2_
                     clear n0_ n1_ n2_
                     clear hb ho50
                     refine hK.out _ _ ⟨(blk_cell BK420.out 0).trans rfl, (blk_cell BK420.out 1).trans rfl, (blk_cell BK420.out 2).trans rfl, (blk_cell BK420.out 3).trans rfl, (blk_cell BK420.out 4).trans rfl, (blk_cell BK420.out 5).trans rfl⟩ (fun hHeld => ?_)
                     clear hK K
                     refine no_ 80 ?_
                     refine two_ (i := 4) (j := 13) (Ni := some 82) (Nj := some 91) (bz 16 8191) (bz 16 16367) rfl rfl rfl rfl (two_of HT_.out (by kernel_rfl)) (by decide) (by decide) (fun K hK => ?_) (fun K hK => ?_)
                     · skip
                       refine Kd.R_append_rows_step k44 (w0 := w) w.heap.size (by rfl) (.tmp 80) (.tmp 81) 42 44 (.agg #[(.int .i64 0), (.int .i64 0), (.int .i64 0)]) 24 rfl Try.underlying42 info44 rfl (by decide) (by omega) v433 y432 l2 _ _ _ (fun _ => True) (fun _ => False) rfl rfl ?aO ?aR (fun _ _ h => h) (fun _ h => h.elim) ?aF ?aB ?aS ?aL ?_
                       (case aR => exact CB_ HR2)
                       (case aB => exact bl_)
                       (case aF => exact (fun _ _ => trivial))
                       (case aO => exact (R_ HO434))
                       (case aS => exact (below_size bl_))
                       (case aL => have := LMc43.out; omega)
                       intro v436 w51 ho hb hg hat
                       rw [← Ny435.out] at ho
                       have n0_ := Aside0.mk (blk_grown (K_ BK420) hg (Kd.R_ne HO434.out BK420.out (by decide)))
                       have n1_ := Aside0.mk (hb)
                       have n2_ := Aside0.mk (ho)
                       clear BK420
                       clear HB
                       clear HO434
                       have BK420 := n0_
                       have HB := n1_
                       have HO437 := n2_
                       clear n0_ n1_ n2_
                       clear ho hb hg hat
                       refine hK.out _ _ ⟨(blk_cell BK420.out 0).trans rfl, (blk_cell BK420.out 1).trans rfl, (blk_cell BK420.out 2).trans rfl, (blk_cell BK420.out 3).trans rfl, (blk_cell BK420.out 4).trans rfl, (blk_cell BK420.out 5).trans rfl⟩ (fun hHeld => ?_)
                       clear hK K
                       refine no_ 82 ?_
                       refine on_ 13 (some 91) HT_ (fun K hK => ?_)
                       refine Kd.R_lit_step k44 _ 44 ?hg (N := 91) ?hd (xs := ([(⟨(rd t421 (l2.length : Int)), wrap64 (Int.tdiv x75_3 t431), Int.tmod x75_3 t431⟩ : S44)] : List (S44))) (inner := [.int .i64 (rd t421 (l2.length : Int)), .int .i64 (wrap64 (Int.tdiv x75_3 t431)), .int .i64 (Int.tmod x75_3 t431)]) (ok := fun _ => True) (okp := fun _ => True) ?hr ?hp (fun _ hk => hk) trivial (Below.refl _ _) (Nat.le_refl _) (by simp) ?_; (case hd => rfl); (case hg => rfl); (case hr => first | (go_simp; done) | (go_simp; rfl)); (case hp => exact (Reps.c3 (show Kd.M k44 _ _ _ (⟨(rd t421 (l2.length : Int)), wrap64 (Int.tdiv x75_3 t431), Int.tmod x75_3 t431⟩ : S44) [.int .i64 (rd t421 (l2.length : Int)), .int .i64 (wrap64 (Int.tdiv x75_3 t431)), .int .i64 (Int.tmod x75_3 t431)] from (k44_mkM _ _ _ (⟨(rd t421 (l2.length : Int)), wrap64 (Int.tdiv x75_3 t431), Int.tmod x75_3 t431⟩ : S44) )) (Reps.none _ _)))
                       intro v439 w52 ho53 hb hg_ hnew_
                       clear hg_ hnew_
                       (first | rw [← Ny438.out] at ho53 | (simp only [Int.reduceToNat] at ho53; rw [← Ny438.out] at ho53))
                       have n0_ := Aside0.mk (Kd.R_elder' (R_ HO437) (Kd.R_base ho53) hb)
                       have n1_ := Aside0.mk (Kd.R_lower (Kd.R_new' ho53 (Kd.R_lt (R_ HO437))) (below_size bl_))
                       have n2_ := Aside0.mk (blk_below (K_ BK420) hb)
                       have n3_ := Aside0.mk (below_step bl_ hb)
                       clear HO437
                       clear BK420
                       clear HB
                       have HO437 := n0_
                       have HO440 := n1_
                       have BK420 := n2_
                       have HB := n3_
                       clear n0_ n1_ n2_ n3_
                       clear hb ho53
                       refine hK.out _ _ ⟨(blk_cell BK420.out 0).trans rfl, (blk_cell BK420.out 1).trans rfl, (blk_cell BK420.out 2).trans rfl, (blk_cell BK420.out 3).trans rfl, (blk_cell BK420.out 4).trans rfl, (blk_cell BK420.out 5).trans rfl⟩ (fun hHeld => ?_)
                       clear hK K
                       refine no_ 91 ?_
                       exact norm_ (by simp only [putAll, Act.put, List.setIfInBounds_toArray, List.set_cons_zero, List.set_cons_succ]) (hCont (v433, v436, v439) _ ⟨hHeld, (by (with_reducible repeat (first | apply Kd.R_alloc | apply Kd.R_drewN | apply Kd.R_drew)); exact Kd.R_mono HO437.out (fun _ hk => hk.2)), (by (with_reducible repeat (first | apply Kd.R_alloc | apply Kd.R_drewN | apply Kd.R_drew)); exact Kd.R_mono HO440.out (fun _ hk => hk.2)), (K_ BK420), bl_⟩)
                     skip
                     refine Kd.R_lit_step k44 _ 44 ?hg (N := 91) ?hd (xs := ([(⟨(rd t421 (l2.length : Int)), wrap64 (Int.tdiv x75_3 t431), Int.tmod x75_3 t431⟩ : S44)] : List (S44))) (inner := [.int .i64 (rd t421 (l2.length : Int)), .int .i64 (wrap64 (Int.tdiv x75_3 t431)), .int .i64 (Int.tmod x75_3 t431)]) (ok := fun _ => True) (okp := fun _ => True) ?hr ?hp (fun _ hk => hk) trivial (Below.refl _ _) (Nat.le_refl _) (by simp) ?_; (case hd => rfl); (case hg => rfl); (case hr => first | (go_simp; done) | (go_simp; rfl)); (case hp => exact (Reps.c3 (show Kd.M k44 _ _ _ (⟨(rd t421 (l2.length : Int)), wrap64 (Int.tdiv x75_3 t431), Int.tmod x75_3 t431⟩ : S44) [.int .i64 (rd t421 (l2.length : Int)), .int .i64 (wrap64 (Int.tdiv x75_3 t431)), .int .i64 (Int.tmod x75_3 t431)] from (k44_mkM _ _ _ (⟨(rd t421 (l2.length : Int)), wrap64 (Int.tdiv x75_3 t431), Int.tmod x75_3 t431⟩ : S44) )) (Reps.none _ _)))
                     intro v439 w51 ho52 hb hg_ hnew_
                     clear hg_ hnew_
                     (first | rw [← Ny438.out] at ho52 | (simp only [Int.reduceToNat] at ho52; rw [← Ny438.out] at ho52))
                     have n0_ := Aside0.mk (Kd.R_elder' (R_ HO434) (Kd.R_base ho52) hb)
                     have n1_ := Aside0.mk (Kd.R_lower (Kd.R_new' ho52 (Kd.R_lt (R_ HO434))) (below_size bl_))
                     have n2_ := Aside0.mk (blk_below (K_ BK420) hb)
                     have n3_ := Aside0.mk (below_step bl_ hb)
                     clear HO434
                     clear BK420
                     clear HB
                     have HO434 := n0_
                     have HO440 := n1_
                     have BK420 := n2_
                     have HB := n3_
                     clear n0_ n1_ n2_ n3_
                     clear hb ho52
                     refine hK.out _ _ ⟨(blk_cell BK420.out 0).trans rfl, (blk_cell BK420.out 1).trans rfl, (blk_cell BK420.out 2).trans rfl, (blk_cell BK420.out 3).trans rfl, (blk_cell BK420.out 4).trans rfl, (blk_cell BK420.out 5).trans rfl⟩ (fun hHeld => ?_)
                     clear hK K
                     refine no_ 91 ?_
                     refine on_ 4 (some 82) HT_ (fun K hK => ?_)
                     refine Kd.R_append_rows_step k44 (w0 := w) w.heap.size (by rfl) (.tmp 80) (.tmp 81) 42 44 (.agg #[(.int .i64 0), (.int .i64 0), (.int .i64 0)]) 24 rfl Try.underlying42 info44 rfl (by decide) (by omega) v433 y432 l2 _ _ _ (fun k_ => some k_ ≠ (v439 : Value).ownBlock) (fun _ => False) rfl rfl ?aO ?aR (fun _ _ h => h) (fun _ h => h.elim) ?aF ?aB ?aS ?aL ?_
                     (case aR => exact CB_ HR2)
                     (case aB => exact bl_)
                     (case aF => exact (fun k_ hk => Kd.fresh' (Kd.R_lt (R_ HO440)) k_ hk))
                     (case aO => exact (by (with_reducible repeat (first | apply Kd.R_alloc | apply Kd.R_drewN | apply Kd.R_drew)); exact Kd.R_mono HO434.out (fun _ hk => hk.2)))
                     (case aS => exact (below_size bl_))
                     (case aL => have := LMc43.out; omega)
                     intro v436 w53 ho hb hg hat
                     rw [← Ny435.out] at ho
                     have n0_ := Aside0.mk (blk_grown (K_ BK420) hg (Kd.R_ne HO434.out BK420.out (by decide)))
                     have n1_ := Aside0.mk (Kd.R_after (ok := (fun _ => True)) (R_ HO440) hg hat)
                     have n2_ := Aside0.mk (hb)
                     have n3_ := Aside0.mk (ho)
                     clear BK420
                     clear HO440
                     clear HB
                     clear HO434
                     have BK420 := n0_
                     have HO440 := n1_
                     have HB := n2_
                     have HO437 := n3_
                     clear n0_ n1_ n2_ n3_
                     clear ho hb hg hat
                     refine hK.out _ _ ⟨(blk_cell BK420.out 0).trans rfl, (blk_cell BK420.out 1).trans rfl, (blk_cell BK420.out 2).trans rfl, (blk_cell BK420.out 3).trans rfl, (blk_cell BK420.out 4).trans rfl, (blk_cell BK420.out 5).trans rfl⟩ (fun hHeld => ?_)
                     clear hK K
                     refine no_ 82 ?_
                     exact norm_ (by simp only [putAll, Act.put, List.setIfInBounds_toArray, List.set_cons_zero, List.set_cons_succ]) (hCont (v433, v436, v439) _ ⟨hHeld, (R_ HO437), (by (with_reducible repeat (first | apply Kd.R_alloc | apply Kd.R_drewN | apply Kd.R_drew)); exact Kd.R_mono HO440.out (fun _ hk => hk.2)), (K_ BK420), bl_⟩)
                   skip
                   refine Kd.R_lit_step k44 _ 44 ?hg (N := 91) ?hd (xs := ([(⟨(rd t421 (l2.length : Int)), wrap64 (Int.tdiv x75_3 t431), Int.tmod x75_3 t431⟩ : S44)] : List (S44))) (inner := [.int .i64 (rd t421 (l2.length : Int)), .int .i64 (wrap64 (Int.tdiv x75_3 t431)), .int .i64 (Int.tmod x75_3 t431)]) (ok := fun _ => True) (okp := fun _ => True) ?hr ?hp (fun _ hk => hk) trivial (Below.refl _ _) (Nat.le_refl _) (by simp) ?_; (case hd => rfl); (case hg => rfl); (case hr => first | (go_simp; done) | (go_simp; rfl)); (case hp => exact (Reps.c3 (show Kd.M k44 _ _ _ (⟨(rd t421 (l2.length : Int)), wrap64 (Int.tdiv x75_3 t431), Int.tmod x75_3 t431⟩ : S44) [.int .i64 (rd t421 (l2.length : Int)), .int .i64 (wrap64 (Int.tdiv x75_3 t431)), .int .i64 (Int.tmod x75_3 t431)] from (k44_mkM _ _ _ (⟨(rd t421 (l2.length : Int)), wrap64 (Int.tdiv x75_3 t431), Int.tmod x75_3 t431⟩ : S44) )) (Reps.none _ _)))
                   intro v439 w49 ho50 hb hg_ hnew_
                   clear hg_ hnew_
                   (first | rw [← Ny438.out] at ho50 | (simp only [Int.reduceToNat] at ho50; rw [← Ny438.out] at ho50))
                   have n0_ := Aside0.mk (Kd.R_lower ho50 (below_size bl_))
                   have n1_ := Aside0.mk (blk_below (K_ BK420) hb)
                   have n2_ := Aside0.mk (below_step bl_ hb)
                   clear BK420
                   clear HB
                   have HO440 := n0_
                   have BK420 := n1_
                   have HB := n2_
                   clear n0_ n1_ n2_
                   clear hb ho50
                   refine hK.out _ _ ⟨(blk_cell BK420.out 0).trans rfl, (blk_cell BK420.out 1).trans rfl, (blk_cell BK420.out 2).trans rfl, (blk_cell BK420.out 3).trans rfl, (blk_cell BK420.out 4).trans rfl, (blk_cell BK420.out 5).trans rfl⟩ (fun hHeld => ?_)
                   clear hK K
                   refine no_ 91 ?_
                   refine on_ 2 (some 80) HT_ (fun K hK => ?_)
                   refine Kd.R_lit_step k44 _ 44 ?hg (N := 80) ?hd (xs := ([] : List (S44))) (inner := []) (ok := fun _ => True) (okp := fun _ => True) ?hr ?hp (fun _ hk => hk) trivial (Below.refl _ _) (Nat.le_refl _) (by simp) ?_; (case hd => rfl); (case hg => rfl); (case hr => first | (go_simp; done) | (go_simp; rfl)); (case hp => exact (Reps.none _ _))
                   intro v433 w51 ho52 hb hg_ hnew_
                   clear hg_ hnew_
                   (first | rw [← Ny432.out] at ho52 | (simp only [Int.reduceToNat] at ho52; rw [← Ny432.out] at ho52))
                   have n0_ := Aside0.mk (Kd.R_elder' (R_ HO440) (Kd.R_base ho52) hb)
                   have n1_ := Aside0.mk (Kd.R_lower (Kd.R_new' ho52 (Kd.R_lt (R_ HO440))) (below_size bl_))
                   have n2_ := Aside0.mk (blk_below (K_ BK420) hb)
                   have n3_ := Aside0.mk (below_step bl_ hb)
                   clear HO440
                   clear BK420
                   clear HB
                   have HO440 := n0_
                   have HO434 := n1_
                   have BK420 := n2_
                   have HB := n3_
                   clear n0_ n1_ n2_ n3_
                   clear hb ho52
                   refine hK.out _ _ ⟨(blk_cell BK420.out 0).trans rfl, (blk_cell BK420.out 1).trans rfl, (blk_cell BK420.out 2).trans rfl, (blk_cell BK420.out 3).trans rfl, (blk_cell BK420.out 4).trans rfl, (blk_cell BK420.out 5).trans rfl⟩ (fun hHeld => ?_)
                   clear hK K
                   refine no_ 80 ?_
                   refine on_ 4 (some 82) HT_ (fun K hK => ?_)
                   refine Kd.R_append_rows_step k44 (w0 := w) w.heap.size (by rfl) (.tmp 80) (.tmp 81) 42 44 (.agg #[(.int .i64 0), (.int .i64 0), (.int .i64 0)]) 24 rfl Try.underlying42 info44 rfl (by decide) (by omega) v433 y432 l2 _ _ _ (fun k_ => some k_ ≠ (v439 : Value).ownBlock) (fun _ => False) rfl rfl ?aO ?aR (fun _ _ h => h) (fun _ h => h.elim) ?aF ?aB ?aS ?aL ?_
                   (case aR => exact CB_ HR2)
                   (case aB => exact bl_)
                   (case aF => exact (fun k_ hk => Kd.fresh' (Kd.R_lt (R_ HO440)) k_ hk))
                   (case aO => exact (by (with_reducible repeat (first | apply Kd.R_alloc | apply Kd.R_drewN | apply Kd.R_drew)); exact Kd.R_mono HO434.out (fun _ hk => hk.2)))
                   (case aS => exact (below_size bl_))
                   (case aL => have := LMc43.out; omega)
                   intro v436 w53 ho hb hg hat
                   rw [← Ny435.out] at ho
                   have n0_ := Aside0.mk (blk_grown (K_ BK420) hg (Kd.R_ne HO434.out BK420.out (by decide)))
                   have n1_ := Aside0.mk (Kd.R_after (ok := (fun _ => True)) (R_ HO440) hg hat)
                   have n2_ := Aside0.mk (hb)
                   have n3_ := Aside0.mk (ho)
                   clear BK420
                   clear HO440
                   clear HB
                   clear HO434
                   have BK420 := n0_
                   have HO440 := n1_
                   have HB := n2_
                   have HO437 := n3_
                   clear n0_ n1_ n2_ n3_
                   clear ho hb hg hat
                   refine hK.out _ _ ⟨(blk_cell BK420.out 0).trans rfl, (blk_cell BK420.out 1).trans rfl, (blk_cell BK420.out 2).trans rfl, (blk_cell BK420.out 3).trans rfl, (blk_cell BK420.out 4).trans rfl, (blk_cell BK420.out 5).trans rfl⟩ (fun hHeld => ?_)
                   clear hK K
                   refine no_ 82 ?_
                   exact norm_ (by simp only [putAll, Act.put, List.setIfInBounds_toArray, List.set_cons_zero, List.set_cons_succ]) (hCont (v433, v436, v439) _ ⟨hHeld, (R_ HO437), (by (with_reducible repeat (first | apply Kd.R_alloc | apply Kd.R_drewN | apply Kd.R_drew)); exact Kd.R_mono HO440.out (fun _ hk => hk.2)), (K_ BK420), bl_⟩)
                 rintro ⟨v433, v436, v439⟩ w54 ⟨hS_, h0_, h1_, h2_, h3_⟩
                 have n0_ : Aside0 (Kd.R k44 44 w54 w.heap.size (fun k_ => some k_ ≠ (v439 : Value).ownBlock) v436 y435) := ⟨h0_⟩
                 have n1_ : Aside0 (Kd.R k44 44 w54 w.heap.size (fun k_ => some k_ ≠ (v436 : Value).ownBlock) v439 y438) := ⟨h1_⟩
                 have n2_ : Aside0 (w54.heap[gb420]? = some (.cells #[.int .i64 a0_0, .int .i64 a0_1, .bool a0_2, .slice A0_3 l0_3.length c0_3, .slice A0_4 l0_4.length c0_4, .slice (some ad430) l0_5.length c0_5] 26 (0, 0))) := ⟨h2_⟩
                 have n3_ : Aside0 (Below w.heap.size w w54) := ⟨h3_⟩
                 clear BK420
                 clear HB
                 clear h0_ h1_ h2_ h3_
                 have HO437 := n0_
                 have HO440 := n1_
                 have BK420 := n2_
                 have HB := n3_
                 clear n0_ n1_ n2_ n3_
                 have hHeld : w54.cell? ⟨gb420, 0, none⟩ = some (.int .i64 a0_0) ∧ w54.cell? ⟨gb420, 1, none⟩ = some (.int .i64 a0_1) ∧ w54.cell? ⟨gb420, 2, none⟩ = some (.bool a0_2) ∧ w54.cell? ⟨gb420, 3, none⟩ = some (.slice A0_3 l0_3.length c0_3) ∧ w54.cell? ⟨gb420, 4, none⟩ = some (.slice A0_4 l0_4.length c0_4) ∧ w54.cell? ⟨gb420, 5, none⟩ = some (.slice (some ad430) l0_5.length c0_5) := hS_
                 obtain ⟨Ao56, co56, eo56⟩ := Kd.R_slice HO440.out
                 (first | subst eo56 | (injection eo56 with f1_ f2_ f3_; have f4_ := f1_.symm; have f5_ := f3_.symm; clear f1_ f2_ f3_; subst f4_; subst f5_))
                 refine norm_ (a' := ?_) ?_ ?_
                 rotate_left
                 · simp only [putAll, Act.put, List.setIfInBounds_toArray, List.set_cons_zero, List.set_cons_succ]
                   rfl
                 refine on_ 14 (some 92) HT_ (fun K hK => ?_)
                 refine Kd.R_append_rows_step k44 (w0 := w) w.heap.size (by rfl) (.tmp 82) (.tmp 91) 42 44 (.agg #[(.int .i64 0), (.int .i64 0), (.int .i64 0)]) 24 rfl Try.underlying42 info44 rfl (by decide) (by omega) v436 y435 y438 _ _ _ (fun k_ => some k_ ≠ (.slice Ao56 y438.length co56 : Value).ownBlock) (fun _ => False) rfl rfl ?aO ?aR (fun _ _ h => h) (fun _ h => h.elim) ?aF ?aB ?aS ?aL ?_
                 (case aR => exact CR_ HO440)
                 (case aB => exact bl_)
                 (case aF => exact (fun k_ hk => Kd.fresh' (Kd.R_lt (R_ HO440)) k_ hk))
                 (case aO => exact (R_ HO437))
                 (case aS => exact (below_size bl_))
                 (case aL => have := LMc45.out; omega)
                 intro v442 w55 ho hb hg hat
                 rw [← Ny441.out] at ho
                 have n0_ := Aside0.mk (blk_grown (K_ BK420) hg (Kd.R_ne HO437.out BK420.out (by decide)))
                 have n1_ := Aside0.mk (Kd.R_after (ok := (fun _ => True)) (by (with_reducible repeat (first | apply Kd.R_alloc | apply Kd.R_drewN | apply Kd.R_drew)); exact Kd.R_mono HO440.out (fun _ hk => ⟨trivial, hk⟩)) hg hat)
                 have n2_ := Aside0.mk (hb)
                 have n3_ := Aside0.mk (ho)
                 clear BK420
                 clear HO440
                 clear HB
                 clear HO437
                 have BK420 := n0_
                 have HO440 := n1_
                 have HB := n2_
                 have HO443 := n3_
                 clear n0_ n1_ n2_ n3_
                 clear ho hb hg hat
                 obtain ⟨Ao57, co57, eo57⟩ := Kd.R_slice HO443.out
                 (first | subst eo57 | (injection eo57 with f1_ f2_ f3_; have f4_ := f1_.symm; have f5_ := f3_.symm; clear f1_ f2_ f3_; subst f4_; subst f5_))
                 refine hK.out _ _ ⟨(blk_cell BK420.out 0).trans rfl, (blk_cell BK420.out 1).trans rfl, (blk_cell BK420.out 2).trans rfl, (blk_cell BK420.out 3).trans rfl, (blk_cell BK420.out 4).trans rfl, (blk_cell BK420.out 5).trans rfl⟩ (fun hHeld => ?_)
                 clear hK K
                 refine no_ 92 ?_
                 refine on_ 15 (some 93) HT_ (fun K hK => ?_)
                 refine gs_ Try.func10 #[.agg #[.int .i64 a0_0, .int .i64 a0_1, .bool a0_2, .slice A0_3 l0_3.length c0_3, .slice A0_4 l0_4.length c0_4, .slice (some ad430) l0_5.length c0_5], .int .i64 a1, .slice Ao57 y441.length co57] ?_
                 with_reducible refine (ih k3 (by have := HJ4.out; have := HK2.out; have := HK3.out; omega) a0_0 a0_1 a0_2 _ _ l0_3 _ _ l0_4 _ _ l0_5 a1 _ _ y441 true _ ?side1 ?side2 ?side3 ?side4 ?side5 ?side6 ?side7 ?side8 A46.out).mono ?_
                 (case side1 => exact CB_ HR0_3)
                 (case side2 => exact HC0_3.out)
                 (case side3 => exact CB_ HR0_4)
                 (case side4 => exact HC0_4.out)
                 (case side5 => exact CB_ HR0_5)
                 (case side6 => exact HC0_5.out)
                 (case side7 => exact CR_ HO443)
                 (case side8 => exact (Kd.R_reads' HO443.out).2.1)
                 rintro e w58 ⟨rfl, hb⟩
                 refine ⟨_, rfl, ?_⟩
                 have n0_ := Aside0.mk (Kd.R_below (R_ HO440) hb)
                 have n1_ := Aside0.mk (Kd.R_below (R_ HO443) hb)
                 have n2_ := Aside0.mk (blk_below (K_ BK420) hb)
                 have n3_ := Aside0.mk (below_step bl_ hb)
                 clear HO440
                 clear HO443
                 clear BK420
                 clear HB
                 have HO440 := n0_
                 have HO443 := n1_
                 have BK420 := n2_
                 have HB := n3_
                 clear n0_ n1_ n2_ n3_
                 refine hK.out _ _ ⟨(blk_cell BK420.out 0).trans rfl, (blk_cell BK420.out 1).trans rfl, (blk_cell BK420.out 2).trans rfl, (blk_cell BK420.out 3).trans rfl, (blk_cell BK420.out 4).trans rfl, (blk_cell BK420.out 5).trans rfl⟩ (fun hHeld => ?_)
                 clear hK K
                 refine no_ 93 ?_
                 refine done_ (done_of HT_.out (by kernel_rfl)) ?_
                 try go_wp2
                 go_ret
                 exact ⟨by first | rfl | (simp [errW_none, errW_some] <;> rfl) | (simp [*, errW_none, errW_some] <;> rfl), by repeat (first | (with_reducible first | exact HB.out | apply below_alloc | apply pw_below_drewN | apply below_drew1 | refine below_set ?_ GE420.out) | exact HB.out)⟩
               replace c47 := Bool.eq_false_iff.mpr c47
               subst c47
               have H1 : (jacquardref33_Possible.l2 k3 a1 l2 (rd t421 (l2.length : Int)) t431 (wrap64 (a1 * t431)) (wrap64 (x75_3 + 1)) a0_0 a0_1 a0_2 l0_3 l0_4 l0_5) = some r := by rw [if_neg (show ¬ (false = true) by decide)] at H; exact H
               clear H
               have H := H1
               clear H1
               have H' := Aside0.mk H
               clear H
               try go_wp2
               have n0_ := Aside0.mk (blk_drew BK420.out)
               have n1_ := Aside0.mk (below_drew1 HB.out)
               clear BK420
               clear HB
               have BK420 := n0_
               have HB := n1_
               clear n0_ n1_
               refine start_ (n := 16) (S := fun w' => w'.cell? ⟨gb420, 0, none⟩ = some (.int .i64 a0_0) ∧ w'.cell? ⟨gb420, 1, none⟩ = some (.int .i64 a0_1) ∧ w'.cell? ⟨gb420, 2, none⟩ = some (.bool a0_2) ∧ w'.cell? ⟨gb420, 3, none⟩ = some (.slice A0_3 l0_3.length c0_3) ∧ w'.cell? ⟨gb420, 4, none⟩ = some (.slice A0_4 l0_4.length c0_4) ∧ w'.cell? ⟨gb420, 5, none⟩ = some (.slice (some ad430) l0_5.length c0_5)) (ds := []) (bz 16 0) (by kernel_rfl) rfl rfl ⟨(blk_cell BK420.out 0).trans rfl, (blk_cell BK420.out 1).trans rfl, (blk_cell BK420.out 2).trans rfl, (blk_cell BK420.out 3).trans rfl, (blk_cell BK420.out 4).trans rfl, (blk_cell BK420.out 5).trans rfl⟩ (fun hHeld => ?_); refine with_tabW jacquardref33_Possible.tab23 jacquardref33_Possible.bits23 (fun HT_ HW_ => ?_)
               generalize wr.drew = w59 at BK420 HB hHeld ⊢
               refine pu_ 1 79 HT_ ?_
               refine pu_ 3 81 HT_ ?_
               refine pu_ 5 83 HT_ ?_
               refine pu_ 6 84 HT_ ?_
               refine pu_ 7 85 HT_ ?_
               refine pu_ 8 86 HT_ ?_
               refine pu_ 9 87 HT_ ?_
               refine pu_ 10 88 HT_ ?_
               refine pu_ 11 89 HT_ ?_
               refine pu_ 12 90 HT_ ?_
               refine tk_ 0 78 HT_ HW_ hHeld ?_ (hy := by rintro w' ⟨s0, s1, s2, s3, s4, s5⟩; go_simp; with_reducible rfl)
               refine join_ (σ := Value × Value × Value) 2 (bz 16 16383) (fun s_ => [(80, s_.1), (82, s_.2.1), (91, s_.2.2)]) (fun s_ w' => (w'.cell? ⟨gb420, 0, none⟩ = some (.int .i64 a0_0) ∧ w'.cell? ⟨gb420, 1, none⟩ = some (.int .i64 a0_1) ∧ w'.cell? ⟨gb420, 2, none⟩ = some (.bool a0_2) ∧ w'.cell? ⟨gb420, 3, none⟩ = some (.slice A0_3 l0_3.length c0_3) ∧ w'.cell? ⟨gb420, 4, none⟩ = some (.slice A0_4 l0_4.length c0_4) ∧ w'.cell? ⟨gb420, 5, none⟩ = some (.slice (some ad430) l0_5.length c0_5)) ∧ (Kd.R k44 44 w' w.heap.size (fun k_ => some k_ ≠ (s_.2.2 : Value).ownBlock) s_.2.1 y435) ∧ (Kd.R k44 44 w' w.heap.size (fun k_ => some k_ ≠ (s_.2.1 : Value).ownBlock) s_.2.2 y438) ∧ (w'.heap[gb420]? = some (.cells #[.int .i64 a0_0, .int .i64 a0_1, .bool a0_2, .slice A0_3 l0_3.length c0_3, .slice A0_4 l0_4.length c0_4, .slice (some ad430) l0_5.length c0_5] 26 (0, 0))) ∧ (Below w.heap.size w w')) ?_ ?_
               rotate_left
               · intro hCont
                 refine two_ (i := 2) (j := 13) (Ni := some 80) (Nj := some 91) (bz 16 8175) (bz 16 16363) rfl rfl rfl rfl (two_of HT_.out (by kernel_rfl)) (by decide) (by decide) (fun K hK => ?_) (fun K hK => ?_)
                 · skip
                   refine Kd.R_lit_step k44 _ 44 ?hg (N := 80) ?hd (xs := ([] : List (S44))) (inner := []) (ok := fun _ => True) (okp := fun _ => True) ?hr ?hp (fun _ hk => hk) trivial (Below.refl _ _) (Nat.le_refl _) (by simp) ?_; (case hd => rfl); (case hg => rfl); (case hr => first | (go_simp; done) | (go_simp; rfl)); (case hp => exact (Reps.none _ _))
                   intro v433 w60 ho61 hb hg_ hnew_
                   clear hg_ hnew_
                   (first | rw [← Ny432.out] at ho61 | (simp only [Int.reduceToNat] at ho61; rw [← Ny432.out] at ho61))
                   have n0_ := Aside0.mk (Kd.R_lower ho61 (below_size bl_))
                   have n1_ := Aside0.mk (blk_below (K_ BK420) hb)
                   have n2_ := Aside0.mk (below_step bl_ hb)
                   clear BK420
                   clear HB
                   have HO434 := n0_
                   have BK420 := n1_
                   have HB := n2_
                   clear n0_ n1_ n2_
                   clear hb ho61
                   refine hK.out _ _ ⟨(blk_cell BK420.out 0).trans rfl, (blk_cell BK420.out 1).trans rfl, (blk_cell BK420.out 2).trans rfl, (blk_cell BK420.out 3).trans rfl, (blk_cell BK420.out 4).trans rfl, (blk_cell BK420.out 5).trans rfl⟩ (fun hHeld => ?_)
                   clear hK K
                   refine no_ 80 ?_
                   refine two_ (i := 4) (j := 13) (Ni := some 82) (Nj := some 91) (bz 16 8191) (bz 16 16367) rfl rfl rfl rfl (two_of HT_.out (by kernel_rfl)) (by decide) (by decide) (fun K hK => ?_) (fun K hK => ?_)
                   · skip
                     refine Kd.R_append_rows_step k44 (w0 := w) w.heap.size (by rfl) (.tmp 80) (.tmp 81) 42 44 (.agg #[(.int .i64 0), (.int .i64 0), (.int .i64 0)]) 24 rfl Try.underlying42 info44 rfl (by decide) (by omega) v433 y432 l2 _ _ _ (fun _ => True) (fun _ => False) rfl rfl ?aO ?aR (fun _ _ h => h) (fun _ h => h.elim) ?aF ?aB ?aS ?aL ?_
                     (case aR => exact CB_ HR2)
                     (case aB => exact bl_)
                     (case aF => exact (fun _ _ => trivial))
                     (case aO => exact (R_ HO434))
                     (case aS => exact (below_size bl_))
                     (case aL => have := LMc43.out; omega)
                     intro v436 w62 ho hb hg hat
                     rw [← Ny435.out] at ho
                     have n0_ := Aside0.mk (blk_grown (K_ BK420) hg (Kd.R_ne HO434.out BK420.out (by decide)))
                     have n1_ := Aside0.mk (hb)
                     have n2_ := Aside0.mk (ho)
                     clear BK420
                     clear HB
                     clear HO434
                     have BK420 := n0_
                     have HB := n1_
                     have HO437 := n2_
                     clear n0_ n1_ n2_
                     clear ho hb hg hat
                     refine hK.out _ _ ⟨(blk_cell BK420.out 0).trans rfl, (blk_cell BK420.out 1).trans rfl, (blk_cell BK420.out 2).trans rfl, (blk_cell BK420.out 3).trans rfl, (blk_cell BK420.out 4).trans rfl, (blk_cell BK420.out 5).trans rfl⟩ (fun hHeld => ?_)
                     clear hK K
                     refine no_ 82 ?_
                     refine on_ 13 (some 91) HT_ (fun K hK => ?_)
                     refine Kd.R_lit_step k44 _ 44 ?hg (N := 91) ?hd (xs := ([(⟨(rd t421 (l2.length : Int)), wrap64 (Int.tdiv x75_3 t431), Int.tmod x75_3 t431⟩ : S44)] : List (S44))) (inner := [.int .i64 (rd t421 (l2.length : Int)), .int .i64 (wrap64 (Int.tdiv x75_3 t431)), .int .i64 (Int.tmod x75_3 t431)]) (ok := fun _ => True) (okp := fun _ => True) ?hr ?hp (fun _ hk => hk) trivial (Below.refl _ _) (Nat.le_refl _) (by simp) ?_; (case hd => rfl); (case hg => rfl); (case hr => first | (go_simp; done) | (go_simp; rfl)); (case hp => exact (Reps.c3 (show Kd.M k44 _ _ _ (⟨(rd t421 (l2.length : Int)), wrap64 (Int.tdiv x75_3 t431), Int.tmod x75_3 t431⟩ : S44) [.int .i64 (rd t421 (l2.length : Int)), .int .i64 (wrap64 (Int.tdiv x75_3 t431)), .int .i64 (Int.tmod x75_3 t431)] from (k44_mkM _ _ _ (⟨(rd t421 (l2.length : Int)), wrap64 (Int.tdiv x75_3 t431), Int.tmod x75_3 t431⟩ : S44) )) (Reps.none _ _)))
                     intro v439 w63 ho64 hb hg_ hnew_
                     clear hg_ hnew_
                     (first | rw [← Ny438.out] at ho64 | (simp only [Int.reduceToNat] at ho64; rw [← Ny438.out] at ho64))
                     have n0_ := Aside0.mk (Kd.R_elder' (R_ HO437) (Kd.R_base ho64) hb)
                     have n1_ := Aside0.mk (Kd.R_lower (Kd.R_new' ho64 (Kd.R_lt (R_ HO437))) (below_size bl_))
                     have n2_ := Aside0.mk (blk_below (K_ BK420) hb)
                     have n3_ := Aside0.mk (below_step bl_ hb)
                     clear HO437
                     clear BK420
                     clear HB
                     have HO437 := n0_
                     have HO440 := n1_
                     have BK420 := n2_
                     have HB := n3_
                     clear n0_ n1_ n2_ n3_
                     clear hb ho64
                     refine hK.out _ _ ⟨(blk_cell BK420.out 0).trans rfl, (blk_cell BK420.out 1).trans rfl, (blk_cell BK420.out 2).trans rfl, (blk_cell BK420.out 3).trans rfl, (blk_cell BK420.out 4).trans rfl, (blk_cell BK420.out 5).trans rfl⟩ (fun hHeld => ?_)
                     clear hK K
                     refine no_ 91 ?_
                     exact norm_ (by simp only [putAll, Act.put, List.setIfInBounds_toArray, List.set_cons_zero, List.set_cons_succ]) (hCont (v433, v436, v439) _ ⟨hHeld, (by (with_reducible repeat (first | apply Kd.R_alloc | apply Kd.R_drewN | apply Kd.R_drew)); exact Kd.R_mono HO437.out (fun _ hk => hk.2)), (by (with_reducible repeat (first | apply Kd.R_alloc | apply Kd.R_drewN | apply Kd.R_drew)); exact Kd.R_mono HO440.out (fun _ hk => hk.2)), (K_ BK420), bl_⟩)
                   skip
                   refine Kd.R_lit_step k44 _ 44 ?hg (N := 91) ?hd (xs := ([(⟨(rd t421 (l2.length : Int)), wrap64 (Int.tdiv x75_3 t431), Int.tmod x75_3 t431⟩ : S44)] : List (S44))) (inner := [.int .i64 (rd t421 (l2.length : Int)), .int .i64 (wrap64 (Int.tdiv x75_3 t431)), .int .i64 (Int.tmod x75_3 t431)]) (ok := fun _ => True) (okp := fun _ => True) ?hr ?hp (fun _ hk => hk) trivial (Below.refl _ _) (Nat.le_refl _) (by simp) ?_; (case hd => rfl); (case hg => rfl); (case hr => first | (go_simp; done) | (go_simp; rfl)); (case hp => exact (Reps.c3 (show Kd.M k44 _ _ _ (⟨(rd t421 (l2.length : Int)), wrap64 (Int.tdiv x75_3 t431), Int.tmod x75_3 t431⟩ : S44) [.int .i64 (rd t421 (l2.length : Int)), .int .i64 (wrap64 (Int.tdiv x75_3 t431)), .int .i64 (Int.tmod x75_3 t431)] from (k44_mkM _ _ _ (⟨(rd t421 (l2.length : Int)), wrap64 (Int.tdiv x75_3 t431), Int.tmod x75_3 t431⟩ : S44) )) (Reps.none _ _)))
                   intro v439 w62 ho63 hb hg_ hnew_
                   clear hg_ hnew_
                   (first | rw [← Ny438.out] at ho63 | (simp only [Int.reduceToNat] at ho63; rw [← Ny438.out] at ho63))
                   have n0_ := Aside0.mk (Kd.R_elder' (R_ HO434) (Kd.R_base ho63) hb)
                   have n1_ := Aside0.mk (Kd.R_lower (Kd.R_new' ho63 (Kd.R_lt (R_ HO434))) (below_size bl_))
                   have n2_ := Aside0.mk (blk_below (K_ BK420) hb)
                   have n3_ := Aside0.mk (below_step bl_ hb)
                   clear HO434
                   clear BK420
                   clear HB
                   have HO434 := n0_
                   have HO440 := n1_
                   have BK420 := n2_
                   have HB := n3_
                   clear n0_ n1_ n2_ n3_
                   clear hb ho63
                   refine hK.out _ _ ⟨(blk_cell BK420.out 0).trans rfl, (blk_cell BK420.out 1).trans rfl, (blk_cell BK420.out 2).trans rfl, (blk_cell BK420.out 3).trans rfl, (blk_cell BK420.out 4).trans rfl, (blk_cell BK420.out 5).trans rfl⟩ (fun hHeld => ?_)
                   clear hK K
                   refine no_ 91 ?_
                   refine on_ 4 (some 82) HT_ (fun K hK => ?_)
                   refine Kd.R_append_rows_step k44 (w0 := w) w.heap.size (by rfl) (.tmp 80) (.tmp 81) 42 44 (.agg #[(.int .i64 0), (.int .i64 0), (.int .i64 0)]) 24 rfl Try.underlying42 info44 rfl (by decide) (by omega) v433 y432 l2 _ _ _ (fun k_ => some k_ ≠ (v439 : Value).ownBlock) (fun _ => False) rfl rfl ?aO ?aR (fun _ _ h => h) (fun _ h => h.elim) ?aF ?aB ?aS ?aL ?_
                   (case aR => exact CB_ HR2)
                   (case aB => exact bl_)
                   (case aF => exact (fun k_ hk => Kd.fresh' (Kd.R_lt (R_ HO440)) k_ hk))
                   (case aO => exact (by (with_reducible repeat (first | apply Kd.R_alloc | apply Kd.R_drewN | apply Kd.R_drew)); exact Kd.R_mono HO434.out (fun _ hk => hk.2)))
                   (case aS => exact (below_size bl_))
                   (case aL => have := LMc43.out; omega)
                   intro v436 w64 ho hb hg hat
                   rw [← Ny435.out] at ho
                   have n0_ := Aside0.mk (blk_grown (K_ BK420) hg (Kd.R_ne HO434.out BK420.out (by decide)))
                   have n1_ := Aside0.mk (Kd.R_after (ok := (fun _ => True)) (R_ HO440) hg hat)
                   have n2_ := Aside0.mk (hb)
                   have n3_ := Aside0.mk (ho)
                   clear BK420
                   clear HO440
                   clear HB
                   clear HO434
                   have BK420 := n0_
                   have HO440 := n1_
                   have HB := n2_
                   have HO437 := n3_
                   clear n0_ n1_ n2_ n3_
                   clear ho hb hg hat
                   refine hK.out _ _ ⟨(blk_cell BK420.out 0).trans rfl, (blk_cell BK420.out 1).trans rfl, (blk_cell BK420.out 2).trans rfl, (blk_cell BK420.out 3).trans rfl, (blk_cell BK420.out 4).trans rfl, (blk_cell BK420.out 5).trans rfl⟩ (fun hHeld => ?_)
                   clear hK K
                   refine no_ 82 ?_
                   exact norm_ (by simp only [putAll, Act.put, List.setIfInBounds_toArray, List.set_cons_zero, List.set_cons_succ]) (hCont (v433, v436, v439) _ ⟨hHeld, (R_ HO437), (by (with_reducible repeat (first | apply Kd.R_alloc | apply Kd.R_drewN | apply Kd.R_drew)); exact Kd.R_mono HO440.out (fun _ hk => hk.2)), (K_ BK420), bl_⟩)
                 skip
                 refine Kd.R_lit_step k44 _ 44 ?hg (N := 91) ?hd (xs := ([(⟨(rd t421 (l2.length : Int)), wrap64 (Int.tdiv x75_3 t431), Int.tmod x75_3 t431⟩ : S44)] : List (S44))) (inner := [.int .i64 (rd t421 (l2.length : Int)), .int .i64 (wrap64 (Int.tdiv x75_3 t431)), .int .i64 (Int.tmod x75_3 t431)]) (ok := fun _ => True) (okp := fun _ => True) ?hr ?hp (fun _ hk => hk) trivial (Below.refl _ _) (Nat.le_refl _) (by simp) ?_; (case hd => rfl); (case hg => rfl); (case hr => first | (go_simp; done) | (go_simp; rfl)); (case hp => exact (Reps.c3 (show Kd.M k44 _ _ _ (⟨(rd t421 (l2.length : Int)), wrap64 (Int.tdiv x75_3 t431), Int.tmod x75_3 t431⟩ : S44) [.int .i64 (rd t421 (l2.length : Int)), .int .i64 (wrap64 (Int.tdiv x75_3 t431)), .int .i64 (Int.tmod x75_3 t431)] from (k44_mkM _ _ _ (⟨(rd t421 (l2.length : Int)), wrap64 (Int.tdiv x75_3 t431), Int.tmod x75_3 t431⟩ : S44) )) (Reps.none _ _)))
                 intro v439 w60 ho61 hb hg_ hnew_
                 clear hg_ hnew_
                 (first | rw [← Ny438.out] at ho61 | (simp only [Int.reduceToNat] at ho61; rw [← Ny438.out] at ho61))
                 have n0_ := Aside0.mk (Kd.R_lower ho61 (below_size bl_))
                 have n1_ := Aside0.mk (blk_below (K_ BK420) hb)
                 have n2_ := Aside0.mk (below_step bl_ hb)
                 clear BK420
                 clear HB
                 have HO440 := n0_
                 have BK420 := n1_
                 have HB := n2_
                 clear n0_ n1_ n2_
                 clear hb ho61
                 refine hK.out _ _ ⟨(blk_cell BK420.out 0).trans rfl, (blk_cell BK420.out 1).trans rfl, (blk_cell BK420.out 2).trans rfl, (blk_cell BK420.out 3).trans rfl, (blk_cell BK420.out 4).trans rfl, (blk_cell BK420.out 5).trans rfl⟩ (fun hHeld => ?_)
                 clear hK K
                 refine no_ 91 ?_
                 refine on_ 2 (some 80) HT_ (fun K hK => ?_)
                 refine Kd.R_lit_step k44 _ 44 ?hg (N := 80) ?hd (xs := ([] : List (S44))) (inner := []) (ok := fun _ => True) (okp := fun _ => True) ?hr ?hp (fun _ hk => hk) trivial (Below.refl _ _) (Nat.le_refl _) (by simp) ?_; (case hd => rfl); (case hg => rfl); (case hr => first | (go_simp; done) | (go_simp; rfl)); (case hp => exact (Reps.none _ _))
                 intro v433 w62 ho63 hb hg_ hnew_
                 clear hg_ hnew_
                 (first | rw [← Ny432.out] at ho63 | (simp only [Int.reduceToNat] at ho63; rw [← Ny432.out] at ho63))
                 have n0_ := Aside0.mk (Kd.R_elder' (R_ HO440) (Kd.R_base ho63) hb)
                 have n1_ := Aside0.mk (Kd.R_lower (Kd.R_new' ho63 (Kd.R_lt (R_ HO440))) (below_size bl_))
                 have n2_ := Aside0.mk (blk_below (K_ BK420) hb)
                 have n3_ := Aside0.mk (below_step bl_ hb)
                 clear HO440
                 clear BK420
                 clear HB
                 have HO440 := n0_
                 have HO434 := n1_
                 have BK420 := n2_
                 have HB := n3_
                 clear n0_ n1_ n2_ n3_
                 clear hb ho63
                 refine hK.out _ _ ⟨(blk_cell BK420.out 0).trans rfl, (blk_cell BK420.out 1).trans rfl, (blk_cell BK420.out 2).trans rfl, (blk_cell BK420.out 3).trans rfl, (blk_cell BK420.out 4).trans rfl, (blk_cell BK420.out 5).trans rfl⟩ (fun hHeld => ?_)
                 clear hK K
                 refine no_ 80 ?_
                 refine on_ 4 (some 82) HT_ (fun K hK => ?_)
                 refine Kd.R_append_rows_step k44 (w0 := w) w.heap.size (by rfl) (.tmp 80) (.tmp 81) 42 44 (.agg #[(.int .i64 0), (.int .i64 0), (.int .i64 0)]) 24 rfl Try.underlying42 info44 rfl (by decide) (by omega) v433 y432 l2 _ _ _ (fun k_ => some k_ ≠ (v439 : Value).ownBlock) (fun _ => False) rfl rfl ?aO ?aR (fun _ _ h => h) (fun _ h => h.elim) ?aF ?aB ?aS ?aL ?_
                 (case aR => exact CB_ HR2)
                 (case aB => exact bl_)
                 (case aF => exact (fun k_ hk => Kd.fresh' (Kd.R_lt (R_ HO440)) k_ hk))
                 (case aO => exact (by (with_reducible repeat (first | apply Kd.R_alloc | apply Kd.R_drewN | apply Kd.R_drew)); exact Kd.R_mono HO434.out (fun _ hk => hk.2)))
                 (case aS => exact (below_size bl_))
                 (case aL => have := LMc43.out; omega)
                 intro v436 w64 ho hb hg hat
                 rw [← Ny435.out] at ho
                 have n0_ := Aside0.mk (blk_grown (K_ BK420) hg (Kd.R_ne HO434.out BK420.out (by decide)))
                 have n1_ := Aside0.mk (Kd.R_after (ok := (fun _ => True)) (R_ HO440) hg hat)
                 have n2_ := Aside0.mk (hb)
                 have n3_ := Aside0.mk (ho)
                 clear BK420
                 clear HO440
                 clear HB
                 clear HO434
                 have BK420 := n0_
                 have HO440 := n1_
                 have HB := n2_
                 have HO437 := n3_
                 clear n0_ n1_ n2_ n3_
                 clear ho hb hg hat
                 refine hK.out _ _ ⟨(blk_cell BK420.out 0).trans rfl, (blk_cell BK420.out 1).trans rfl, (blk_cell BK420.out 2).trans rfl, (blk_cell BK420.out 3).trans rfl, (blk_cell BK420.out 4).trans rfl, (blk_cell BK420.out 5).trans rfl⟩ (fun hHeld => ?_)
                 clear hK K
                 refine no_ 82 ?_
                 exact norm_ (by simp only [putAll, Act.put, List.setIfInBounds_toArray, List.set_cons_zero, List.set_cons_succ]) (hCont (v433, v436, v439) _ ⟨hHeld, (R_ HO437), (by (with_reducible repeat (first | apply Kd.R_alloc | apply Kd.R_drewN | apply Kd.R_drew)); exact Kd.R_mono HO440.out (fun _ hk => hk.2)), (K_ BK420), bl_⟩)
               rintro ⟨v433, v436, v439⟩ w65 ⟨hS_, h0_, h1_, h2_, h3_⟩
               have n0_ : Aside0 (Kd.R k44 44 w65 w.heap.size (fun k_ => some k_ ≠ (v439 : Value).ownBlock) v436 y435) := ⟨h0_⟩
               have n1_ : Aside0 (Kd.R k44 44 w65 w.heap.size (fun k_ => some k_ ≠ (v436 : Value).ownBlock) v439 y438) := ⟨h1_⟩
               have n2_ : Aside0 (w65.heap[gb420]? = some (.cells #[.int .i64 a0_0, .int .i64 a0_1, .bool a0_2, .slice A0_3 l0_3.length c0_3, .slice A0_4 l0_4.length c0_4, .slice (some ad430) l0_5.length c0_5] 26 (0, 0))) := ⟨h2_⟩
               have n3_ : Aside0 (Below w.heap.size w w65) := ⟨h3_⟩
               clear BK420
               clear HB
               clear h0_ h1_ h2_ h3_
               have HO437 := n0_
               have HO440 := n1_
               have BK420 := n2_
               have HB := n3_
               clear n0_ n1_ n2_ n3_
               have hHeld : w65.cell? ⟨gb420, 0, none⟩ = some (.int .i64 a0_0) ∧ w65.cell? ⟨gb420, 1, none⟩ = some (.int .i64 a0_1) ∧ w65.cell? ⟨gb420, 2, none⟩ = some (.bool a0_2) ∧ w65.cell? ⟨gb420, 3, none⟩ = some (.slice A0_3 l0_3.length c0_3) ∧ w65.cell? ⟨gb420, 4, none⟩ = some (.slice A0_4 l0_4.length c0_4) ∧ w65.cell? ⟨gb420, 5, none⟩ = some (.slice (some ad430) l0_5.length c0_5) := hS_
               obtain ⟨Ao67, co67, eo67⟩ := Kd.R_slice HO440.out
               (first | subst eo67 | (injection eo67 with f1_ f2_ f3_; have f4_ := f1_.symm; have f5_ := f3_.symm; clear f1_ f2_ f3_; subst f4_; subst f5_))
               refine norm_ (a' := ?_) ?_ ?_
               rotate_left
               · simp only [putAll, Act.put, List.setIfInBounds_toArray, List.set_cons_zero, List.set_cons_succ]
                 rfl
               refine on_ 14 (some 92) HT_ (fun K hK => ?_)
               refine Kd.R_append_rows_step k44 (w0 := w) w.heap.size (by rfl) (.tmp 82) (.tmp 91) 42 44 (.agg #[(.int .i64 0), (.int .i64 0), (.int .i64 0)]) 24 rfl Try.underlying42 info44 rfl (by decide) (by omega) v436 y435 y438 _ _ _ (fun k_ => some k_ ≠ (.slice Ao67 y438.length co67 : Value).ownBlock) (fun _ => False) rfl rfl ?aO ?aR (fun _ _ h => h) (fun _ h => h.elim) ?aF ?aB ?aS ?aL ?_
               (case aR => exact CR_ HO440)
               (case aB => exact bl_)
               (case aF => exact (fun k_ hk => Kd.fresh' (Kd.R_lt (R_ HO440)) k_ hk))
               (case aO => exact (R_ HO437))
               (case aS => exact (below_size bl_))
               (case aL => have := LMc45.out; omega)
               intro v442 w66 ho hb hg hat
               rw [← Ny441.out] at ho
               have n0_ := Aside0.mk (blk_grown (K_ BK420) hg (Kd.R_ne HO437.out BK420.out (by decide)))
               have n1_ := Aside0.mk (Kd.R_after (ok := (fun _ => True)) (by (with_reducible repeat (first | apply Kd.R_alloc | apply Kd.R_drewN | apply Kd.R_drew)); exact Kd.R_mono HO440.out (fun _ hk => ⟨trivial, hk⟩)) hg hat)
               have n2_ := Aside0.mk (hb)
               have n3_ := Aside0.mk (ho)
               clear BK420
               clear HO440
               clear HB
               clear HO437
               have BK420 := n0_
               have HO440 := n1_
               have HB := n2_
               have HO443 := n3_
               clear n0_ n1_ n2_ n3_
               clear ho hb hg hat
               obtain ⟨Ao68, co68, eo68⟩ := Kd.R_slice HO443.out
               (first | subst eo68 | (injection eo68 with f1_ f2_ f3_; have f4_ := f1_.symm; have f5_ := f3_.symm; clear f1_ f2_ f3_; subst f4_; subst f5_))
               refine hK.out _ _ ⟨(blk_cell BK420.out 0).trans rfl, (blk_cell BK420.out 1).trans rfl, (blk_cell BK420.out 2).trans rfl, (blk_cell BK420.out 3).trans rfl, (blk_cell BK420.out 4).trans rfl, (blk_cell BK420.out 5).trans rfl⟩ (fun hHeld => ?_)
               clear hK K
               refine no_ 92 ?_
               refine on_ 15 (some 93) HT_ (fun K hK => ?_)
               refine gs_ Try.func10 #[.agg #[.int .i64 a0_0, .int .i64 a0_1, .bool a0_2, .slice A0_3 l0_3.length c0_3, .slice A0_4 l0_4.length c0_4, .slice (some ad430) l0_5.length c0_5], .int .i64 a1, .slice Ao68 y441.length co68] ?_
               with_reducible refine (ih k3 (by have := HJ4.out; have := HK2.out; have := HK3.out; omega) a0_0 a0_1 a0_2 _ _ l0_3 _ _ l0_4 _ _ l0_5 a1 _ _ y441 false _ ?side1 ?side2 ?side3 ?side4 ?side5 ?side6 ?side7 ?side8 A46.out).mono ?_
               (case side1 => exact CB_ HR0_3)
               (case side2 => exact HC0_3.out)
               (case side3 => exact CB_ HR0_4)
               (case side4 => exact HC0_4.out)
               (case side5 => exact CB_ HR0_5)
               (case side6 => exact HC0_5.out)
               (case side7 => exact CR_ HO443)
               (case side8 => exact (Kd.R_reads' HO443.out).2.1)
               rintro e w69 ⟨rfl, hb⟩
               refine ⟨_, rfl, ?_⟩
               have n0_ := Aside0.mk (Kd.R_below (R_ HO440) hb)
               have n1_ := Aside0.mk (Kd.R_below (R_ HO443) hb)
               have n2_ := Aside0.mk (blk_below (K_ BK420) hb)
               have n3_ := Aside0.mk (below_step bl_ hb)
               clear HO440
               clear HO443
               clear BK420
               clear HB
               have HO440 := n0_
               have HO443 := n1_
               have BK420 := n2_
               have HB := n3_
               clear n0_ n1_ n2_ n3_
               refine hK.out _ _ ⟨(blk_cell BK420.out 0).trans rfl, (blk_cell BK420.out 1).trans rfl, (blk_cell BK420.out 2).trans rfl, (blk_cell BK420.out 3).trans rfl, (blk_cell BK420.out 4).trans rfl, (blk_cell BK420.out 5).trans rfl⟩ (fun hHeld => ?_)
               clear hK K
               refine no_ 93 ?_
               refine done_ (done_of HT_.out (by kernel_rfl)) ?_
               try go_wp2
               go_roundg k3
               case measure => have := HJ4.out; have := HK2.out; have := HK3.out; omega
               case rel => exact ⟨(wrap64 (x75_3 + 1)), (by first | rfl | (simp; done) | (simp [*]; done)), H', ⟨by have := HJ4.out; have := HK2.out; have := HK3.out; omega⟩, ⟨K_ BK420⟩, ⟨bl_⟩⟩
             rw [if_neg c45] at H
             exact absurd H (by simp)
           rw [if_neg c43] at H
           exact absurd H (by simp)
         rw [if_neg c42] at H
         have c42b0 : decide (x75_3 < (wrap64 (a1 * t431))) = false := decide_eq_false c42
         clear c42
         obtain rfl := Option.some.inj H
         go_wp2
         go_ret
         exact ⟨by first | rfl | (simp [errW_none, errW_some] <;> rfl) | (simp [*, errW_none, errW_some] <;> rfl), by repeat (first | (with_reducible first | exact HB.out | apply below_alloc | apply pw_below_drewN | apply below_drew1 | refine below_set ?_ GE420.out) | exact HB.out)⟩
       rw [if_neg c34] at H
       exact absurd H (by simp)
     rw [if_neg c33] at H
     exact absurd H (by simp)
   rw [if_neg c32] at H
   exact absurd H (by simp)
 rw [if_neg c31] at H
 exact absurd H (by simp)
end Go.Proofs.Ytpmlbbglekaidaa.PAll
