-- Written for this claim by programs of this session (wip/print2 in its repo: a changed printer, a shortener, a packer). Lean checks it.
import Derived.Test.YtpmlbbglekaidaaP0
import Derived.Test.YtpmlbbglekaidaaF34
import Derived.Test.YtpmlbbglekaidaaF35
import Derived.Test.YtpmlbbglekaidaaF36
import Derived.Test.YtpmlbbglekaidaaF37
namespace Go.Proofs.Ytpmlbbglekaidaa.PAll
open Go.RowKit Go.Proofs.YtpmlbbglekaidaaW.PrintWords Go.Proofs.YtpmlbbglekaidaaW.PrintLast Go.Proofs.YtpmlbbglekaidaaW.PrintMore
attribute [local go_sem] max2_int min2_int max_two min_two max_three min_three max_four min_four   -- for this text's walks alone
set_option linter.unusedVariables false
set_option linter.unusedSimpArgs false

/-! ### refute_accepted: function 19 -/
mutual
def refute_accepted.j0 : Nat → Int → List (S54) → Int → Bool → Int → Int → Bool → List (S48) → List (S50) → List (S52) → List Int → List Int → Int → Int → List Int → List Int → Int → Int → Int → Option (Bool)
  | 0, _, _, _, _, _, _, _, _, _, _, _, _, _, _, _, _, _, _, _ => none
  | k + 1, x1, x2, x3, x46, x190000, x190001, x190002, x190003, x190004, x190005, x191000, x191001, x193000, x193001, x193002, x193003, x193004, x193005, x193006 => if x46 = true then (some false) else ((refute_choices.f k x190000 x190001 x190002 x190003 x190004 x190005 x191000 x191001 x193001).bind fun t196 => (if (x193002.length : Int) = (wrap64 (x1 * t196)) then (refute_accepted.l0 k x1 x2 x3 t196 x193002 (x193002.length : Int) 0 x190000 x190001 x190002 x190003 x190004 x190005 x191000 x191001 x193000 x193001 x193002 x193003 x193004 x193005 x193006) else (some false)))
def refute_accepted.l0 : Nat → Int → List (S54) → Int → Int → List Int → Int → Int → Int → Int → Bool → List (S48) → List (S50) → List (S52) → List Int → List Int → Int → Int → List Int → List Int → Int → Int → Int → Option (Bool)
  | 0, _, _, _, _, _, _, _, _, _, _, _, _, _, _, _, _, _, _, _, _, _, _ => none
  | k + 1, x1, x2, x3, x12, x60, x61, x62, x190000, x190001, x190002, x190003, x190004, x190005, x191000, x191001, x193000, x193001, x193002, x193003, x193004, x193005, x193006 => if x62 < x61 then (if 0 ≤ x62 then (if x62 < (x60.length : Int) then (if (rd x60 x62) ≤ x3 then (refute_accepted.j2 k x1 x2 x3 x12 x60 x61 x62 true x190000 x190001 x190002 x190003 x190004 x190005 x191000 x191001 x193000 x193001 x193002 x193003 x193004 x193005 x193006) else (if x12 = 0 then (none) else ((refute_state_with.f x191000 x191001 x193001 (wrap64 (Int.tdiv x62 x12)) (Int.tmod x62 x12)).bind fun bt198 => ((refute_accepted.f k x190000 x190001 x190002 x190003 x190004 x190005 x1 x2 (rd x60 x62) bt198.1 bt198.2).bind fun t204 => (refute_accepted.j2 k x1 x2 x3 x12 x60 x61 x62 (!t204) x190000 x190001 x190002 x190003 x190004 x190005 x191000 x191001 x193000 x193001 x193002 x193003 x193004 x193005 x193006))))) else (none)) else (none)) else (some true)
def refute_accepted.j2 : Nat → Int → List (S54) → Int → Int → List Int → Int → Int → Bool → Int → Int → Bool → List (S48) → List (S50) → List (S52) → List Int → List Int → Int → Int → List Int → List Int → Int → Int → Int → Option (Bool)
  | 0, _, _, _, _, _, _, _, _, _, _, _, _, _, _, _, _, _, _, _, _, _, _, _ => none
  | k + 1, x1, x2, x3, x12, x60, x61, x62, x87, x190000, x190001, x190002, x190003, x190004, x190005, x191000, x191001, x193000, x193001, x193002, x193003, x193004, x193005, x193006 => if x87 = true then (some false) else (refute_accepted.l0 k x1 x2 x3 x12 x60 x61 (wrap64 (x62 + 1)) x190000 x190001 x190002 x190003 x190004 x190005 x191000 x191001 x193000 x193001 x193002 x193003 x193004 x193005 x193006)
def refute_accepted.f : Nat → Int → Int → Bool → List (S48) → List (S50) → List (S52) → Int → List (S54) → Int → List Int → List Int → Option (Bool)
  | 0, _, _, _, _, _, _, _, _, _, _, _ => none
  | k + 1, a0_0, a0_1, a0_2, l0_3, l0_4, l0_5, a1, l2, a3, l4_0, l4_1 => if 0 ≤ a3 then (if a3 < (l2.length : Int) then (if ((rd_T54 l2 a3).f0) = 1 then ((refute_needs.f a0_0 a0_1 a0_2 l0_3 l0_4 l0_5 ((rd_T54 l2 a3).f1)).bind fun t194 => (if t194 = true then (if 0 ≤ ((rd_T54 l2 a3).f1) then (if ((rd_T54 l2 a3).f1) < (l4_0.length : Int) then (refute_accepted.j0 k a1 l2 a3 (decide ((rd l4_0 ((rd_T54 l2 a3).f1)) ≥ 0)) a0_0 a0_1 a0_2 l0_3 l0_4 l0_5 l4_0 l4_1 ((rd_T54 l2 a3).f0) ((rd_T54 l2 a3).f1) ((rd_T54 l2 a3).f2) ((rd_T54 l2 a3).f3) ((rd_T54 l2 a3).f4) ((rd_T54 l2 a3).f5) ((rd_T54 l2 a3).f6)) else (none)) else (none)) else (refute_accepted.j0 k a1 l2 a3 true a0_0 a0_1 a0_2 l0_3 l0_4 l0_5 l4_0 l4_1 ((rd_T54 l2 a3).f0) ((rd_T54 l2 a3).f1) ((rd_T54 l2 a3).f2) ((rd_T54 l2 a3).f3) ((rd_T54 l2 a3).f4) ((rd_T54 l2 a3).f5) ((rd_T54 l2 a3).f6)))) else (if (((rd_T54 l2 a3).f2).length : Int) = 0 then ((refute_contradicts.f k a0_0 a0_1 a0_2 l0_3 l0_4 l0_5 a1 l4_0 l4_1 ((rd_T54 l2 a3).f0) ((rd_T54 l2 a3).f1) ((rd_T54 l2 a3).f2) ((rd_T54 l2 a3).f3) ((rd_T54 l2 a3).f4) ((rd_T54 l2 a3).f5) ((rd_T54 l2 a3).f6)).bind fun t193 => (some t193)) else (some false))) else (none)) else (none)
end
theorem refute_accepted.mono_l : ∀ k, (∀ y0 y1 y2 y3 y4 y5 y6 y7 y8 y9 y10, LeO (refute_accepted.f k y0 y1 y2 y3 y4 y5 y6 y7 y8 y9 y10) (refute_accepted.f (k + 1) y0 y1 y2 y3 y4 y5 y6 y7 y8 y9 y10)) ∧ (∀ y0 y1 y2 y3 y4 y5 y6 y7 y8 y9 y10 y11 y12 y13 y14 y15 y16 y17 y18, LeO (refute_accepted.j0 k y0 y1 y2 y3 y4 y5 y6 y7 y8 y9 y10 y11 y12 y13 y14 y15 y16 y17 y18) (refute_accepted.j0 (k + 1) y0 y1 y2 y3 y4 y5 y6 y7 y8 y9 y10 y11 y12 y13 y14 y15 y16 y17 y18)) ∧ (∀ y0 y1 y2 y3 y4 y5 y6 y7 y8 y9 y10 y11 y12 y13 y14 y15 y16 y17 y18 y19 y20 y21, LeO (refute_accepted.l0 k y0 y1 y2 y3 y4 y5 y6 y7 y8 y9 y10 y11 y12 y13 y14 y15 y16 y17 y18 y19 y20 y21) (refute_accepted.l0 (k + 1) y0 y1 y2 y3 y4 y5 y6 y7 y8 y9 y10 y11 y12 y13 y14 y15 y16 y17 y18 y19 y20 y21)) ∧ (∀ y0 y1 y2 y3 y4 y5 y6 y7 y8 y9 y10 y11 y12 y13 y14 y15 y16 y17 y18 y19 y20 y21 y22, LeO (refute_accepted.j2 k y0 y1 y2 y3 y4 y5 y6 y7 y8 y9 y10 y11 y12 y13 y14 y15 y16 y17 y18 y19 y20 y21 y22) (refute_accepted.j2 (k + 1) y0 y1 y2 y3 y4 y5 y6 y7 y8 y9 y10 y11 y12 y13 y14 y15 y16 y17 y18 y19 y20 y21 y22))
  | 0 => by refine ⟨?_, ?_, ?_, ?_⟩ <;> intros <;> intro r h <;> simp [refute_accepted.f, refute_accepted.j0, refute_accepted.l0, refute_accepted.j2] at h
  | k + 1 => by
    obtain ⟨ih0, ih1, ih2, ih3⟩ := refute_accepted.mono_l k
    refine ⟨?_, ?_, ?_, ?_⟩ <;> intros <;> (first | unfold refute_accepted.f | unfold refute_accepted.j0 | unfold refute_accepted.l0 | unfold refute_accepted.j2) <;> repeat' first | (with_reducible first | apply ih0 | apply ih1 | apply ih2 | apply ih3 | apply refute_choices.mono | apply refute_contradicts.mono | exact LeO.refl _ | exact LeO.none _ | refine LeO.ite ?_ ?_ | refine LeO.bind ?_ (fun _ => ?_)) | apply ih0 | apply ih1 | apply ih2 | apply ih3 | apply refute_choices.mono | apply refute_contradicts.mono | exact LeO.none _ | refine LeO.ite ?_ ?_ | refine LeO.bind ?_ (fun _ => ?_)
theorem refute_accepted.mono : ∀ a0 a1 a2 a3 a4 a5 a6 a7 a8 a9 a10 k, LeO (refute_accepted.f k a0 a1 a2 a3 a4 a5 a6 a7 a8 a9 a10) (refute_accepted.f (k + 1) a0 a1 a2 a3 a4 a5 a6 a7 a8 a9 a10) := by
 intro a0 a1 a2 a3 a4 a5 a6 a7 a8 a9 a10 k
 obtain ⟨ih0, ih1, ih2, ih3⟩ := refute_accepted.mono_l k
 exact ih0 a0 a1 a2 a3 a4 a5 a6 a7 a8 a9 a10
def refute_accepted.T12 : Bool × List (List Nat × List Nat) := (true, [([], []), ([], []), ([0, 1], [0, 1]), ([2], [2]), ([3], [3]), ([3], [3]), ([3], [3]), ([3], [3]), ([3], [3]), ([3], [3]), ([9, 3], [3, 9]), ([3], [3]), ([3], [3]), ([11, 12, 3], [3, 11, 12]), ([3], [3]), ([3], [3]), ([14, 15, 3], [3, 14, 15]), ([8, 10, 13, 16, 3, 3], [3, 8, 10, 13, 16]), ([4, 5, 6, 7, 17, 17, 3], [3, 4, 5, 6, 7, 17]), ([18, 3], [3, 18]), ([3, 19], [3, 19])])
def refute_accepted.B12 : List Nat := [0, 0, 3, 7, 15, 15, 15, 15, 15, 15, 527, 15, 15, 6159, 15, 15, 49167, 130831, 262143, 524287, 1048575]
theorem refute_accepted.tab12 : rtab .any (opsOf Try.f19 12) = refute_accepted.T12 := by kernel_rfl
theorem refute_accepted.bits12 : waitsOk refute_accepted.T12.2 refute_accepted.B12 = true := by kernel_rfl
set_option maxHeartbeats 8000000 in
set_option maxRecDepth 100000 in
theorem refute_accepted.calls (k : Nat) : ∀ (a0_0 : Int) (a0_1 : Int) (a0_2 : Bool) (A0_3 : Option Addr) (c0_3 : Nat) (l0_3 : List (S48)) (A0_4 : Option Addr) (c0_4 : Nat) (l0_4 : List (S50)) (A0_5 : Option Addr) (c0_5 : Nat) (l0_5 : List (S52)) (a1 : Int) (A2 : Option Addr) (c2 : Nat) (l2 : List (S54)) (a3 : Int) (A4_0 : Option Addr) (c4_0 : Nat) (l4_0 : List Int) (A4_1 : Option Addr) (c4_1 : Nat) (l4_1 : List Int) (r : Bool) (w : World) (hr0_3 : Kd.C k48 w A0_3 l0_3.length l0_3) (hc0_3 : l0_3.length ≤ c0_3) (hr0_4 : Kd.C k50 w A0_4 l0_4.length l0_4) (hc0_4 : l0_4.length ≤ c0_4) (hr0_5 : Kd.C k52 w A0_5 l0_5.length l0_5) (hc0_5 : l0_5.length ≤ c0_5) (hr2 : Kd.C k54 w A2 l2.length l2) (hc2 : l2.length ≤ c2) (hr4_0 : Kd.C (Kd.int .i64) w A4_0 l4_0.length l4_0) (hc4_0 : l4_0.length ≤ c4_0) (hr4_1 : Kd.C (Kd.int .i64) w A4_1 l4_1.length l4_1) (hc4_1 : l4_1.length ≤ c4_1) (h : refute_accepted.f k a0_0 a0_1 a0_2 l0_3 l0_4 l0_5 a1 l2 a3 l4_0 l4_1 = some r),
    Calls Try.prog 19 #[.agg #[.int .i64 a0_0, .int .i64 a0_1, .bool a0_2, .slice A0_3 l0_3.length c0_3, .slice A0_4 l0_4.length c0_4, .slice A0_5 l0_5.length c0_5], .int .i64 a1, .slice A2 l2.length c2, .int .i64 a3, .agg #[.slice A4_0 l4_0.length c4_0, .slice A4_1 l4_1.length c4_1]] w fun e w' => e = .returned (.bool r) ∧ Below w.heap.size w w' := by
 induction k using Nat.strongRecOn with
 | _ k ih =>
 intro a0_0 a0_1 a0_2 A0_3 c0_3 l0_3 A0_4 c0_4 l0_4 A0_5 c0_5 l0_5 a1 A2 c2 l2 a3 A4_0 c4_0 l4_0 A4_1 c4_1 l4_1 r w hr0_3 hc0_3 hr0_4 hc0_4 hr0_5 hc0_5 hr2 hc2 hr4_0 hc4_0 hr4_1 hc4_1 h
 cases k with
 | zero => exact absurd h (by simp [refute_accepted.f])
 | succ k =>
 simp only [refute_accepted.f] at h
 have hu26 := Try.underlying26
 have hu61 := Try.underlying61
 have hu54 := Try.underlying54
 have HR0_3 := Aside0.mk hr0_3
 have HC0_3 := Aside0.mk hc0_3
 clear hr0_3 hc0_3
 have HR0_4 := Aside0.mk hr0_4
 have HC0_4 := Aside0.mk hc0_4
 clear hr0_4 hc0_4
 have HR0_5 := Aside0.mk hr0_5
 have HC0_5 := Aside0.mk hc0_5
 clear hr0_5 hc0_5
 have HR2 := Aside0.mk hr2
 have HC2 := Aside0.mk hc2
 clear hr2 hc2
 have HR4_0 := Aside0.mk hr4_0
 have HC4_0 := Aside0.mk hc4_0
 clear hr4_0 hc4_0
 have HR4_1 := Aside0.mk hr4_1
 have HC4_1 := Aside0.mk hc4_1
 clear hr4_1 hc4_1
 have HB := Aside0.mk (Below.refl w.heap.size w)
 have H : (if 0 ≤ a3 then (if a3 < (l2.length : Int) then (if ((rd_T54 l2 a3).f0) = 1 then ((refute_needs.f a0_0 a0_1 a0_2 l0_3 l0_4 l0_5 ((rd_T54 l2 a3).f1)).bind fun t194 => (if t194 = true then (if 0 ≤ ((rd_T54 l2 a3).f1) then (if ((rd_T54 l2 a3).f1) < (l4_0.length : Int) then (refute_accepted.j0 k a1 l2 a3 (decide ((rd l4_0 ((rd_T54 l2 a3).f1)) ≥ 0)) a0_0 a0_1 a0_2 l0_3 l0_4 l0_5 l4_0 l4_1 ((rd_T54 l2 a3).f0) ((rd_T54 l2 a3).f1) ((rd_T54 l2 a3).f2) ((rd_T54 l2 a3).f3) ((rd_T54 l2 a3).f4) ((rd_T54 l2 a3).f5) ((rd_T54 l2 a3).f6)) else (none)) else (none)) else (refute_accepted.j0 k a1 l2 a3 true a0_0 a0_1 a0_2 l0_3 l0_4 l0_5 l4_0 l4_1 ((rd_T54 l2 a3).f0) ((rd_T54 l2 a3).f1) ((rd_T54 l2 a3).f2) ((rd_T54 l2 a3).f3) ((rd_T54 l2 a3).f4) ((rd_T54 l2 a3).f5) ((rd_T54 l2 a3).f6)))) else (if (((rd_T54 l2 a3).f2).length : Int) = 0 then ((refute_contradicts.f k a0_0 a0_1 a0_2 l0_3 l0_4 l0_5 a1 l4_0 l4_1 ((rd_T54 l2 a3).f0) ((rd_T54 l2 a3).f1) ((rd_T54 l2 a3).f2) ((rd_T54 l2 a3).f3) ((rd_T54 l2 a3).f4) ((rd_T54 l2 a3).f5) ((rd_T54 l2 a3).f6)).bind fun t193 => (some t193)) else (some false))) else (none)) else (none)) = some r := h
 clear h
 by_cases c6 : 0 ≤ a3
 · rw [if_pos c6] at H
   have c6b0 : decide (0 ≤ a3) = true := decide_eq_true c6
   clear c6
   by_cases c7 : a3 < (l2.length : Int)
   · rw [if_pos c7] at H
     have c7b0 : decide (a3 < (l2.length : Int)) = true := decide_eq_true c7
     clear c7
     by_cases c8 : ((rd_T54 l2 a3).f0) = 1
     · rw [if_pos c8] at H
       have c8b0 : (((rd_T54 l2 a3).f0) == 1) = true := beq_iff_eq.mpr c8
       have c8b1 : (((rd_T54 l2 a3).f0) != 1) = false := bne_eq_false_iff_eq.mpr c8
       clear c8
       have HC9 := Aside0.mk H
       clear H
       go_enter Try.func19, Try.ntmps19
       go_upto_region 4 with (first | ((with_reducible refine gate_dst (N := 5) rfl ?_); refine box_event ?hg (N := 5) ?hd (cs := #[.int .i64 a0_0, .int .i64 a0_1, .bool a0_2, .slice A0_3 l0_3.length c0_3, .slice A0_4 l0_4.length c0_4, .slice A0_5 l0_5.length c0_5]) (t := 26) ?hr ?_; (case hd => rfl); (case hg => rfl); (case hr => first | (go_simp; done) | (go_simp; rfl)); intro gb189 hg w10 hbox hb; have n0_ := Aside0.mk (below_step bl_ hb); have n1_ := Aside0.mk (hbox); have n2_ := Aside0.mk (gl_ (w := w) hg); have n3_ := Aside0.mk (gl_ (w := w) hg); clear HB; have HB := n0_; have BK189 := n1_; have GW189 := n2_; have GE189 := n3_; clear n0_ n1_ n2_ n3_; clear hb hbox hg) | ((with_reducible refine gate_dst (N := 9) rfl ?_); refine box_event ?hg (N := 9) ?hd (cs := #[.slice A4_0 l4_0.length c4_0, .slice A4_1 l4_1.length c4_1]) (t := 61) ?hr ?_; (case hd => rfl); (case hg => rfl); (case hr => first | (go_simp; done) | (go_simp; rfl)); intro gb190 hg w11 hbox hb; have n0_ := Aside0.mk (blk_below (K_ BK189) hb); have n1_ := Aside0.mk (below_step bl_ hb); have n2_ := Aside0.mk (hbox); have n3_ := Aside0.mk (gl_ (w := w) hg); have n4_ := Aside0.mk (gl_ (w := w) hg); have n5_ := Aside0.mk (nl_ hg (K_ BK189)); have n6_ := Aside0.mk (ng_ hg (K_ BK189)); clear BK189; clear HB; have BK189 := n0_; have HB := n1_; have BK190 := n2_; have GW190 := n3_; have GE190 := n4_; have NB189_190 := n5_; have NB190_189 := n6_; clear n0_ n1_ n2_ n3_ n4_ n5_ n6_; clear hb hbox hg; have p191 : 0 ≤ (a3 : Int) := of_decide_eq_true (by first | (with_reducible assumption) | assumption); have q191 : a3 < (l2.length : Int) := of_decide_eq_true (by first | (with_reducible assumption) | assumption); obtain ⟨ad191, A191_2, c191_2, A191_3, c191_3, e191, hx191_0, hx191_1, hx191_2, hx191_3, hx191_4, hx191_5, hx191_6, hl191_2, hi191_2, hl191_3, hi191_3⟩ := at_T54 HR2.out a3 p191 q191; cases e191; replace hx191_0 := hc_ HB hx191_0; replace hx191_1 := hc_ HB hx191_1; replace hx191_2 := hc_ HB hx191_2; replace hx191_3 := hc_ HB hx191_3; replace hx191_4 := hc_ HB hx191_4; replace hx191_5 := hc_ HB hx191_5; replace hx191_6 := hc_ HB hx191_6; have HR191_2 := Aside0.mk hi191_2; have HC191_2 := Aside0.mk hl191_2; clear hi191_2 hl191_2; have HR191_3 := Aside0.mk hi191_3; have HC191_3 := Aside0.mk hl191_3; clear hi191_3 hl191_3; replace p191 := eq_true p191; replace q191 := eq_true q191) | ((with_reducible refine gate_dst (N := 11) rfl ?_); refine box_event ?hg (N := 11) ?hd (cs := #[.int .i64 0, .int .i64 0, .slice none 0 0, .slice none 0 0, .int .i64 0, .int .i64 0, .int .i64 0]) (t := 54) ?hr ?_; (case hd => rfl); (case hg => rfl); (case hr => first | (go_simp; done) | (go_simp; rfl)); intro gb192 hg w12 hbox hb; have n0_ := Aside0.mk (blk_below (K_ BK189) hb); have n1_ := Aside0.mk (blk_below (K_ BK190) hb); have n2_ := Aside0.mk (below_step bl_ hb); have n3_ := Aside0.mk (hbox); have n4_ := Aside0.mk (gl_ (w := w) hg); have n5_ := Aside0.mk (gl_ (w := w) hg); have n6_ := Aside0.mk (nl_ hg (K_ BK189)); have n7_ := Aside0.mk (ng_ hg (K_ BK189)); have n8_ := Aside0.mk (nl_ hg (K_ BK190)); have n9_ := Aside0.mk (ng_ hg (K_ BK190)); clear BK189; clear BK190; clear HB; have BK189 := n0_; have BK190 := n1_; have HB := n2_; have BK192 := n3_; have GW192 := n4_; have GE192 := n5_; have NB189_192 := n6_; have NB192_189 := n7_; have NB190_192 := n8_; have NB192_190 := n9_; clear n0_ n1_ n2_ n3_ n4_ n5_ n6_ n7_ n8_ n9_; clear hb hbox hg; have hnb13 := NB192_189.out; have hnc13 := NB189_192.out; have hnb14 := NB192_190.out; have hnc14 := NB190_192.out; obtain ⟨hcz15_0, hcz15_1, hcz15_2, hcz15_3, hcz15_4, hcz15_5, hcz15_6⟩ := cells7 BK192; obtain ⟨hfz15_0, hfz15_1, hfz15_2, hfz15_3, hfz15_4, hfz15_5, hfz15_6⟩ := fz7 BK192))
       (try simp only [Act.put, List.setIfInBounds_toArray, List.set_cons_zero, List.set_cons_succ])
       go_cut [46] (fun v46 wc => ∃ (kq : Nat) (x46_8 : Bool), v46 = .bool x46_8 ∧ Aside0 (refute_accepted.j0 kq a1 l2 a3 x46_8 a0_0 a0_1 a0_2 l0_3 l0_4 l0_5 l4_0 l4_1 ((rd_T54 l2 a3).f0) ((rd_T54 l2 a3).f1) ((rd_T54 l2 a3).f2) ((rd_T54 l2 a3).f3) ((rd_T54 l2 a3).f4) ((rd_T54 l2 a3).f5) ((rd_T54 l2 a3).f6) = some r) ∧ Aside0 (kq ≤ k) ∧ Aside0 (wc.heap[gb189]? = some (.cells #[.int .i64 a0_0, .int .i64 a0_1, .bool a0_2, (.slice A0_3 l0_3.length c0_3), (.slice A0_4 l0_4.length c0_4), (.slice A0_5 l0_5.length c0_5)] 26 (0, 0))) ∧ Aside0 (wc.heap[gb190]? = some (.cells #[(.slice A4_0 l4_0.length c4_0), (.slice A4_1 l4_1.length c4_1)] 61 (0, 0))) ∧ Aside0 (wc.heap[gb192]? = some (.cells #[.int .i64 ((rd_T54 l2 a3).f0), .int .i64 ((rd_T54 l2 a3).f1), (.slice A191_2 ((rd_T54 l2 a3).f2).length c191_2), (.slice A191_3 ((rd_T54 l2 a3).f3).length c191_3), .int .i64 ((rd_T54 l2 a3).f4), .int .i64 ((rd_T54 l2 a3).f5), .int .i64 ((rd_T54 l2 a3).f6)] 54 (0, 0))) ∧ Aside0 (Below w.heap.size w wc))
       case first =>
        have H := HC9.out
        clear HC9
        replace H := Option.bind_eq_some_iff.mp H
        obtain ⟨t194, A160, H⟩ := H
        replace H : (if t194 = true then (if 0 ≤ ((rd_T54 l2 a3).f1) then (if ((rd_T54 l2 a3).f1) < (l4_0.length : Int) then (refute_accepted.j0 k a1 l2 a3 (decide ((rd l4_0 ((rd_T54 l2 a3).f1)) ≥ 0)) a0_0 a0_1 a0_2 l0_3 l0_4 l0_5 l4_0 l4_1 ((rd_T54 l2 a3).f0) ((rd_T54 l2 a3).f1) ((rd_T54 l2 a3).f2) ((rd_T54 l2 a3).f3) ((rd_T54 l2 a3).f4) ((rd_T54 l2 a3).f5) ((rd_T54 l2 a3).f6)) else (none)) else (none)) else (refute_accepted.j0 k a1 l2 a3 true a0_0 a0_1 a0_2 l0_3 l0_4 l0_5 l4_0 l4_1 ((rd_T54 l2 a3).f0) ((rd_T54 l2 a3).f1) ((rd_T54 l2 a3).f2) ((rd_T54 l2 a3).f3) ((rd_T54 l2 a3).f4) ((rd_T54 l2 a3).f5) ((rd_T54 l2 a3).f6))) = some r := H
        have A16 := Aside0.mk A160
        clear A160
        by_cases c17 : t194 = true
        · subst c17
          have H1 : (if 0 ≤ ((rd_T54 l2 a3).f1) then (if ((rd_T54 l2 a3).f1) < (l4_0.length : Int) then (refute_accepted.j0 k a1 l2 a3 (decide ((rd l4_0 ((rd_T54 l2 a3).f1)) ≥ 0)) a0_0 a0_1 a0_2 l0_3 l0_4 l0_5 l4_0 l4_1 ((rd_T54 l2 a3).f0) ((rd_T54 l2 a3).f1) ((rd_T54 l2 a3).f2) ((rd_T54 l2 a3).f3) ((rd_T54 l2 a3).f4) ((rd_T54 l2 a3).f5) ((rd_T54 l2 a3).f6)) else (none)) else (none)) = some r := by rw [if_pos rfl] at H; exact H
          clear H
          have H := H1
          clear H1
          by_cases c18 : 0 ≤ ((rd_T54 l2 a3).f1)
          · rw [if_pos c18] at H
            have c18b0 : decide (0 ≤ ((rd_T54 l2 a3).f1)) = true := decide_eq_true c18
            clear c18
            (first | rw [c18b0] | (simp only [i64_w, i32_w]; rw [c18b0]) | skip)
            by_cases c19 : ((rd_T54 l2 a3).f1) < (l4_0.length : Int)
            · rw [if_pos c19] at H
              have c19b0 : decide (((rd_T54 l2 a3).f1) < (l4_0.length : Int)) = true := decide_eq_true c19
              clear c19
              have H' := Aside0.mk H
              clear H
              have hnb20 := NB189_190.out
              have hnc20 := NB190_189.out
              have hnb21 := NB189_192.out
              have hnc21 := NB192_189.out
              obtain ⟨hcz22_0, hcz22_1, hcz22_2, hcz22_3, hcz22_4, hcz22_5⟩ := cells6 BK189
              obtain ⟨hfz22_0, hfz22_1, hfz22_2, hfz22_3, hfz22_4, hfz22_5⟩ := fz6 BK189
              have hnb23 := NB192_190.out
              have hnc23 := NB190_192.out
              obtain ⟨hcz24_0, hcz24_1, hcz24_2, hcz24_3, hcz24_4, hcz24_5, hcz24_6⟩ := cells7 BK192
              obtain ⟨hfz24_0, hfz24_1, hfz24_2, hfz24_3, hfz24_4, hfz24_5, hfz24_6⟩ := fz7 BK192
              go_wp2_with (first | ((with_reducible refine gate_callee (f := 35) rfl ?_); refine gL_ 36 Try.func35 #[.agg #[.int .i64 a0_0, .int .i64 a0_1, .bool a0_2, .slice A0_3 l0_3.length c0_3, .slice A0_4 l0_4.length c0_4, .slice A0_5 l0_5.length c0_5], .int .i64 ((rd_T54 l2 a3).f1)] ?_; (with_reducible refine (refute_needs.calls a0_0 a0_1 a0_2 _ _ l0_3 _ _ l0_4 _ _ l0_5 ((rd_T54 l2 a3).f1) true _ ?side1 ?side2 ?side3 ?side4 ?side5 ?side6 A16.out).mono ?_); (case side1 => exact Kd.C_below HR0_3.out bl_); (case side2 => exact HC0_3.out); (case side3 => exact Kd.C_below HR0_4.out bl_); (case side4 => exact HC0_4.out); (case side5 => exact Kd.C_below HR0_5.out bl_); (case side6 => exact HC0_5.out); rintro e w25 ⟨rfl, hb⟩; refine ⟨_, rfl, ?_⟩; have n0_ := Aside0.mk (blk_below (g := gb189) (o := .cells #[.int .i64 a0_0, .int .i64 a0_1, .bool a0_2, .slice A0_3 l0_3.length c0_3, .slice A0_4 l0_4.length c0_4, .slice A0_5 l0_5.length c0_5] 26 (0, 0)) (by (with_reducible repeat (first | refine blk_drewN ?_ _ | refine blk_drew ?_ | refine blk_alloc ?_ _)); refine blk_far ?_ NB189_192.out _; (with_reducible repeat (first | refine blk_drewN ?_ _ | refine blk_drew ?_ | refine blk_alloc ?_ _)); refine blk_far ?_ NB189_192.out _; (with_reducible repeat (first | refine blk_drewN ?_ _ | refine blk_drew ?_ | refine blk_alloc ?_ _)); refine blk_far ?_ NB189_192.out _; (with_reducible repeat (first | refine blk_drewN ?_ _ | refine blk_drew ?_ | refine blk_alloc ?_ _)); refine blk_far ?_ NB189_192.out _; (with_reducible repeat (first | refine blk_drewN ?_ _ | refine blk_drew ?_ | refine blk_alloc ?_ _)); refine blk_far ?_ NB189_192.out _; (with_reducible repeat (first | refine blk_drewN ?_ _ | refine blk_drew ?_ | refine blk_alloc ?_ _)); refine blk_far ?_ NB189_192.out _; (with_reducible repeat (first | refine blk_drewN ?_ _ | refine blk_drew ?_ | refine blk_alloc ?_ _)); refine blk_far ?_ NB189_192.out _; (with_reducible repeat (first | refine blk_drewN ?_ _ | refine blk_drew ?_ | refine blk_alloc ?_ _)); exact BK189.out) hb); have n1_ := Aside0.mk (blk_below (g := gb190) (o := .cells #[.slice A4_0 l4_0.length c4_0, .slice A4_1 l4_1.length c4_1] 61 (0, 0)) (by (with_reducible repeat (first | refine blk_drewN ?_ _ | refine blk_drew ?_ | refine blk_alloc ?_ _)); refine blk_far ?_ NB190_192.out _; (with_reducible repeat (first | refine blk_drewN ?_ _ | refine blk_drew ?_ | refine blk_alloc ?_ _)); refine blk_far ?_ NB190_192.out _; (with_reducible repeat (first | refine blk_drewN ?_ _ | refine blk_drew ?_ | refine blk_alloc ?_ _)); refine blk_far ?_ NB190_192.out _; (with_reducible repeat (first | refine blk_drewN ?_ _ | refine blk_drew ?_ | refine blk_alloc ?_ _)); refine blk_far ?_ NB190_192.out _; (with_reducible repeat (first | refine blk_drewN ?_ _ | refine blk_drew ?_ | refine blk_alloc ?_ _)); refine blk_far ?_ NB190_192.out _; (with_reducible repeat (first | refine blk_drewN ?_ _ | refine blk_drew ?_ | refine blk_alloc ?_ _)); refine blk_far ?_ NB190_192.out _; (with_reducible repeat (first | refine blk_drewN ?_ _ | refine blk_drew ?_ | refine blk_alloc ?_ _)); refine blk_far ?_ NB190_192.out _; (with_reducible repeat (first | refine blk_drewN ?_ _ | refine blk_drew ?_ | refine blk_alloc ?_ _)); exact BK190.out) hb); have n2_ := Aside0.mk (blk_below (g := gb192) (o := .cells #[.int .i64 ((rd_T54 l2 a3).f0), .int .i64 ((rd_T54 l2 a3).f1), .slice A191_2 ((rd_T54 l2 a3).f2).length c191_2, .slice A191_3 ((rd_T54 l2 a3).f3).length c191_3, .int .i64 ((rd_T54 l2 a3).f4), .int .i64 ((rd_T54 l2 a3).f5), .int .i64 ((rd_T54 l2 a3).f6)] 54 (0, 0)) (by (with_reducible repeat (first | refine blk_drewN ?_ _ | refine blk_drew ?_ | refine blk_alloc ?_ _)); refine blk_put (cs := #[.int .i64 ((rd_T54 l2 a3).f0), .int .i64 ((rd_T54 l2 a3).f1), .slice A191_2 ((rd_T54 l2 a3).f2).length c191_2, .slice A191_3 ((rd_T54 l2 a3).f3).length c191_3, .int .i64 ((rd_T54 l2 a3).f4), .int .i64 ((rd_T54 l2 a3).f5), .int .i64 0]) ?_ 6 _ rfl; (with_reducible repeat (first | refine blk_drewN ?_ _ | refine blk_drew ?_ | refine blk_alloc ?_ _)); refine blk_put (cs := #[.int .i64 ((rd_T54 l2 a3).f0), .int .i64 ((rd_T54 l2 a3).f1), .slice A191_2 ((rd_T54 l2 a3).f2).length c191_2, .slice A191_3 ((rd_T54 l2 a3).f3).length c191_3, .int .i64 ((rd_T54 l2 a3).f4), .int .i64 0, .int .i64 0]) ?_ 5 _ rfl; (with_reducible repeat (first | refine blk_drewN ?_ _ | refine blk_drew ?_ | refine blk_alloc ?_ _)); refine blk_put (cs := #[.int .i64 ((rd_T54 l2 a3).f0), .int .i64 ((rd_T54 l2 a3).f1), .slice A191_2 ((rd_T54 l2 a3).f2).length c191_2, .slice A191_3 ((rd_T54 l2 a3).f3).length c191_3, .int .i64 0, .int .i64 0, .int .i64 0]) ?_ 4 _ rfl; (with_reducible repeat (first | refine blk_drewN ?_ _ | refine blk_drew ?_ | refine blk_alloc ?_ _)); refine blk_put (cs := #[.int .i64 ((rd_T54 l2 a3).f0), .int .i64 ((rd_T54 l2 a3).f1), .slice A191_2 ((rd_T54 l2 a3).f2).length c191_2, .slice none 0 0, .int .i64 0, .int .i64 0, .int .i64 0]) ?_ 3 _ rfl; (with_reducible repeat (first | refine blk_drewN ?_ _ | refine blk_drew ?_ | refine blk_alloc ?_ _)); refine blk_put (cs := #[.int .i64 ((rd_T54 l2 a3).f0), .int .i64 ((rd_T54 l2 a3).f1), .slice none 0 0, .slice none 0 0, .int .i64 0, .int .i64 0, .int .i64 0]) ?_ 2 _ rfl; (with_reducible repeat (first | refine blk_drewN ?_ _ | refine blk_drew ?_ | refine blk_alloc ?_ _)); refine blk_put (cs := #[.int .i64 ((rd_T54 l2 a3).f0), .int .i64 0, .slice none 0 0, .slice none 0 0, .int .i64 0, .int .i64 0, .int .i64 0]) ?_ 1 _ rfl; (with_reducible repeat (first | refine blk_drewN ?_ _ | refine blk_drew ?_ | refine blk_alloc ?_ _)); refine blk_put (cs := #[.int .i64 0, .int .i64 0, .slice none 0 0, .slice none 0 0, .int .i64 0, .int .i64 0, .int .i64 0]) ?_ 0 _ rfl; (with_reducible repeat (first | refine blk_drewN ?_ _ | refine blk_drew ?_ | refine blk_alloc ?_ _)); exact BK192.out) hb); have n3_ := Aside0.mk (below_step bl_ hb); clear BK189; clear BK190; clear BK192; clear HB; have BK189 := n0_; have BK190 := n1_; have BK192 := n2_; have HB := n3_; clear n0_ n1_ n2_ n3_; (try clear hb); (try clear hb2); (try clear hk); (try clear hi); obtain ⟨hcz26_0, hcz26_1⟩ := cells2 BK190; obtain ⟨hfz26_0, hfz26_1⟩ := fz2 BK190; obtain ⟨hcz27_0, hcz27_1, hcz27_2, hcz27_3, hcz27_4, hcz27_5, hcz27_6⟩ := cells7 BK192; obtain ⟨hfz27_0, hfz27_1, hfz27_2, hfz27_3, hfz27_4, hfz27_5, hfz27_6⟩ := fz7 BK192; have p195 : 0 ≤ (((rd_T54 l2 a3).f1) : Int) := of_decide_eq_true (by first | (with_reducible assumption) | assumption); have q195 : ((rd_T54 l2 a3).f1) < (l4_0.length : Int) := of_decide_eq_true (by first | (with_reducible assumption) | assumption); obtain ⟨ad195, e195, hx195_0⟩ := Kd.at_int HR4_0.out ((rd_T54 l2 a3).f1) p195 q195; cases e195; replace hx195_0 := hc_ HB hx195_0; replace p195 := eq_true p195; replace q195 := eq_true q195))
              go_meet
              case rel => exact ⟨_, (decide ((rd l4_0 ((rd_T54 l2 a3).f1)) ≥ 0)), (by first | rfl | (simp; done) | (simp [*]; done)), H', ⟨by first | omega | exact Nat.le_refl _⟩, ⟨K_ BK189⟩, ⟨K_ BK190⟩, ⟨K_ BK192⟩, ⟨bl_⟩⟩
            rw [if_neg c19] at H
            exact absurd H (by simp)
          rw [if_neg c18] at H
          exact absurd H (by simp)
        replace c17 := Bool.eq_false_iff.mpr c17
        subst c17
        have H1 : (refute_accepted.j0 k a1 l2 a3 true a0_0 a0_1 a0_2 l0_3 l0_4 l0_5 l4_0 l4_1 ((rd_T54 l2 a3).f0) ((rd_T54 l2 a3).f1) ((rd_T54 l2 a3).f2) ((rd_T54 l2 a3).f3) ((rd_T54 l2 a3).f4) ((rd_T54 l2 a3).f5) ((rd_T54 l2 a3).f6)) = some r := by rw [if_neg (show ¬ (false = true) by decide)] at H; exact H
        clear H
        have H := H1
        clear H1
        have H' := Aside0.mk H
        clear H
        have hnb28 := NB189_190.out
        have hnc28 := NB190_189.out
        have hnb29 := NB189_192.out
        have hnc29 := NB192_189.out
        obtain ⟨hcz30_0, hcz30_1, hcz30_2, hcz30_3, hcz30_4, hcz30_5⟩ := cells6 BK189
        obtain ⟨hfz30_0, hfz30_1, hfz30_2, hfz30_3, hfz30_4, hfz30_5⟩ := fz6 BK189
        have hnb31 := NB192_190.out
        have hnc31 := NB190_192.out
        obtain ⟨hcz32_0, hcz32_1, hcz32_2, hcz32_3, hcz32_4, hcz32_5, hcz32_6⟩ := cells7 BK192
        obtain ⟨hfz32_0, hfz32_1, hfz32_2, hfz32_3, hfz32_4, hfz32_5, hfz32_6⟩ := fz7 BK192
        go_wp2_with (first | ((with_reducible refine gate_callee (f := 35) rfl ?_); refine gL_ 36 Try.func35 #[.agg #[.int .i64 a0_0, .int .i64 a0_1, .bool a0_2, .slice A0_3 l0_3.length c0_3, .slice A0_4 l0_4.length c0_4, .slice A0_5 l0_5.length c0_5], .int .i64 ((rd_T54 l2 a3).f1)] ?_; (with_reducible refine (refute_needs.calls a0_0 a0_1 a0_2 _ _ l0_3 _ _ l0_4 _ _ l0_5 ((rd_T54 l2 a3).f1) false _ ?side1 ?side2 ?side3 ?side4 ?side5 ?side6 A16.out).mono ?_); (case side1 => exact Kd.C_below HR0_3.out bl_); (case side2 => exact HC0_3.out); (case side3 => exact Kd.C_below HR0_4.out bl_); (case side4 => exact HC0_4.out); (case side5 => exact Kd.C_below HR0_5.out bl_); (case side6 => exact HC0_5.out); rintro e w33 ⟨rfl, hb⟩; refine ⟨_, rfl, ?_⟩; have n0_ := Aside0.mk (blk_below (g := gb189) (o := .cells #[.int .i64 a0_0, .int .i64 a0_1, .bool a0_2, .slice A0_3 l0_3.length c0_3, .slice A0_4 l0_4.length c0_4, .slice A0_5 l0_5.length c0_5] 26 (0, 0)) (by (with_reducible repeat (first | refine blk_drewN ?_ _ | refine blk_drew ?_ | refine blk_alloc ?_ _)); refine blk_far ?_ NB189_192.out _; (with_reducible repeat (first | refine blk_drewN ?_ _ | refine blk_drew ?_ | refine blk_alloc ?_ _)); refine blk_far ?_ NB189_192.out _; (with_reducible repeat (first | refine blk_drewN ?_ _ | refine blk_drew ?_ | refine blk_alloc ?_ _)); refine blk_far ?_ NB189_192.out _; (with_reducible repeat (first | refine blk_drewN ?_ _ | refine blk_drew ?_ | refine blk_alloc ?_ _)); refine blk_far ?_ NB189_192.out _; (with_reducible repeat (first | refine blk_drewN ?_ _ | refine blk_drew ?_ | refine blk_alloc ?_ _)); refine blk_far ?_ NB189_192.out _; (with_reducible repeat (first | refine blk_drewN ?_ _ | refine blk_drew ?_ | refine blk_alloc ?_ _)); refine blk_far ?_ NB189_192.out _; (with_reducible repeat (first | refine blk_drewN ?_ _ | refine blk_drew ?_ | refine blk_alloc ?_ _)); refine blk_far ?_ NB189_192.out _; (with_reducible repeat (first | refine blk_drewN ?_ _ | refine blk_drew ?_ | refine blk_alloc ?_ _)); exact BK189.out) hb); have n1_ := Aside0.mk (blk_below (g := gb190) (o := .cells #[.slice A4_0 l4_0.length c4_0, .slice A4_1 l4_1.length c4_1] 61 (0, 0)) (by (with_reducible repeat (first | refine blk_drewN ?_ _ | refine blk_drew ?_ | refine blk_alloc ?_ _)); refine blk_far ?_ NB190_192.out _; (with_reducible repeat (first | refine blk_drewN ?_ _ | refine blk_drew ?_ | refine blk_alloc ?_ _)); refine blk_far ?_ NB190_192.out _; (with_reducible repeat (first | refine blk_drewN ?_ _ | refine blk_drew ?_ | refine blk_alloc ?_ _)); refine blk_far ?_ NB190_192.out _; (with_reducible repeat (first | refine blk_drewN ?_ _ | refine blk_drew ?_ | refine blk_alloc ?_ _)); refine blk_far ?_ NB190_192.out _; (with_reducible repeat (first | refine blk_drewN ?_ _ | refine blk_drew ?_ | refine blk_alloc ?_ _)); refine blk_far ?_ NB190_192.out _; (with_reducible repeat (first | refine blk_drewN ?_ _ | refine blk_drew ?_ | refine blk_alloc ?_ _)); refine blk_far ?_ NB190_192.out _; (with_reducible repeat (first | refine blk_drewN ?_ _ | refine blk_drew ?_ | refine blk_alloc ?_ _)); refine blk_far ?_ NB190_192.out _; (with_reducible repeat (first | refine blk_drewN ?_ _ | refine blk_drew ?_ | refine blk_alloc ?_ _)); exact BK190.out) hb); have n2_ := Aside0.mk (blk_below (g := gb192) (o := .cells #[.int .i64 ((rd_T54 l2 a3).f0), .int .i64 ((rd_T54 l2 a3).f1), .slice A191_2 ((rd_T54 l2 a3).f2).length c191_2, .slice A191_3 ((rd_T54 l2 a3).f3).length c191_3, .int .i64 ((rd_T54 l2 a3).f4), .int .i64 ((rd_T54 l2 a3).f5), .int .i64 ((rd_T54 l2 a3).f6)] 54 (0, 0)) (by (with_reducible repeat (first | refine blk_drewN ?_ _ | refine blk_drew ?_ | refine blk_alloc ?_ _)); refine blk_put (cs := #[.int .i64 ((rd_T54 l2 a3).f0), .int .i64 ((rd_T54 l2 a3).f1), .slice A191_2 ((rd_T54 l2 a3).f2).length c191_2, .slice A191_3 ((rd_T54 l2 a3).f3).length c191_3, .int .i64 ((rd_T54 l2 a3).f4), .int .i64 ((rd_T54 l2 a3).f5), .int .i64 0]) ?_ 6 _ rfl; (with_reducible repeat (first | refine blk_drewN ?_ _ | refine blk_drew ?_ | refine blk_alloc ?_ _)); refine blk_put (cs := #[.int .i64 ((rd_T54 l2 a3).f0), .int .i64 ((rd_T54 l2 a3).f1), .slice A191_2 ((rd_T54 l2 a3).f2).length c191_2, .slice A191_3 ((rd_T54 l2 a3).f3).length c191_3, .int .i64 ((rd_T54 l2 a3).f4), .int .i64 0, .int .i64 0]) ?_ 5 _ rfl; (with_reducible repeat (first | refine blk_drewN ?_ _ | refine blk_drew ?_ | refine blk_alloc ?_ _)); refine blk_put (cs := #[.int .i64 ((rd_T54 l2 a3).f0), .int .i64 ((rd_T54 l2 a3).f1), .slice A191_2 ((rd_T54 l2 a3).f2).length c191_2, .slice A191_3 ((rd_T54 l2 a3).f3).length c191_3, .int .i64 0, .int .i64 0, .int .i64 0]) ?_ 4 _ rfl; (with_reducible repeat (first | refine blk_drewN ?_ _ | refine blk_drew ?_ | refine blk_alloc ?_ _)); refine blk_put (cs := #[.int .i64 ((rd_T54 l2 a3).f0), .int .i64 ((rd_T54 l2 a3).f1), .slice A191_2 ((rd_T54 l2 a3).f2).length c191_2, .slice none 0 0, .int .i64 0, .int .i64 0, .int .i64 0]) ?_ 3 _ rfl; (with_reducible repeat (first | refine blk_drewN ?_ _ | refine blk_drew ?_ | refine blk_alloc ?_ _)); refine blk_put (cs := #[.int .i64 ((rd_T54 l2 a3).f0), .int .i64 ((rd_T54 l2 a3).f1), .slice none 0 0, .slice none 0 0, .int .i64 0, .int .i64 0, .int .i64 0]) ?_ 2 _ rfl; (with_reducible repeat (first | refine blk_drewN ?_ _ | refine blk_drew ?_ | refine blk_alloc ?_ _)); refine blk_put (cs := #[.int .i64 ((rd_T54 l2 a3).f0), .int .i64 0, .slice none 0 0, .slice none 0 0, .int .i64 0, .int .i64 0, .int .i64 0]) ?_ 1 _ rfl; (with_reducible repeat (first | refine blk_drewN ?_ _ | refine blk_drew ?_ | refine blk_alloc ?_ _)); refine blk_put (cs := #[.int .i64 0, .int .i64 0, .slice none 0 0, .slice none 0 0, .int .i64 0, .int .i64 0, .int .i64 0]) ?_ 0 _ rfl; (with_reducible repeat (first | refine blk_drewN ?_ _ | refine blk_drew ?_ | refine blk_alloc ?_ _)); exact BK192.out) hb); have n3_ := Aside0.mk (below_step bl_ hb); clear BK189; clear BK190; clear BK192; clear HB; have BK189 := n0_; have BK190 := n1_; have BK192 := n2_; have HB := n3_; clear n0_ n1_ n2_ n3_; (try clear hb); (try clear hb2); (try clear hk); (try clear hi)))
        go_meet
        case rel => exact ⟨_, (true), (by first | rfl | (simp; done) | (simp [*]; done)), H', ⟨by first | omega | exact Nat.le_refl _⟩, ⟨K_ BK189⟩, ⟨K_ BK190⟩, ⟨K_ BK192⟩, ⟨bl_⟩⟩
       clear HC9
       obtain ⟨kq, x46_8, rfl, HA, HJ8, BK189, BK190, BK192, HB⟩ := hcut
       cases kq with
       | zero => exact absurd HA.out (by simp [refute_accepted.j0])
       | succ kj8 => ?_
       have H := HA.out
       clear HA
       simp only [refute_accepted.j0] at H
       by_cases c34 : x46_8 = true
       · subst c34
         have H1 : (some false) = some r := by rw [if_pos rfl] at H; exact H
         clear H
         have H := H1
         clear H1
         obtain rfl := Option.some.inj H
         go_wp2
         go_ret
         exact ⟨by first | rfl | (simp [errW_none, errW_some] <;> rfl) | (simp [*, errW_none, errW_some] <;> rfl), by repeat (first | (with_reducible first | exact HB.out | apply below_alloc | apply pw_below_drewN | apply below_drew1 | refine below_set ?_ GE189.out | refine below_set ?_ GE190.out | refine below_set ?_ GE192.out) | exact HB.out)⟩
       replace c34 := Bool.eq_false_iff.mpr c34
       subst c34
       have H1 : ((refute_choices.f kj8 a0_0 a0_1 a0_2 l0_3 l0_4 l0_5 l4_0 l4_1 ((rd_T54 l2 a3).f1)).bind fun t196 => (if (((rd_T54 l2 a3).f2).length : Int) = (wrap64 (a1 * t196)) then (refute_accepted.l0 kj8 a1 l2 a3 t196 ((rd_T54 l2 a3).f2) (((rd_T54 l2 a3).f2).length : Int) 0 a0_0 a0_1 a0_2 l0_3 l0_4 l0_5 l4_0 l4_1 ((rd_T54 l2 a3).f0) ((rd_T54 l2 a3).f1) ((rd_T54 l2 a3).f2) ((rd_T54 l2 a3).f3) ((rd_T54 l2 a3).f4) ((rd_T54 l2 a3).f5) ((rd_T54 l2 a3).f6)) else (some false))) = some r := by rw [if_neg (show ¬ (false = true) by decide)] at H; exact H
       clear H
       have H := H1
       clear H1
       replace H := Option.bind_eq_some_iff.mp H
       obtain ⟨t196, A350, H⟩ := H
       replace H : (if (((rd_T54 l2 a3).f2).length : Int) = (wrap64 (a1 * t196)) then (refute_accepted.l0 kj8 a1 l2 a3 t196 ((rd_T54 l2 a3).f2) (((rd_T54 l2 a3).f2).length : Int) 0 a0_0 a0_1 a0_2 l0_3 l0_4 l0_5 l4_0 l4_1 ((rd_T54 l2 a3).f0) ((rd_T54 l2 a3).f1) ((rd_T54 l2 a3).f2) ((rd_T54 l2 a3).f3) ((rd_T54 l2 a3).f4) ((rd_T54 l2 a3).f5) ((rd_T54 l2 a3).f6)) else (some false)) = some r := H
       have A35 := Aside0.mk A350
       clear A350
       by_cases c36 : (((rd_T54 l2 a3).f2).length : Int) = (wrap64 (a1 * t196))
       · rw [if_pos c36] at H
         have c36b0 : ((((rd_T54 l2 a3).f2).length : Int) == (wrap64 (a1 * t196))) = true := beq_iff_eq.mpr c36
         have c36b1 : ((((rd_T54 l2 a3).f2).length : Int) != (wrap64 (a1 * t196))) = false := bne_eq_false_iff_eq.mpr c36
         clear c36
         have H' := Aside0.mk H
         clear H
         have hnb37 := NB189_190.out
         have hnc37 := NB190_189.out
         have hnb38 := NB189_192.out
         have hnc38 := NB192_189.out
         obtain ⟨hcz39_0, hcz39_1, hcz39_2, hcz39_3, hcz39_4, hcz39_5⟩ := cells6 BK189
         obtain ⟨hfz39_0, hfz39_1, hfz39_2, hfz39_3, hfz39_4, hfz39_5⟩ := fz6 BK189
         have hnb40 := NB190_192.out
         have hnc40 := NB192_190.out
         obtain ⟨hcz41_0, hcz41_1⟩ := cells2 BK190
         obtain ⟨hfz41_0, hfz41_1⟩ := fz2 BK190
         obtain ⟨hcz42_0, hcz42_1, hcz42_2, hcz42_3, hcz42_4, hcz42_5, hcz42_6⟩ := cells7 BK192
         obtain ⟨hfz42_0, hfz42_1, hfz42_2, hfz42_3, hfz42_4, hfz42_5, hfz42_6⟩ := fz7 BK192
         go_wp2_with (first | ((with_reducible refine gate_callee (f := 36) rfl ?_); refine gL_ 51 Try.func36 #[.agg #[.int .i64 a0_0, .int .i64 a0_1, .bool a0_2, .slice A0_3 l0_3.length c0_3, .slice A0_4 l0_4.length c0_4, .slice A0_5 l0_5.length c0_5], .agg #[.slice A4_0 l4_0.length c4_0, .slice A4_1 l4_1.length c4_1], .int .i64 ((rd_T54 l2 a3).f1)] ?_; (with_reducible refine (refute_choices.calls kj8 a0_0 a0_1 a0_2 _ _ l0_3 _ _ l0_4 _ _ l0_5 _ _ l4_0 _ _ l4_1 ((rd_T54 l2 a3).f1) t196 _ ?side1 ?side2 ?side3 ?side4 ?side5 ?side6 ?side7 ?side8 ?side9 ?side10 A35.out).mono ?_); (case side1 => exact CB_ HR0_3); (case side2 => exact HC0_3.out); (case side3 => exact CB_ HR0_4); (case side4 => exact HC0_4.out); (case side5 => exact CB_ HR0_5); (case side6 => exact HC0_5.out); (case side7 => exact CB_ HR4_0); (case side8 => exact HC4_0.out); (case side9 => exact CB_ HR4_1); (case side10 => exact HC4_1.out); rintro e w43 ⟨rfl, hb⟩; refine ⟨_, rfl, ?_⟩; have n0_ := Aside0.mk (blk_below (K_ BK189) hb); have n1_ := Aside0.mk (blk_below (K_ BK190) hb); have n2_ := Aside0.mk (blk_below (K_ BK192) hb); have n3_ := Aside0.mk (below_step bl_ hb); clear BK189; clear BK190; clear BK192; clear HB; have BK189 := n0_; have BK190 := n1_; have BK192 := n2_; have HB := n3_; clear n0_ n1_ n2_ n3_; (try clear hb); (try clear hb2); (try clear hk); (try clear hi); obtain ⟨hcz44_0, hcz44_1, hcz44_2, hcz44_3, hcz44_4, hcz44_5, hcz44_6⟩ := cells7 BK192; obtain ⟨hfz44_0, hfz44_1, hfz44_2, hfz44_3, hfz44_4, hfz44_5, hfz44_6⟩ := fz7 BK192))
         go_loopg [62] kj8 (fun kq v62 w' => ∃ (x62_2 : Int), v62 = .int .i64 x62_2 ∧ Aside0 (refute_accepted.l0 kq a1 l2 a3 t196 ((rd_T54 l2 a3).f2) (((rd_T54 l2 a3).f2).length : Int) x62_2 a0_0 a0_1 a0_2 l0_3 l0_4 l0_5 l4_0 l4_1 ((rd_T54 l2 a3).f0) ((rd_T54 l2 a3).f1) ((rd_T54 l2 a3).f2) ((rd_T54 l2 a3).f3) ((rd_T54 l2 a3).f4) ((rd_T54 l2 a3).f5) ((rd_T54 l2 a3).f6) = some r) ∧ Aside0 (kq ≤ kj8) ∧ Aside0 (w'.heap[gb189]? = some (.cells #[.int .i64 a0_0, .int .i64 a0_1, .bool a0_2, (.slice A0_3 l0_3.length c0_3), (.slice A0_4 l0_4.length c0_4), (.slice A0_5 l0_5.length c0_5)] 26 (0, 0))) ∧ Aside0 (w'.heap[gb190]? = some (.cells #[(.slice A4_0 l4_0.length c4_0), (.slice A4_1 l4_1.length c4_1)] 61 (0, 0))) ∧ Aside0 (w'.heap[gb192]? = some (.cells #[.int .i64 ((rd_T54 l2 a3).f0), .int .i64 ((rd_T54 l2 a3).f1), (.slice A191_2 ((rd_T54 l2 a3).f2).length c191_2), (.slice A191_3 ((rd_T54 l2 a3).f3).length c191_3), .int .i64 ((rd_T54 l2 a3).f4), .int .i64 ((rd_T54 l2 a3).f5), .int .i64 ((rd_T54 l2 a3).f6)] 54 (0, 0))) ∧ Aside0 (Below w.heap.size w w'))
         case atStart => exact ⟨(0), (by first | rfl | (simp; done) | (simp [*]; done)), H', ⟨Nat.le_refl _⟩, ⟨K_ BK189⟩, ⟨K_ BK190⟩, ⟨K_ BK192⟩, ⟨bl_⟩⟩
         clear H'
         obtain ⟨x62_2, rfl, HA, HK2, BK189, BK190, BK192, HB⟩ := hrel
         cases gk with
         | zero => exact absurd HA.out (by simp [refute_accepted.l0])
         | succ k2 => ?_
         have H := HA.out
         clear HA
         simp only [refute_accepted.l0] at H
         by_cases c45 : x62_2 < (((rd_T54 l2 a3).f2).length : Int)
         · rw [if_pos c45] at H
           have c45b0 : decide (x62_2 < (((rd_T54 l2 a3).f2).length : Int)) = true := decide_eq_true c45
           clear c45
           by_cases c46 : 0 ≤ x62_2
           · rw [if_pos c46] at H
             have c46b0 : decide (0 ≤ x62_2) = true := decide_eq_true c46
             clear c46
             by_cases c47 : x62_2 < (((rd_T54 l2 a3).f2).length : Int)
             · rw [if_pos c47] at H
               have c47b0 : decide (x62_2 < (((rd_T54 l2 a3).f2).length : Int)) = true := decide_eq_true c47
               clear c47
               have HC48 := Aside0.mk H
               clear H
               have p197 : 0 ≤ (x62_2 : Int) := of_decide_eq_true (by first | (with_reducible assumption) | assumption)
               have q197 : x62_2 < (((rd_T54 l2 a3).f2).length : Int) := of_decide_eq_true (by first | (with_reducible assumption) | assumption)
               obtain ⟨ad197, e197, hx197_0⟩ := Kd.at_int HR191_2.out x62_2 p197 q197
               cases e197
               replace hx197_0 := hc_ HB hx197_0
               replace p197 := eq_true p197
               replace q197 := eq_true q197
               go_upto_region 12 with (fail)
               go_cut [87] (fun v87 wc => ∃ (kq : Nat) (x87_47 : Bool), v87 = .bool x87_47 ∧ Aside0 (refute_accepted.j2 kq a1 l2 a3 t196 ((rd_T54 l2 a3).f2) (((rd_T54 l2 a3).f2).length : Int) x62_2 x87_47 a0_0 a0_1 a0_2 l0_3 l0_4 l0_5 l4_0 l4_1 ((rd_T54 l2 a3).f0) ((rd_T54 l2 a3).f1) ((rd_T54 l2 a3).f2) ((rd_T54 l2 a3).f3) ((rd_T54 l2 a3).f4) ((rd_T54 l2 a3).f5) ((rd_T54 l2 a3).f6) = some r) ∧ Aside0 (kq ≤ k2) ∧ Aside0 (wc.heap[gb189]? = some (.cells #[.int .i64 a0_0, .int .i64 a0_1, .bool a0_2, (.slice A0_3 l0_3.length c0_3), (.slice A0_4 l0_4.length c0_4), (.slice A0_5 l0_5.length c0_5)] 26 (0, 0))) ∧ Aside0 (wc.heap[gb190]? = some (.cells #[(.slice A4_0 l4_0.length c4_0), (.slice A4_1 l4_1.length c4_1)] 61 (0, 0))) ∧ Aside0 (wc.heap[gb192]? = some (.cells #[.int .i64 ((rd_T54 l2 a3).f0), .int .i64 ((rd_T54 l2 a3).f1), (.slice (some ad197) ((rd_T54 l2 a3).f2).length c191_2), (.slice A191_3 ((rd_T54 l2 a3).f3).length c191_3), .int .i64 ((rd_T54 l2 a3).f4), .int .i64 ((rd_T54 l2 a3).f5), .int .i64 ((rd_T54 l2 a3).f6)] 54 (0, 0))) ∧ Aside0 (Below w.heap.size w wc))
               case first =>
                have H := HC48.out
                clear HC48
                by_cases c49 : (rd ((rd_T54 l2 a3).f2) x62_2) ≤ a3
                · rw [if_pos c49] at H
                  have c49b0 : decide ((rd ((rd_T54 l2 a3).f2) x62_2) ≤ a3) = true := decide_eq_true c49
                  clear c49
                  (first | rw [c49b0] | (simp only [i64_w, i32_w]; rw [c49b0]) | skip)
                  have H' := Aside0.mk H
                  clear H
                  try go_wp2
                  have n0_ := Aside0.mk (blk_drew BK189.out)
                  have n1_ := Aside0.mk (blk_drew BK190.out)
                  have n2_ := Aside0.mk (blk_drew BK192.out)
                  have n3_ := Aside0.mk (below_drew1 HB.out)
                  clear BK189
                  clear BK190
                  clear BK192
                  clear HB
                  have BK189 := n0_
                  have BK190 := n1_
                  have BK192 := n2_
                  have HB := n3_
                  clear n0_ n1_ n2_ n3_
                  refine start_ (n := 21) (S := fun w' => True) (ds := []) (bz 21 0) (by kernel_rfl) rfl rfl trivial (fun hHeld => ?_); refine with_tabW refute_accepted.tab12 refute_accepted.bits12 (fun HT_ HW_ => ?_)
                  generalize wr.drew = w50 at BK189 BK190 BK192 HB hHeld ⊢
                  refine pu_ 0 67 HT_ ?_
                  refine pu_ 1 68 HT_ ?_
                  refine pu_ 2 69 HT_ ?_
                  refine pu_ 3 70 HT_ ?_
                  refine pn_ 4 71 HT_ ?_
                  refine pn_ 5 72 HT_ ?_
                  refine pn_ 6 73 HT_ ?_
                  refine pn_ 7 74 HT_ ?_
                  refine pn_ 8 75 HT_ ?_
                  refine pn_ 9 76 HT_ ?_
                  refine pn_ 10 77 HT_ ?_
                  refine pn_ 11 78 HT_ ?_
                  refine pn_ 12 79 HT_ ?_
                  refine pn_ 13 80 HT_ ?_
                  refine pn_ 14 81 HT_ ?_
                  refine pn_ 15 82 HT_ ?_
                  refine pn_ 16 83 HT_ ?_
                  refine pn_ 17 84 HT_ ?_
                  refine pn_ 18 85 HT_ ?_
                  refine pn_ 19 86 HT_ ?_
                  refine pu_ 20 87 HT_ ?_
                  refine done_ (done_of HT_.out (by kernel_rfl)) ?_
                  try go_wp2
                  go_meet
                  case rel => exact ⟨_, (true), (by first | rfl | (simp; done) | (simp [*]; done)), H', ⟨by have := HJ8.out; have := HK2.out; first | omega | exact Nat.le_refl _⟩, ⟨K_ BK189⟩, ⟨K_ BK190⟩, ⟨K_ BK192⟩, ⟨bl_⟩⟩
                rw [if_neg c49] at H
                have c49b0 : decide ((rd ((rd_T54 l2 a3).f2) x62_2) ≤ a3) = false := decide_eq_false c49
                clear c49
                (first | rw [c49b0] | (simp only [i64_w, i32_w]; rw [c49b0]) | skip)
                by_cases c51 : t196 = 0
                · rw [if_pos c51] at H
                  exact absurd H (by simp)
                rw [if_neg c51] at H
                have c51b0 : (t196 == 0) = false := beq_eq_false_iff_ne.mpr c51
                have c51b1 : (t196 != 0) = true := bne_iff_ne.mpr c51
                replace H := Option.bind_eq_some_iff.mp H
                obtain ⟨⟨t198, t201⟩, A520, H⟩ := H
                replace H : ((refute_accepted.f k2 a0_0 a0_1 a0_2 l0_3 l0_4 l0_5 a1 l2 (rd ((rd_T54 l2 a3).f2) x62_2) t198 t201).bind fun t204 => (refute_accepted.j2 k2 a1 l2 a3 t196 ((rd_T54 l2 a3).f2) (((rd_T54 l2 a3).f2).length : Int) x62_2 (!t204) a0_0 a0_1 a0_2 l0_3 l0_4 l0_5 l4_0 l4_1 ((rd_T54 l2 a3).f0) ((rd_T54 l2 a3).f1) ((rd_T54 l2 a3).f2) ((rd_T54 l2 a3).f3) ((rd_T54 l2 a3).f4) ((rd_T54 l2 a3).f5) ((rd_T54 l2 a3).f6))) = some r := H
                have A52 := Aside0.mk A520
                clear A520
                replace H := Option.bind_eq_some_iff.mp H
                obtain ⟨t204, A530, H⟩ := H
                replace H : (refute_accepted.j2 k2 a1 l2 a3 t196 ((rd_T54 l2 a3).f2) (((rd_T54 l2 a3).f2).length : Int) x62_2 (!t204) a0_0 a0_1 a0_2 l0_3 l0_4 l0_5 l4_0 l4_1 ((rd_T54 l2 a3).f0) ((rd_T54 l2 a3).f1) ((rd_T54 l2 a3).f2) ((rd_T54 l2 a3).f3) ((rd_T54 l2 a3).f4) ((rd_T54 l2 a3).f5) ((rd_T54 l2 a3).f6)) = some r := H
                have A53 := Aside0.mk A530
                clear A530
                have H' := Aside0.mk H
                clear H
                try go_wp2
                have n0_ := Aside0.mk (blk_drew BK189.out)
                have n1_ := Aside0.mk (blk_drew BK190.out)
                have n2_ := Aside0.mk (blk_drew BK192.out)
                have n3_ := Aside0.mk (below_drew1 HB.out)
                clear BK189
                clear BK190
                clear BK192
                clear HB
                have BK189 := n0_
                have BK190 := n1_
                have BK192 := n2_
                have HB := n3_
                clear n0_ n1_ n2_ n3_
                refine start_ (n := 21) (S := fun w' => w'.cell? ⟨gb189, 0, none⟩ = some (.int .i64 a0_0) ∧ w'.cell? ⟨gb189, 1, none⟩ = some (.int .i64 a0_1) ∧ w'.cell? ⟨gb189, 2, none⟩ = some (.bool a0_2) ∧ w'.cell? ⟨gb189, 3, none⟩ = some (.slice A0_3 l0_3.length c0_3) ∧ w'.cell? ⟨gb189, 4, none⟩ = some (.slice A0_4 l0_4.length c0_4) ∧ w'.cell? ⟨gb189, 5, none⟩ = some (.slice A0_5 l0_5.length c0_5) ∧ w'.cell? ⟨gb190, 0, none⟩ = some (.slice A4_0 l4_0.length c4_0) ∧ w'.cell? ⟨gb190, 1, none⟩ = some (.slice A4_1 l4_1.length c4_1) ∧ w'.cell? ⟨gb192, 0, none⟩ = some (.int .i64 ((rd_T54 l2 a3).f0)) ∧ w'.cell? ⟨gb192, 1, none⟩ = some (.int .i64 ((rd_T54 l2 a3).f1)) ∧ w'.cell? ⟨gb192, 2, none⟩ = some (.slice (some ad197) ((rd_T54 l2 a3).f2).length c191_2) ∧ w'.cell? ⟨gb192, 3, none⟩ = some (.slice A191_3 ((rd_T54 l2 a3).f3).length c191_3) ∧ w'.cell? ⟨gb192, 4, none⟩ = some (.int .i64 ((rd_T54 l2 a3).f4)) ∧ w'.cell? ⟨gb192, 5, none⟩ = some (.int .i64 ((rd_T54 l2 a3).f5)) ∧ w'.cell? ⟨gb192, 6, none⟩ = some (.int .i64 ((rd_T54 l2 a3).f6))) (ds := []) (bz 21 0) (by kernel_rfl) rfl rfl ⟨(blk_cell BK189.out 0).trans rfl, (blk_cell BK189.out 1).trans rfl, (blk_cell BK189.out 2).trans rfl, (blk_cell BK189.out 3).trans rfl, (blk_cell BK189.out 4).trans rfl, (blk_cell BK189.out 5).trans rfl, (blk_cell BK190.out 0).trans rfl, (blk_cell BK190.out 1).trans rfl, (blk_cell BK192.out 0).trans rfl, (blk_cell BK192.out 1).trans rfl, (blk_cell BK192.out 2).trans rfl, (blk_cell BK192.out 3).trans rfl, (blk_cell BK192.out 4).trans rfl, (blk_cell BK192.out 5).trans rfl, (blk_cell BK192.out 6).trans rfl⟩ (fun hHeld => ?_); refine with_tabW refute_accepted.tab12 refute_accepted.bits12 (fun HT_ HW_ => ?_)
                generalize wr.drew = w54 at BK189 BK190 BK192 HB hHeld ⊢
                refine pu_ 0 67 HT_ ?_
                refine pu_ 1 68 HT_ ?_
                refine pu_ 2 69 HT_ ?_
                refine pu_ 3 70 HT_ ?_
                refine pu_ 5 72 HT_ ?_
                refine pu_ 6 73 HT_ ?_
                refine pu_ 7 74 HT_ ?_
                refine pu_ 9 76 HT_ ?_
                refine pu_ 11 78 HT_ ?_
                refine pu_ 12 79 HT_ ?_
                refine pu_ 13 80 HT_ ?_
                refine pu_ 14 81 HT_ ?_
                refine pu_ 15 82 HT_ ?_
                refine pu_ 16 83 HT_ ?_
                refine tk_ 4 71 HT_ HW_ hHeld ?_ (hy := by rintro w' ⟨s0, s1, s2, s3, s4, s5, s6, s7, s8, s9, s10, s11, s12, s13, s14⟩; go_simp; with_reducible rfl)
                refine tk_ 8 75 HT_ HW_ hHeld ?_ (hy := by rintro w' ⟨s0, s1, s2, s3, s4, s5, s6, s7, s8, s9, s10, s11, s12, s13, s14⟩; go_simp; with_reducible rfl)
                refine tk_ 10 77 HT_ HW_ hHeld ?_ (hy := by rintro w' ⟨s0, s1, s2, s3, s4, s5, s6, s7, s8, s9, s10, s11, s12, s13, s14⟩; go_simp; with_reducible rfl)
                refine on_ 17 (some 84) HT_ (fun K hK => ?_)
                refine gs_ Try.func37 #[.agg #[.slice A4_0 l4_0.length c4_0, .slice A4_1 l4_1.length c4_1], .int .i64 ((rd_T54 l2 a3).f1), .int .i64 (wrap64 (Int.tdiv x62_2 t196)), .int .i64 (Int.tmod x62_2 t196)] ?_
                with_reducible refine (refute_state_with.calls _ _ l4_0 _ _ l4_1 ((rd_T54 l2 a3).f1) (wrap64 (Int.tdiv x62_2 t196)) (Int.tmod x62_2 t196) t198 t201 _ ?side1 ?side2 ?side3 ?side4 A52.out).mono ?_
                (case side1 => exact CB_ HR4_0)
                (case side2 => exact HC4_0.out)
                (case side3 => exact CB_ HR4_1)
                (case side4 => exact HC4_1.out)
                rintro e w55 ⟨v199, v202, rfl, ho0, ho1, hb⟩
                refine ⟨_, rfl, ?_⟩
                have n0_ := Aside0.mk (Kd.R_lower ho0 (below_size bl_))
                have n1_ := Aside0.mk (Kd.R_lower ho1 (below_size bl_))
                have n2_ := Aside0.mk (blk_below (K_ BK189) hb)
                have n3_ := Aside0.mk (blk_below (K_ BK190) hb)
                have n4_ := Aside0.mk (blk_below (K_ BK192) hb)
                have n5_ := Aside0.mk (below_step bl_ hb)
                clear BK189
                clear BK190
                clear BK192
                clear HB
                have HO200 := n0_
                have HO203 := n1_
                have BK189 := n2_
                have BK190 := n3_
                have BK192 := n4_
                have HB := n5_
                clear n0_ n1_ n2_ n3_ n4_ n5_
                obtain ⟨Ao56, co56, eo56⟩ := Kd.R_slice HO200.out
                (first | subst eo56 | (injection eo56 with f1_ f2_ f3_; have f4_ := f1_.symm; have f5_ := f3_.symm; clear f1_ f2_ f3_; subst f4_; subst f5_))
                obtain ⟨Ao57, co57, eo57⟩ := Kd.R_slice HO203.out
                (first | subst eo57 | (injection eo57 with f1_ f2_ f3_; have f4_ := f1_.symm; have f5_ := f3_.symm; clear f1_ f2_ f3_; subst f4_; subst f5_))
                refine hK.out _ _ ⟨(blk_cell BK189.out 0).trans rfl, (blk_cell BK189.out 1).trans rfl, (blk_cell BK189.out 2).trans rfl, (blk_cell BK189.out 3).trans rfl, (blk_cell BK189.out 4).trans rfl, (blk_cell BK189.out 5).trans rfl, (blk_cell BK190.out 0).trans rfl, (blk_cell BK190.out 1).trans rfl, (blk_cell BK192.out 0).trans rfl, (blk_cell BK192.out 1).trans rfl, (blk_cell BK192.out 2).trans rfl, (blk_cell BK192.out 3).trans rfl, (blk_cell BK192.out 4).trans rfl, (blk_cell BK192.out 5).trans rfl, (blk_cell BK192.out 6).trans rfl⟩ (fun hHeld => ?_)
                clear hK K
                refine no_ 84 ?_
                refine on_ 18 (some 85) HT_ (fun K hK => ?_)
                refine gs_ Try.func19 #[.agg #[.int .i64 a0_0, .int .i64 a0_1, .bool a0_2, .slice A0_3 l0_3.length c0_3, .slice A0_4 l0_4.length c0_4, .slice A0_5 l0_5.length c0_5], .int .i64 a1, .slice (some ad191) l2.length c2, .int .i64 (rd ((rd_T54 l2 a3).f2) x62_2), .agg #[.slice Ao56 t198.length co56, .slice Ao57 t201.length co57]] ?_
                with_reducible refine (ih k2 (by have := HJ8.out; have := HK2.out; omega) a0_0 a0_1 a0_2 _ _ l0_3 _ _ l0_4 _ _ l0_5 a1 _ _ l2 (rd ((rd_T54 l2 a3).f2) x62_2) _ _ t198 _ _ t201 t204 _ ?side1 ?side2 ?side3 ?side4 ?side5 ?side6 ?side7 ?side8 ?side9 ?side10 ?side11 ?side12 A53.out).mono ?_
                (case side1 => exact CB_ HR0_3)
                (case side2 => exact HC0_3.out)
                (case side3 => exact CB_ HR0_4)
                (case side4 => exact HC0_4.out)
                (case side5 => exact CB_ HR0_5)
                (case side6 => exact HC0_5.out)
                (case side7 => exact CB_ HR2)
                (case side8 => exact HC2.out)
                (case side9 => exact CR_ HO200)
                (case side10 => exact (Kd.R_reads' HO200.out).2.1)
                (case side11 => exact CR_ HO203)
                (case side12 => exact (Kd.R_reads' HO203.out).2.1)
                rintro e w58 ⟨rfl, hb⟩
                refine ⟨_, rfl, ?_⟩
                have n0_ := Aside0.mk (Kd.R_below (R_ HO200) hb)
                have n1_ := Aside0.mk (Kd.R_below (R_ HO203) hb)
                have n2_ := Aside0.mk (blk_below (K_ BK189) hb)
                have n3_ := Aside0.mk (blk_below (K_ BK190) hb)
                have n4_ := Aside0.mk (blk_below (K_ BK192) hb)
                have n5_ := Aside0.mk (below_step bl_ hb)
                clear HO200
                clear HO203
                clear BK189
                clear BK190
                clear BK192
                clear HB
                have HO200 := n0_
                have HO203 := n1_
                have BK189 := n2_
                have BK190 := n3_
                have BK192 := n4_
                have HB := n5_
                clear n0_ n1_ n2_ n3_ n4_ n5_
                refine hK.out _ _ ⟨(blk_cell BK189.out 0).trans rfl, (blk_cell BK189.out 1).trans rfl, (blk_cell BK189.out 2).trans rfl, (blk_cell BK189.out 3).trans rfl, (blk_cell BK189.out 4).trans rfl, (blk_cell BK189.out 5).trans rfl, (blk_cell BK190.out 0).trans rfl, (blk_cell BK190.out 1).trans rfl, (blk_cell BK192.out 0).trans rfl, (blk_cell BK192.out 1).trans rfl, (blk_cell BK192.out 2).trans rfl, (blk_cell BK192.out 3).trans rfl, (blk_cell BK192.out 4).trans rfl, (blk_cell BK192.out 5).trans rfl, (blk_cell BK192.out 6).trans rfl⟩ (fun hHeld => ?_)
                clear hK K
                refine no_ 85 ?_
                refine pu_ 19 86 HT_ ?_
                refine pu_ 20 87 HT_ ?_
                refine done_ (done_of HT_.out (by kernel_rfl)) ?_
                try go_wp2
                go_meet
                case rel => exact ⟨_, (!t204), (by first | rfl | (simp; done) | (simp [*]; done)), H', ⟨by have := HJ8.out; have := HK2.out; first | omega | exact Nat.le_refl _⟩, ⟨K_ BK189⟩, ⟨K_ BK190⟩, ⟨K_ BK192⟩, ⟨bl_⟩⟩
               clear HC48
               obtain ⟨kq, x87_47, rfl, HA, HJ47, BK189, BK190, BK192, HB⟩ := hcut
               cases kq with
               | zero => exact absurd HA.out (by simp [refute_accepted.j2])
               | succ kj47 => ?_
               have H := HA.out
               clear HA
               simp only [refute_accepted.j2] at H
               by_cases c59 : x87_47 = true
               · subst c59
                 have H1 : (some false) = some r := by rw [if_pos rfl] at H; exact H
                 clear H
                 have H := H1
                 clear H1
                 obtain rfl := Option.some.inj H
                 go_wp2
                 go_ret
                 exact ⟨by first | rfl | (simp [errW_none, errW_some] <;> rfl) | (simp [*, errW_none, errW_some] <;> rfl), by repeat (first | (with_reducible first | exact HB.out | apply below_alloc | apply pw_below_drewN | apply below_drew1 | refine below_set ?_ GE189.out | refine below_set ?_ GE190.out | refine below_set ?_ GE192.out) | exact HB.out)⟩
               replace c59 := Bool.eq_false_iff.mpr c59
               subst c59
               have H1 : (refute_accepted.l0 kj47 a1 l2 a3 t196 ((rd_T54 l2 a3).f2) (((rd_T54 l2 a3).f2).length : Int) (wrap64 (x62_2 + 1)) a0_0 a0_1 a0_2 l0_3 l0_4 l0_5 l4_0 l4_1 ((rd_T54 l2 a3).f0) ((rd_T54 l2 a3).f1) ((rd_T54 l2 a3).f2) ((rd_T54 l2 a3).f3) ((rd_T54 l2 a3).f4) ((rd_T54 l2 a3).f5) ((rd_T54 l2 a3).f6)) = some r := by rw [if_neg (show ¬ (false = true) by decide)] at H; exact H
               clear H
               have H := H1
               clear H1
               have H' := Aside0.mk H
               clear H
               go_wp2
               go_roundg kj47
               case measure => have := HJ8.out; have := HK2.out; have := HJ47.out; omega
               case rel => exact ⟨(wrap64 (x62_2 + 1)), (by first | rfl | (simp; done) | (simp [*]; done)), H', ⟨by have := HJ8.out; have := HK2.out; have := HJ47.out; omega⟩, ⟨K_ BK189⟩, ⟨K_ BK190⟩, ⟨K_ BK192⟩, ⟨bl_⟩⟩
             rw [if_neg c47] at H
             exact absurd H (by simp)
           rw [if_neg c46] at H
           exact absurd H (by simp)
         rw [if_neg c45] at H
         have c45b0 : decide (x62_2 < (((rd_T54 l2 a3).f2).length : Int)) = false := decide_eq_false c45
         clear c45
         obtain rfl := Option.some.inj H
         go_wp2
         go_ret
         exact ⟨by first | rfl | (simp [errW_none, errW_some] <;> rfl) | (simp [*, errW_none, errW_some] <;> rfl), by repeat (first | (with_reducible first | exact HB.out | apply below_alloc | apply pw_below_drewN | apply below_drew1 | refine below_set ?_ GE189.out | refine below_set ?_ GE190.out | refine below_set ?_ GE192.out) | exact HB.out)⟩
       rw [if_neg c36] at H
       have c36b0 : ((((rd_T54 l2 a3).f2).length : Int) == (wrap64 (a1 * t196))) = false := beq_eq_false_iff_ne.mpr c36
       have c36b1 : ((((rd_T54 l2 a3).f2).length : Int) != (wrap64 (a1 * t196))) = true := bne_iff_ne.mpr c36
       obtain rfl := Option.some.inj H
       have hnb60 := NB189_190.out
       have hnc60 := NB190_189.out
       have hnb61 := NB189_192.out
       have hnc61 := NB192_189.out
       obtain ⟨hcz62_0, hcz62_1, hcz62_2, hcz62_3, hcz62_4, hcz62_5⟩ := cells6 BK189
       obtain ⟨hfz62_0, hfz62_1, hfz62_2, hfz62_3, hfz62_4, hfz62_5⟩ := fz6 BK189
       have hnb63 := NB190_192.out
       have hnc63 := NB192_190.out
       obtain ⟨hcz64_0, hcz64_1⟩ := cells2 BK190
       obtain ⟨hfz64_0, hfz64_1⟩ := fz2 BK190
       obtain ⟨hcz65_0, hcz65_1, hcz65_2, hcz65_3, hcz65_4, hcz65_5, hcz65_6⟩ := cells7 BK192
       obtain ⟨hfz65_0, hfz65_1, hfz65_2, hfz65_3, hfz65_4, hfz65_5, hfz65_6⟩ := fz7 BK192
       go_wp2_with (first | ((with_reducible refine gate_callee (f := 36) rfl ?_); refine gL_ 51 Try.func36 #[.agg #[.int .i64 a0_0, .int .i64 a0_1, .bool a0_2, .slice A0_3 l0_3.length c0_3, .slice A0_4 l0_4.length c0_4, .slice A0_5 l0_5.length c0_5], .agg #[.slice A4_0 l4_0.length c4_0, .slice A4_1 l4_1.length c4_1], .int .i64 ((rd_T54 l2 a3).f1)] ?_; (with_reducible refine (refute_choices.calls kj8 a0_0 a0_1 a0_2 _ _ l0_3 _ _ l0_4 _ _ l0_5 _ _ l4_0 _ _ l4_1 ((rd_T54 l2 a3).f1) t196 _ ?side1 ?side2 ?side3 ?side4 ?side5 ?side6 ?side7 ?side8 ?side9 ?side10 A35.out).mono ?_); (case side1 => exact CB_ HR0_3); (case side2 => exact HC0_3.out); (case side3 => exact CB_ HR0_4); (case side4 => exact HC0_4.out); (case side5 => exact CB_ HR0_5); (case side6 => exact HC0_5.out); (case side7 => exact CB_ HR4_0); (case side8 => exact HC4_0.out); (case side9 => exact CB_ HR4_1); (case side10 => exact HC4_1.out); rintro e w66 ⟨rfl, hb⟩; refine ⟨_, rfl, ?_⟩; have n0_ := Aside0.mk (blk_below (K_ BK189) hb); have n1_ := Aside0.mk (blk_below (K_ BK190) hb); have n2_ := Aside0.mk (blk_below (K_ BK192) hb); have n3_ := Aside0.mk (below_step bl_ hb); clear BK189; clear BK190; clear BK192; clear HB; have BK189 := n0_; have BK190 := n1_; have BK192 := n2_; have HB := n3_; clear n0_ n1_ n2_ n3_; (try clear hb); (try clear hb2); (try clear hk); (try clear hi); obtain ⟨hcz67_0, hcz67_1, hcz67_2, hcz67_3, hcz67_4, hcz67_5, hcz67_6⟩ := cells7 BK192; obtain ⟨hfz67_0, hfz67_1, hfz67_2, hfz67_3, hfz67_4, hfz67_5, hfz67_6⟩ := fz7 BK192))
       go_ret
       exact ⟨by first | rfl | (simp [errW_none, errW_some] <;> rfl) | (simp [*, errW_none, errW_some] <;> rfl), by repeat (first | (with_reducible first | exact HB.out | apply below_alloc | apply pw_below_drewN | apply below_drew1 | refine below_set ?_ GE189.out | refine below_set ?_ GE190.out | refine below_set ?_ GE192.out) | exact HB.out)⟩
     rw [if_neg c8] at H
     have c8b0 : (((rd_T54 l2 a3).f0) == 1) = false := beq_eq_false_iff_ne.mpr c8
     have c8b1 : (((rd_T54 l2 a3).f0) != 1) = true := bne_iff_ne.mpr c8
     by_cases c68 : (((rd_T54 l2 a3).f2).length : Int) = 0
     · rw [if_pos c68] at H
       have c68b0 : ((((rd_T54 l2 a3).f2).length : Int) == 0) = true := beq_iff_eq.mpr c68
       have c68b1 : ((((rd_T54 l2 a3).f2).length : Int) != 0) = false := bne_eq_false_iff_eq.mpr c68
       clear c68
       replace H := Option.bind_eq_some_iff.mp H
       obtain ⟨t193, A690, H⟩ := H
       replace H : (some t193) = some r := H
       have A69 := Aside0.mk A690
       clear A690
       obtain rfl := Option.some.inj H
       go_enter Try.func19, Try.ntmps19
       go_wp2_with (first | ((with_reducible refine gate_dst (N := 5) rfl ?_); refine box_event ?hg (N := 5) ?hd (cs := #[.int .i64 a0_0, .int .i64 a0_1, .bool a0_2, .slice A0_3 l0_3.length c0_3, .slice A0_4 l0_4.length c0_4, .slice A0_5 l0_5.length c0_5]) (t := 26) ?hr ?_; (case hd => rfl); (case hg => rfl); (case hr => first | (go_simp; done) | (go_simp; rfl)); intro gb189 hg w70 hbox hb; have n0_ := Aside0.mk (below_step bl_ hb); have n1_ := Aside0.mk (hbox); have n2_ := Aside0.mk (gl_ (w := w) hg); have n3_ := Aside0.mk (gl_ (w := w) hg); clear HB; have HB := n0_; have BK189 := n1_; have GW189 := n2_; have GE189 := n3_; clear n0_ n1_ n2_ n3_; clear hb hbox hg) | ((with_reducible refine gate_dst (N := 9) rfl ?_); refine box_event ?hg (N := 9) ?hd (cs := #[.slice A4_0 l4_0.length c4_0, .slice A4_1 l4_1.length c4_1]) (t := 61) ?hr ?_; (case hd => rfl); (case hg => rfl); (case hr => first | (go_simp; done) | (go_simp; rfl)); intro gb190 hg w71 hbox hb; have n0_ := Aside0.mk (blk_below (K_ BK189) hb); have n1_ := Aside0.mk (below_step bl_ hb); have n2_ := Aside0.mk (hbox); have n3_ := Aside0.mk (gl_ (w := w) hg); have n4_ := Aside0.mk (gl_ (w := w) hg); have n5_ := Aside0.mk (nl_ hg (K_ BK189)); have n6_ := Aside0.mk (ng_ hg (K_ BK189)); clear BK189; clear HB; have BK189 := n0_; have HB := n1_; have BK190 := n2_; have GW190 := n3_; have GE190 := n4_; have NB189_190 := n5_; have NB190_189 := n6_; clear n0_ n1_ n2_ n3_ n4_ n5_ n6_; clear hb hbox hg; have p191 : 0 ≤ (a3 : Int) := of_decide_eq_true (by first | (with_reducible assumption) | assumption); have q191 : a3 < (l2.length : Int) := of_decide_eq_true (by first | (with_reducible assumption) | assumption); obtain ⟨ad191, A191_2, c191_2, A191_3, c191_3, e191, hx191_0, hx191_1, hx191_2, hx191_3, hx191_4, hx191_5, hx191_6, hl191_2, hi191_2, hl191_3, hi191_3⟩ := at_T54 HR2.out a3 p191 q191; cases e191; replace hx191_0 := hc_ HB hx191_0; replace hx191_1 := hc_ HB hx191_1; replace hx191_2 := hc_ HB hx191_2; replace hx191_3 := hc_ HB hx191_3; replace hx191_4 := hc_ HB hx191_4; replace hx191_5 := hc_ HB hx191_5; replace hx191_6 := hc_ HB hx191_6; have HR191_2 := Aside0.mk hi191_2; have HC191_2 := Aside0.mk hl191_2; clear hi191_2 hl191_2; have HR191_3 := Aside0.mk hi191_3; have HC191_3 := Aside0.mk hl191_3; clear hi191_3 hl191_3; replace p191 := eq_true p191; replace q191 := eq_true q191) | ((with_reducible refine gate_dst (N := 11) rfl ?_); refine box_event ?hg (N := 11) ?hd (cs := #[.int .i64 0, .int .i64 0, .slice none 0 0, .slice none 0 0, .int .i64 0, .int .i64 0, .int .i64 0]) (t := 54) ?hr ?_; (case hd => rfl); (case hg => rfl); (case hr => first | (go_simp; done) | (go_simp; rfl)); intro gb192 hg w72 hbox hb; have n0_ := Aside0.mk (blk_below (K_ BK189) hb); have n1_ := Aside0.mk (blk_below (K_ BK190) hb); have n2_ := Aside0.mk (below_step bl_ hb); have n3_ := Aside0.mk (hbox); have n4_ := Aside0.mk (gl_ (w := w) hg); have n5_ := Aside0.mk (gl_ (w := w) hg); have n6_ := Aside0.mk (nl_ hg (K_ BK189)); have n7_ := Aside0.mk (ng_ hg (K_ BK189)); have n8_ := Aside0.mk (nl_ hg (K_ BK190)); have n9_ := Aside0.mk (ng_ hg (K_ BK190)); clear BK189; clear BK190; clear HB; have BK189 := n0_; have BK190 := n1_; have HB := n2_; have BK192 := n3_; have GW192 := n4_; have GE192 := n5_; have NB189_192 := n6_; have NB192_189 := n7_; have NB190_192 := n8_; have NB192_190 := n9_; clear n0_ n1_ n2_ n3_ n4_ n5_ n6_ n7_ n8_ n9_; clear hb hbox hg; have hnb73 := NB192_189.out; have hnc73 := NB189_192.out; have hnb74 := NB192_190.out; have hnc74 := NB190_192.out; obtain ⟨hcz75_0, hcz75_1, hcz75_2, hcz75_3, hcz75_4, hcz75_5, hcz75_6⟩ := cells7 BK192; obtain ⟨hfz75_0, hfz75_1, hfz75_2, hfz75_3, hfz75_4, hfz75_5, hfz75_6⟩ := fz7 BK192; have hnb76 := NB189_190.out; have hnc76 := NB190_189.out; obtain ⟨hcz77_0, hcz77_1, hcz77_2, hcz77_3, hcz77_4, hcz77_5⟩ := cells6 BK189; obtain ⟨hfz77_0, hfz77_1, hfz77_2, hfz77_3, hfz77_4, hfz77_5⟩ := fz6 BK189; obtain ⟨hcz78_0, hcz78_1⟩ := cells2 BK190; obtain ⟨hfz78_0, hfz78_1⟩ := fz2 BK190) | (go_at_call 34; (with_reducible refine (refute_contradicts.calls k a0_0 a0_1 a0_2 _ _ l0_3 _ _ l0_4 _ _ l0_5 a1 _ _ l4_0 _ _ l4_1 ((rd_T54 l2 a3).f0) ((rd_T54 l2 a3).f1) _ _ ((rd_T54 l2 a3).f2) _ _ ((rd_T54 l2 a3).f3) ((rd_T54 l2 a3).f4) ((rd_T54 l2 a3).f5) ((rd_T54 l2 a3).f6) t193 _ ?side1 ?side2 ?side3 ?side4 ?side5 ?side6 ?side7 ?side8 ?side9 ?side10 ?side11 ?side12 ?side13 ?side14 A69.out).mono ?_); (case side1 => exact Kd.C_below HR0_3.out bl_); (case side2 => exact HC0_3.out); (case side3 => exact Kd.C_below HR0_4.out bl_); (case side4 => exact HC0_4.out); (case side5 => exact Kd.C_below HR0_5.out bl_); (case side6 => exact HC0_5.out); (case side7 => exact Kd.C_below HR4_0.out bl_); (case side8 => exact HC4_0.out); (case side9 => exact Kd.C_below HR4_1.out bl_); (case side10 => exact HC4_1.out); (case side11 => exact Kd.C_below HR191_2.out bl_); (case side12 => exact HC191_2.out); (case side13 => exact Kd.C_below HR191_3.out bl_); (case side14 => exact HC191_3.out); rintro e w79 ⟨rfl, hb⟩; have n0_ := Aside0.mk (blk_below (g := gb189) (o := .cells #[.int .i64 a0_0, .int .i64 a0_1, .bool a0_2, .slice A0_3 l0_3.length c0_3, .slice A0_4 l0_4.length c0_4, .slice A0_5 l0_5.length c0_5] 26 (0, 0)) (by (with_reducible repeat (first | refine blk_drewN ?_ _ | refine blk_drew ?_ | refine blk_alloc ?_ _)); refine blk_far ?_ NB189_192.out _; (with_reducible repeat (first | refine blk_drewN ?_ _ | refine blk_drew ?_ | refine blk_alloc ?_ _)); refine blk_far ?_ NB189_192.out _; (with_reducible repeat (first | refine blk_drewN ?_ _ | refine blk_drew ?_ | refine blk_alloc ?_ _)); refine blk_far ?_ NB189_192.out _; (with_reducible repeat (first | refine blk_drewN ?_ _ | refine blk_drew ?_ | refine blk_alloc ?_ _)); refine blk_far ?_ NB189_192.out _; (with_reducible repeat (first | refine blk_drewN ?_ _ | refine blk_drew ?_ | refine blk_alloc ?_ _)); refine blk_far ?_ NB189_192.out _; (with_reducible repeat (first | refine blk_drewN ?_ _ | refine blk_drew ?_ | refine blk_alloc ?_ _)); refine blk_far ?_ NB189_192.out _; (with_reducible repeat (first | refine blk_drewN ?_ _ | refine blk_drew ?_ | refine blk_alloc ?_ _)); refine blk_far ?_ NB189_192.out _; (with_reducible repeat (first | refine blk_drewN ?_ _ | refine blk_drew ?_ | refine blk_alloc ?_ _)); exact BK189.out) hb); have n1_ := Aside0.mk (blk_below (g := gb190) (o := .cells #[.slice A4_0 l4_0.length c4_0, .slice A4_1 l4_1.length c4_1] 61 (0, 0)) (by (with_reducible repeat (first | refine blk_drewN ?_ _ | refine blk_drew ?_ | refine blk_alloc ?_ _)); refine blk_far ?_ NB190_192.out _; (with_reducible repeat (first | refine blk_drewN ?_ _ | refine blk_drew ?_ | refine blk_alloc ?_ _)); refine blk_far ?_ NB190_192.out _; (with_reducible repeat (first | refine blk_drewN ?_ _ | refine blk_drew ?_ | refine blk_alloc ?_ _)); refine blk_far ?_ NB190_192.out _; (with_reducible repeat (first | refine blk_drewN ?_ _ | refine blk_drew ?_ | refine blk_alloc ?_ _)); refine blk_far ?_ NB190_192.out _; (with_reducible repeat (first | refine blk_drewN ?_ _ | refine blk_drew ?_ | refine blk_alloc ?_ _)); refine blk_far ?_ NB190_192.out _; (with_reducible repeat (first | refine blk_drewN ?_ _ | refine blk_drew ?_ | refine blk_alloc ?_ _)); refine blk_far ?_ NB190_192.out _; (with_reducible repeat (first | refine blk_drewN ?_ _ | refine blk_drew ?_ | refine blk_alloc ?_ _)); refine blk_far ?_ NB190_192.out _; (with_reducible repeat (first | refine blk_drewN ?_ _ | refine blk_drew ?_ | refine blk_alloc ?_ _)); exact BK190.out) hb); have n2_ := Aside0.mk (blk_below (g := gb192) (o := .cells #[.int .i64 ((rd_T54 l2 a3).f0), .int .i64 ((rd_T54 l2 a3).f1), .slice A191_2 ((rd_T54 l2 a3).f2).length c191_2, .slice A191_3 ((rd_T54 l2 a3).f3).length c191_3, .int .i64 ((rd_T54 l2 a3).f4), .int .i64 ((rd_T54 l2 a3).f5), .int .i64 ((rd_T54 l2 a3).f6)] 54 (0, 0)) (by (with_reducible repeat (first | refine blk_drewN ?_ _ | refine blk_drew ?_ | refine blk_alloc ?_ _)); refine blk_put (cs := #[.int .i64 ((rd_T54 l2 a3).f0), .int .i64 ((rd_T54 l2 a3).f1), .slice A191_2 ((rd_T54 l2 a3).f2).length c191_2, .slice A191_3 ((rd_T54 l2 a3).f3).length c191_3, .int .i64 ((rd_T54 l2 a3).f4), .int .i64 ((rd_T54 l2 a3).f5), .int .i64 0]) ?_ 6 _ rfl; (with_reducible repeat (first | refine blk_drewN ?_ _ | refine blk_drew ?_ | refine blk_alloc ?_ _)); refine blk_put (cs := #[.int .i64 ((rd_T54 l2 a3).f0), .int .i64 ((rd_T54 l2 a3).f1), .slice A191_2 ((rd_T54 l2 a3).f2).length c191_2, .slice A191_3 ((rd_T54 l2 a3).f3).length c191_3, .int .i64 ((rd_T54 l2 a3).f4), .int .i64 0, .int .i64 0]) ?_ 5 _ rfl; (with_reducible repeat (first | refine blk_drewN ?_ _ | refine blk_drew ?_ | refine blk_alloc ?_ _)); refine blk_put (cs := #[.int .i64 ((rd_T54 l2 a3).f0), .int .i64 ((rd_T54 l2 a3).f1), .slice A191_2 ((rd_T54 l2 a3).f2).length c191_2, .slice A191_3 ((rd_T54 l2 a3).f3).length c191_3, .int .i64 0, .int .i64 0, .int .i64 0]) ?_ 4 _ rfl; (with_reducible repeat (first | refine blk_drewN ?_ _ | refine blk_drew ?_ | refine blk_alloc ?_ _)); refine blk_put (cs := #[.int .i64 ((rd_T54 l2 a3).f0), .int .i64 ((rd_T54 l2 a3).f1), .slice A191_2 ((rd_T54 l2 a3).f2).length c191_2, .slice none 0 0, .int .i64 0, .int .i64 0, .int .i64 0]) ?_ 3 _ rfl; (with_reducible repeat (first | refine blk_drewN ?_ _ | refine blk_drew ?_ | refine blk_alloc ?_ _)); refine blk_put (cs := #[.int .i64 ((rd_T54 l2 a3).f0), .int .i64 ((rd_T54 l2 a3).f1), .slice none 0 0, .slice none 0 0, .int .i64 0, .int .i64 0, .int .i64 0]) ?_ 2 _ rfl; (with_reducible repeat (first | refine blk_drewN ?_ _ | refine blk_drew ?_ | refine blk_alloc ?_ _)); refine blk_put (cs := #[.int .i64 ((rd_T54 l2 a3).f0), .int .i64 0, .slice none 0 0, .slice none 0 0, .int .i64 0, .int .i64 0, .int .i64 0]) ?_ 1 _ rfl; (with_reducible repeat (first | refine blk_drewN ?_ _ | refine blk_drew ?_ | refine blk_alloc ?_ _)); refine blk_put (cs := #[.int .i64 0, .int .i64 0, .slice none 0 0, .slice none 0 0, .int .i64 0, .int .i64 0, .int .i64 0]) ?_ 0 _ rfl; (with_reducible repeat (first | refine blk_drewN ?_ _ | refine blk_drew ?_ | refine blk_alloc ?_ _)); exact BK192.out) hb); have n3_ := Aside0.mk (below_step bl_ hb); clear BK189; clear BK190; clear BK192; clear HB; have BK189 := n0_; have BK190 := n1_; have BK192 := n2_; have HB := n3_; clear n0_ n1_ n2_ n3_; (try clear hb); (try clear hb2); (try clear hk); (try clear hi)))
       go_ret
       exact ⟨by first | rfl | (simp [errW_none, errW_some] <;> rfl) | (simp [*, errW_none, errW_some] <;> rfl), by repeat (first | (with_reducible first | exact HB.out | apply below_alloc | apply pw_below_drewN | apply below_drew1 | refine below_set ?_ GE189.out | refine below_set ?_ GE190.out | refine below_set ?_ GE192.out) | exact HB.out)⟩
     rw [if_neg c68] at H
     have c68b0 : ((((rd_T54 l2 a3).f2).length : Int) == 0) = false := beq_eq_false_iff_ne.mpr c68
     have c68b1 : ((((rd_T54 l2 a3).f2).length : Int) != 0) = true := bne_iff_ne.mpr c68
     have c68b2 : ¬ (((rd_T54 l2 a3).f2) = []) := fun h_ => c68 (by rw [h_]; rfl)
     obtain rfl := Option.some.inj H
     go_enter Try.func19, Try.ntmps19
     go_wp2_with (first | ((with_reducible refine gate_dst (N := 5) rfl ?_); refine box_event ?hg (N := 5) ?hd (cs := #[.int .i64 a0_0, .int .i64 a0_1, .bool a0_2, .slice A0_3 l0_3.length c0_3, .slice A0_4 l0_4.length c0_4, .slice A0_5 l0_5.length c0_5]) (t := 26) ?hr ?_; (case hd => rfl); (case hg => rfl); (case hr => first | (go_simp; done) | (go_simp; rfl)); intro gb189 hg w80 hbox hb; have n0_ := Aside0.mk (below_step bl_ hb); have n1_ := Aside0.mk (hbox); have n2_ := Aside0.mk (gl_ (w := w) hg); have n3_ := Aside0.mk (gl_ (w := w) hg); clear HB; have HB := n0_; have BK189 := n1_; have GW189 := n2_; have GE189 := n3_; clear n0_ n1_ n2_ n3_; clear hb hbox hg) | ((with_reducible refine gate_dst (N := 9) rfl ?_); refine box_event ?hg (N := 9) ?hd (cs := #[.slice A4_0 l4_0.length c4_0, .slice A4_1 l4_1.length c4_1]) (t := 61) ?hr ?_; (case hd => rfl); (case hg => rfl); (case hr => first | (go_simp; done) | (go_simp; rfl)); intro gb190 hg w81 hbox hb; have n0_ := Aside0.mk (blk_below (K_ BK189) hb); have n1_ := Aside0.mk (below_step bl_ hb); have n2_ := Aside0.mk (hbox); have n3_ := Aside0.mk (gl_ (w := w) hg); have n4_ := Aside0.mk (gl_ (w := w) hg); have n5_ := Aside0.mk (nl_ hg (K_ BK189)); have n6_ := Aside0.mk (ng_ hg (K_ BK189)); clear BK189; clear HB; have BK189 := n0_; have HB := n1_; have BK190 := n2_; have GW190 := n3_; have GE190 := n4_; have NB189_190 := n5_; have NB190_189 := n6_; clear n0_ n1_ n2_ n3_ n4_ n5_ n6_; clear hb hbox hg; have p191 : 0 ≤ (a3 : Int) := of_decide_eq_true (by first | (with_reducible assumption) | assumption); have q191 : a3 < (l2.length : Int) := of_decide_eq_true (by first | (with_reducible assumption) | assumption); obtain ⟨ad191, A191_2, c191_2, A191_3, c191_3, e191, hx191_0, hx191_1, hx191_2, hx191_3, hx191_4, hx191_5, hx191_6, hl191_2, hi191_2, hl191_3, hi191_3⟩ := at_T54 HR2.out a3 p191 q191; cases e191; replace hx191_0 := hc_ HB hx191_0; replace hx191_1 := hc_ HB hx191_1; replace hx191_2 := hc_ HB hx191_2; replace hx191_3 := hc_ HB hx191_3; replace hx191_4 := hc_ HB hx191_4; replace hx191_5 := hc_ HB hx191_5; replace hx191_6 := hc_ HB hx191_6; have HR191_2 := Aside0.mk hi191_2; have HC191_2 := Aside0.mk hl191_2; clear hi191_2 hl191_2; have HR191_3 := Aside0.mk hi191_3; have HC191_3 := Aside0.mk hl191_3; clear hi191_3 hl191_3; replace p191 := eq_true p191; replace q191 := eq_true q191) | ((with_reducible refine gate_dst (N := 11) rfl ?_); refine box_event ?hg (N := 11) ?hd (cs := #[.int .i64 0, .int .i64 0, .slice none 0 0, .slice none 0 0, .int .i64 0, .int .i64 0, .int .i64 0]) (t := 54) ?hr ?_; (case hd => rfl); (case hg => rfl); (case hr => first | (go_simp; done) | (go_simp; rfl)); intro gb192 hg w82 hbox hb; have n0_ := Aside0.mk (blk_below (K_ BK189) hb); have n1_ := Aside0.mk (blk_below (K_ BK190) hb); have n2_ := Aside0.mk (below_step bl_ hb); have n3_ := Aside0.mk (hbox); have n4_ := Aside0.mk (gl_ (w := w) hg); have n5_ := Aside0.mk (gl_ (w := w) hg); have n6_ := Aside0.mk (nl_ hg (K_ BK189)); have n7_ := Aside0.mk (ng_ hg (K_ BK189)); have n8_ := Aside0.mk (nl_ hg (K_ BK190)); have n9_ := Aside0.mk (ng_ hg (K_ BK190)); clear BK189; clear BK190; clear HB; have BK189 := n0_; have BK190 := n1_; have HB := n2_; have BK192 := n3_; have GW192 := n4_; have GE192 := n5_; have NB189_192 := n6_; have NB192_189 := n7_; have NB190_192 := n8_; have NB192_190 := n9_; clear n0_ n1_ n2_ n3_ n4_ n5_ n6_ n7_ n8_ n9_; clear hb hbox hg; have hnb83 := NB192_189.out; have hnc83 := NB189_192.out; have hnb84 := NB192_190.out; have hnc84 := NB190_192.out; obtain ⟨hcz85_0, hcz85_1, hcz85_2, hcz85_3, hcz85_4, hcz85_5, hcz85_6⟩ := cells7 BK192; obtain ⟨hfz85_0, hfz85_1, hfz85_2, hfz85_3, hfz85_4, hfz85_5, hfz85_6⟩ := fz7 BK192))
     go_ret
     exact ⟨by first | rfl | (simp [errW_none, errW_some] <;> rfl) | (simp [*, errW_none, errW_some] <;> rfl), by repeat (first | (with_reducible first | exact HB.out | apply below_alloc | apply pw_below_drewN | apply below_drew1 | refine below_set ?_ GE189.out | refine below_set ?_ GE190.out | refine below_set ?_ GE192.out) | exact HB.out)⟩
   rw [if_neg c7] at H
   exact absurd H (by simp)
 rw [if_neg c6] at H
 exact absurd H (by simp)
end Go.Proofs.Ytpmlbbglekaidaa.PAll
