-- Written for this claim by programs of this session (wip/print2 in its repo: a changed printer, a shortener, a packer). Lean checks it.
import Derived.Test.YtpmlbbglekaidaaP0
import Derived.Test.YtpmlbbglekaidaaF43
namespace Go.Proofs.Ytpmlbbglekaidaa.PAll
open Go.RowKit Go.Proofs.YtpmlbbglekaidaaW.PrintWords Go.Proofs.YtpmlbbglekaidaaW.PrintLast Go.Proofs.YtpmlbbglekaidaaW.PrintMore
attribute [local go_sem] max2_int min2_int max_two min_two max_three min_three max_four min_four   -- for this text's walks alone
set_option linter.unusedVariables false
set_option linter.unusedSimpArgs false

/-! ### dataflow_framed: function 46 -/
mutual
def dataflow_framed.l0 : Nat → Int → Int → Int → Int → Int → Bool → List (S48) → List (S50) → List (S52) → Option (Bool)
  | 0, _, _, _, _, _, _, _, _, _ => none
  | k + 1, x3, x18, x19, x104000, x104001, x104002, x104003, x104004, x104005 => if x19 < x18 then (if x19 = x3 then ((dataflow_End.f x104000 x104001 x104002 x104003 x104004 x104005).bind fun t105 => (dataflow_framed.j1 k x3 x19 t105 x18 x19 x104000 x104001 x104002 x104003 x104004 x104005)) else (dataflow_framed.j1 k x3 x19 x19 x18 x19 x104000 x104001 x104002 x104003 x104004 x104005)) else (dataflow_framed.l1 k x3 x3 0 x104000 x104001 x104002 x104003 x104004 x104005)
def dataflow_framed.j1 : Nat → Int → Int → Int → Int → Int → Int → Int → Bool → List (S48) → List (S50) → List (S52) → Option (Bool)
  | 0, _, _, _, _, _, _, _, _, _, _, _ => none
  | k + 1, x3, x4, x5, x18, x19, x104000, x104001, x104002, x104003, x104004, x104005 => if 0 ≤ x4 then (if x4 < (x104003.length : Int) then (if (!(((rd_T48 x104003 x4).f0) == x3) || (!(((rd_T48 x104003 x4).f1) == x5) || (!(((rd_T48 x104003 x4).f2) == 0) || (!(((rd_T48 x104003 x4).f3) == 0))))) = true then (some false) else (dataflow_framed.l0 k x3 x18 (wrap64 (x19 + 1)) x104000 x104001 x104002 x104003 x104004 x104005)) else (none)) else (none)
def dataflow_framed.l1 : Nat → Int → Int → Int → Int → Int → Bool → List (S48) → List (S50) → List (S52) → Option (Bool)
  | 0, _, _, _, _, _, _, _, _, _ => none
  | k + 1, x3, x38, x39, x104000, x104001, x104002, x104003, x104004, x104005 => if x39 < x38 then (if 0 ≤ (wrap64 ((wrap64 (x3 + 1)) + x39)) then (if (wrap64 ((wrap64 (x3 + 1)) + x39)) < (x104003.length : Int) then (if ((rd_T48 x104003 (wrap64 ((wrap64 (x3 + 1)) + x39))).f0) = x39 then ((dataflow_End.f x104000 x104001 x104002 x104003 x104004 x104005).bind fun t109 => (if ((rd_T48 x104003 (wrap64 ((wrap64 (x3 + 1)) + x39))).f1) = t109 then (if ((rd_T48 x104003 (wrap64 ((wrap64 (x3 + 1)) + x39))).f3) = 0 then (if x39 < x104000 then (if 0 ≤ x39 then (if x39 < (x104005.length : Int) then (dataflow_framed.j3 k x3 x38 x39 (decide (((rd_T48 x104003 (wrap64 ((wrap64 (x3 + 1)) + x39))).f2) < (mx 1 ((rd_T52 x104005 x39).f1)))) x104000 x104001 x104002 x104003 x104004 x104005) else (none)) else (none)) else (dataflow_framed.j3 k x3 x38 x39 false x104000 x104001 x104002 x104003 x104004 x104005)) else (dataflow_framed.j3 k x3 x38 x39 true x104000 x104001 x104002 x104003 x104004 x104005)) else (dataflow_framed.j3 k x3 x38 x39 true x104000 x104001 x104002 x104003 x104004 x104005))) else (dataflow_framed.j3 k x3 x38 x39 true x104000 x104001 x104002 x104003 x104004 x104005)) else (none)) else (none)) else (some true)
def dataflow_framed.j3 : Nat → Int → Int → Int → Bool → Int → Int → Bool → List (S48) → List (S50) → List (S52) → Option (Bool)
  | 0, _, _, _, _, _, _, _, _, _, _ => none
  | k + 1, x3, x38, x39, x83, x104000, x104001, x104002, x104003, x104004, x104005 => if x83 = true then (some false) else (dataflow_framed.l1 k x3 x38 (wrap64 (x39 + 1)) x104000 x104001 x104002 x104003 x104004 x104005)
end
def dataflow_framed.f (k : Nat) (a0_0 : Int) (a0_1 : Int) (a0_2 : Bool) (l0_3 : List (S48)) (l0_4 : List (S50)) (l0_5 : List (S52)) : Option (Bool) := (dataflow_Source.f a0_0 a0_1 a0_2 l0_3 l0_4 l0_5).bind fun t104 => (if (l0_3.length : Int) < (wrap64 ((wrap64 (2 * t104)) + 1)) then (some false) else (dataflow_framed.l0 k t104 (wrap64 (t104 + 1)) 0 a0_0 a0_1 a0_2 l0_3 l0_4 l0_5))
theorem dataflow_framed.mono_l : ∀ k, (∀ y0 y1 y2 y3 y4 y5 y6 y7 y8, LeO (dataflow_framed.l0 k y0 y1 y2 y3 y4 y5 y6 y7 y8) (dataflow_framed.l0 (k + 1) y0 y1 y2 y3 y4 y5 y6 y7 y8)) ∧ (∀ y0 y1 y2 y3 y4 y5 y6 y7 y8 y9 y10, LeO (dataflow_framed.j1 k y0 y1 y2 y3 y4 y5 y6 y7 y8 y9 y10) (dataflow_framed.j1 (k + 1) y0 y1 y2 y3 y4 y5 y6 y7 y8 y9 y10)) ∧ (∀ y0 y1 y2 y3 y4 y5 y6 y7 y8, LeO (dataflow_framed.l1 k y0 y1 y2 y3 y4 y5 y6 y7 y8) (dataflow_framed.l1 (k + 1) y0 y1 y2 y3 y4 y5 y6 y7 y8)) ∧ (∀ y0 y1 y2 y3 y4 y5 y6 y7 y8 y9, LeO (dataflow_framed.j3 k y0 y1 y2 y3 y4 y5 y6 y7 y8 y9) (dataflow_framed.j3 (k + 1) y0 y1 y2 y3 y4 y5 y6 y7 y8 y9))
  | 0 => by refine ⟨?_, ?_, ?_, ?_⟩ <;> intros <;> intro r h <;> simp [dataflow_framed.l0, dataflow_framed.j1, dataflow_framed.l1, dataflow_framed.j3] at h
  | k + 1 => by
    obtain ⟨ih0, ih1, ih2, ih3⟩ := dataflow_framed.mono_l k
    refine ⟨?_, ?_, ?_, ?_⟩ <;> intros <;> (first | unfold dataflow_framed.l0 | unfold dataflow_framed.j1 | unfold dataflow_framed.l1 | unfold dataflow_framed.j3) <;> repeat' first | (with_reducible first | apply ih0 | apply ih1 | apply ih2 | apply ih3 | exact LeO.refl _ | exact LeO.none _ | refine LeO.ite ?_ ?_ | refine LeO.bind ?_ (fun _ => ?_)) | apply ih0 | apply ih1 | apply ih2 | apply ih3 | exact LeO.none _ | refine LeO.ite ?_ ?_ | refine LeO.bind ?_ (fun _ => ?_)
theorem dataflow_framed.mono : ∀ a0 a1 a2 a3 a4 a5 k, LeO (dataflow_framed.f k a0 a1 a2 a3 a4 a5) (dataflow_framed.f (k + 1) a0 a1 a2 a3 a4 a5) := by
 intro a0 a1 a2 a3 a4 a5 k
 obtain ⟨ih0, ih1, ih2, ih3⟩ := dataflow_framed.mono_l k
 unfold dataflow_framed.f
 repeat' first | (with_reducible first | apply ih0 | apply ih1 | apply ih2 | apply ih3 | exact LeO.refl _ | exact LeO.none _ | refine LeO.ite ?_ ?_ | refine LeO.bind ?_ (fun _ => ?_)) | apply ih0 | apply ih1 | apply ih2 | apply ih3 | exact LeO.none _ | refine LeO.ite ?_ ?_ | refine LeO.bind ?_ (fun _ => ?_)
def dataflow_framed.T17 : Bool × List (List Nat × List Nat) := (true, [([], []), ([0], [0]), ([], []), ([1, 2], [1, 2]), ([3], [3]), ([4], [4]), ([5, 4], [4, 5]), ([4], [4]), ([7, 4, 4], [4, 7]), ([6, 8, 4], [4, 6, 8]), ([4, 9], [4, 9]), ([10, 8], [10]), ([11], [11]), ([12, 11], [11, 12]), ([13, 11], [11, 13]), ([11, 14], [11, 14]), ([15, 11], [15]), ([16], [16]), ([16], [16]), ([18, 16], [16, 18]), ([17, 19, 16], [16, 17, 19]), ([20, 16, 16], [16, 20]), ([21], [21]), ([22, 21], [21, 22]), ([21], [21]), ([24, 21], [21, 24]), ([21], [21]), ([25, 26, 21], [21, 25, 26]), ([27, 21], [21, 27]), ([28, 21], [21, 28]), ([29, 21], [21, 29]), ([23, 30, 21], [21, 23, 30]), ([21, 31, 16], [16, 21, 31]), ([16, 32], [16, 32])])
def dataflow_framed.B17 : List Nat := [0, 1, 0, 7, 15, 31, 63, 31, 159, 511, 1023, 2047, 4095, 8191, 16383, 32767, 65535, 131071, 131071, 393215, 1048575, 2097151, 4194303, 8388607, 4194303, 20971519, 4194303, 121634815, 255852543, 524287999, 1061158911, 2147483647, 4294967295, 8589934591]
theorem dataflow_framed.tab17 : rtab .any (opsOf Try.f46 17) = dataflow_framed.T17 := by kernel_rfl
theorem dataflow_framed.bits17 : waitsOk dataflow_framed.T17.2 dataflow_framed.B17 = true := by kernel_rfl
theorem dataflow_framed.neq (w : World) (a b c d a' b' c' d' : Int) : (Go.binOp .neq 48 (.agg #[.int .i64 a, .int .i64 b, .int .i64 c, .int .i64 d]) (.agg #[.int .i64 a', .int .i64 b', .int .i64 c', .int .i64 d'])).run Try.prog w = .ok (.bool (!(a == a') || (!(b == b') || (!(c == c') || !(d == d'))))) w := by
  have hu48 := Try.underlying48
  rcases Classical.propComplete (a = a') with e0 | e0 <;> rcases Classical.propComplete (b = b') with e1 | e1 <;> rcases Classical.propComplete (c = c') with e2 | e2 <;> rcases Classical.propComplete (d = d') with e3 | e3 <;> first | (go_simp; done) | (go_simp; simp [e0, e1, e2, e3]; done) | (go_simp; simp_all; done)
set_option maxHeartbeats 8000000 in
set_option maxRecDepth 100000 in
theorem dataflow_framed.calls (k : Nat) (a0_0 : Int) (a0_1 : Int) (a0_2 : Bool) (A0_3 : Option Addr) (c0_3 : Nat) (l0_3 : List (S48)) (A0_4 : Option Addr) (c0_4 : Nat) (l0_4 : List (S50)) (A0_5 : Option Addr) (c0_5 : Nat) (l0_5 : List (S52)) (r : Bool) (w : World) (hr0_3 : Kd.C k48 w A0_3 l0_3.length l0_3) (hc0_3 : l0_3.length ≤ c0_3) (hr0_4 : Kd.C k50 w A0_4 l0_4.length l0_4) (hc0_4 : l0_4.length ≤ c0_4) (hr0_5 : Kd.C k52 w A0_5 l0_5.length l0_5) (hc0_5 : l0_5.length ≤ c0_5) (h : dataflow_framed.f k a0_0 a0_1 a0_2 l0_3 l0_4 l0_5 = some r) :
    Calls Try.prog 46 #[.agg #[.int .i64 a0_0, .int .i64 a0_1, .bool a0_2, .slice A0_3 l0_3.length c0_3, .slice A0_4 l0_4.length c0_4, .slice A0_5 l0_5.length c0_5]] w fun e w' => e = .returned (.bool r) ∧ Below w.heap.size w w' := by
 have hu26 := Try.underlying26
 have neq_ := dataflow_framed.neq
 have hu48 := Try.underlying48
 have HR0_3 := Aside0.mk hr0_3
 have HC0_3 := Aside0.mk hc0_3
 clear hr0_3 hc0_3
 have HR0_4 := Aside0.mk hr0_4
 have HC0_4 := Aside0.mk hc0_4
 clear hr0_4 hc0_4
 have HR0_5 := Aside0.mk hr0_5
 have HC0_5 := Aside0.mk hc0_5
 clear hr0_5 hc0_5
 have HB := Aside0.mk (Below.refl w.heap.size w)
 have H : ((dataflow_Source.f a0_0 a0_1 a0_2 l0_3 l0_4 l0_5).bind fun t104 => (if (l0_3.length : Int) < (wrap64 ((wrap64 (2 * t104)) + 1)) then (some false) else (dataflow_framed.l0 k t104 (wrap64 (t104 + 1)) 0 a0_0 a0_1 a0_2 l0_3 l0_4 l0_5))) = some r := h
 clear h
 replace H := Option.bind_eq_some_iff.mp H
 obtain ⟨t104, A20, H⟩ := H
 replace H : (if (l0_3.length : Int) < (wrap64 ((wrap64 (2 * t104)) + 1)) then (some false) else (dataflow_framed.l0 k t104 (wrap64 (t104 + 1)) 0 a0_0 a0_1 a0_2 l0_3 l0_4 l0_5)) = some r := H
 have A2 := Aside0.mk A20
 clear A20
 by_cases c3 : (l0_3.length : Int) < (wrap64 ((wrap64 (2 * t104)) + 1))
 · rw [if_pos c3] at H
   have c3b0 : decide ((l0_3.length : Int) < (wrap64 ((wrap64 (2 * t104)) + 1))) = true := decide_eq_true c3
   clear c3
   obtain rfl := Option.some.inj H
   go_enter Try.func46, Try.ntmps46
   go_wp2_with (first | ((with_reducible refine gate_dst (N := 1) rfl ?_); (try (refine gate_guard (by rfl) ?_; dsimp only)); refine box_event ?hg (N := 1) ?hd (cs := #[.int .i64 a0_0, .int .i64 a0_1, .bool a0_2, .slice A0_3 l0_3.length c0_3, .slice A0_4 l0_4.length c0_4, .slice A0_5 l0_5.length c0_5]) (t := 26) ?hr ?_; (case hd => rfl); (case hg => rfl); (case hr => first | (go_simp; done) | (go_simp; rfl)); intro gb103 hg w4 hbox hb; have n0_ := Aside0.mk (below_step bl_ hb); have n1_ := Aside0.mk (hbox); have n2_ := Aside0.mk (gl_ (w := w) hg); have n3_ := Aside0.mk (gl_ (w := w) hg); clear HB; have HB := n0_; have BK103 := n1_; have GW103 := n2_; have GE103 := n3_; clear n0_ n1_ n2_ n3_; clear hb hbox hg; obtain ⟨hcz5_0, hcz5_1, hcz5_2, hcz5_3, hcz5_4, hcz5_5⟩ := cells6 BK103; obtain ⟨hfz5_0, hfz5_1, hfz5_2, hfz5_3, hfz5_4, hfz5_5⟩ := fz6 BK103) | ((with_reducible refine gate_callee (f := 44) rfl ?_); refine gL_ 9 Try.func44 #[.agg #[.int .i64 a0_0, .int .i64 a0_1, .bool a0_2, .slice A0_3 l0_3.length c0_3, .slice A0_4 l0_4.length c0_4, .slice A0_5 l0_5.length c0_5]] ?_; (with_reducible refine (dataflow_Source.calls a0_0 a0_1 a0_2 _ _ l0_3 _ _ l0_4 _ _ l0_5 t104 _ ?side1 ?side2 ?side3 ?side4 ?side5 ?side6 A2.out).mono ?_); (case side1 => exact CB_ HR0_3); (case side2 => exact HC0_3.out); (case side3 => exact CB_ HR0_4); (case side4 => exact HC0_4.out); (case side5 => exact CB_ HR0_5); (case side6 => exact HC0_5.out); rintro e w6 ⟨rfl, hb⟩; refine ⟨_, rfl, ?_⟩; have n0_ := Aside0.mk (blk_below (K_ BK103) hb); have n1_ := Aside0.mk (below_step bl_ hb); clear BK103; clear HB; have BK103 := n0_; have HB := n1_; clear n0_ n1_; (try clear hb); (try clear hb2); (try clear hk); (try clear hi); obtain ⟨hcz7_0, hcz7_1, hcz7_2, hcz7_3, hcz7_4, hcz7_5⟩ := cells6 BK103; obtain ⟨hfz7_0, hfz7_1, hfz7_2, hfz7_3, hfz7_4, hfz7_5⟩ := fz6 BK103))
   go_ret
   exact ⟨by first | rfl | (simp [errW_none, errW_some] <;> rfl) | (simp [*, errW_none, errW_some] <;> rfl), by repeat (first | (with_reducible first | exact HB.out | apply below_alloc | apply pw_below_drewN | apply below_drew1 | refine below_set ?_ GE103.out) | exact HB.out)⟩
 rw [if_neg c3] at H
 have c3b0 : decide ((l0_3.length : Int) < (wrap64 ((wrap64 (2 * t104)) + 1))) = false := decide_eq_false c3
 clear c3
 have H' := Aside0.mk H
 clear H
 go_enter Try.func46, Try.ntmps46
 go_wp2_with (first | ((with_reducible refine gate_dst (N := 1) rfl ?_); (try (refine gate_guard (by rfl) ?_; dsimp only)); refine box_event ?hg (N := 1) ?hd (cs := #[.int .i64 a0_0, .int .i64 a0_1, .bool a0_2, .slice A0_3 l0_3.length c0_3, .slice A0_4 l0_4.length c0_4, .slice A0_5 l0_5.length c0_5]) (t := 26) ?hr ?_; (case hd => rfl); (case hg => rfl); (case hr => first | (go_simp; done) | (go_simp; rfl)); intro gb103 hg w8 hbox hb; have n0_ := Aside0.mk (below_step bl_ hb); have n1_ := Aside0.mk (hbox); have n2_ := Aside0.mk (gl_ (w := w) hg); have n3_ := Aside0.mk (gl_ (w := w) hg); clear HB; have HB := n0_; have BK103 := n1_; have GW103 := n2_; have GE103 := n3_; clear n0_ n1_ n2_ n3_; clear hb hbox hg; obtain ⟨hcz9_0, hcz9_1, hcz9_2, hcz9_3, hcz9_4, hcz9_5⟩ := cells6 BK103; obtain ⟨hfz9_0, hfz9_1, hfz9_2, hfz9_3, hfz9_4, hfz9_5⟩ := fz6 BK103) | ((with_reducible refine gate_callee (f := 44) rfl ?_); refine gL_ 9 Try.func44 #[.agg #[.int .i64 a0_0, .int .i64 a0_1, .bool a0_2, .slice A0_3 l0_3.length c0_3, .slice A0_4 l0_4.length c0_4, .slice A0_5 l0_5.length c0_5]] ?_; (with_reducible refine (dataflow_Source.calls a0_0 a0_1 a0_2 _ _ l0_3 _ _ l0_4 _ _ l0_5 t104 _ ?side1 ?side2 ?side3 ?side4 ?side5 ?side6 A2.out).mono ?_); (case side1 => exact CB_ HR0_3); (case side2 => exact HC0_3.out); (case side3 => exact CB_ HR0_4); (case side4 => exact HC0_4.out); (case side5 => exact CB_ HR0_5); (case side6 => exact HC0_5.out); rintro e w10 ⟨rfl, hb⟩; refine ⟨_, rfl, ?_⟩; have n0_ := Aside0.mk (blk_below (K_ BK103) hb); have n1_ := Aside0.mk (below_step bl_ hb); clear BK103; clear HB; have BK103 := n0_; have HB := n1_; clear n0_ n1_; (try clear hb); (try clear hb2); (try clear hk); (try clear hi); obtain ⟨hcz11_0, hcz11_1, hcz11_2, hcz11_3, hcz11_4, hcz11_5⟩ := cells6 BK103; obtain ⟨hfz11_0, hfz11_1, hfz11_2, hfz11_3, hfz11_4, hfz11_5⟩ := fz6 BK103))
 go_loopg [19] k (fun kq v19 w' => ∃ (x19_1 : Int), v19 = .int .i64 x19_1 ∧ Aside0 (dataflow_framed.l0 kq t104 (wrap64 (t104 + 1)) x19_1 a0_0 a0_1 a0_2 l0_3 l0_4 l0_5 = some r) ∧ Aside0 (kq ≤ k) ∧ Aside0 (w'.heap[gb103]? = some (.cells #[.int .i64 a0_0, .int .i64 a0_1, .bool a0_2, (.slice A0_3 l0_3.length c0_3), (.slice A0_4 l0_4.length c0_4), (.slice A0_5 l0_5.length c0_5)] 26 (0, 0))) ∧ Aside0 (Below w.heap.size w w'))
 case atStart => exact ⟨(0), (by first | rfl | (simp; done) | (simp [*]; done)), H', ⟨Nat.le_refl _⟩, ⟨K_ BK103⟩, ⟨bl_⟩⟩
 clear H'
 obtain ⟨x19_1, rfl, HA, HK1, BK103, HB⟩ := hrel
 cases gk with
 | zero => exact absurd HA.out (by simp [dataflow_framed.l0])
 | succ k1 => ?_
 have H := HA.out
 clear HA
 simp only [dataflow_framed.l0] at H
 by_cases c12 : x19_1 < (wrap64 (t104 + 1))
 · rw [if_pos c12] at H
   have c12b0 : decide (x19_1 < (wrap64 (t104 + 1))) = true := decide_eq_true c12
   clear c12
   have HC13 := Aside0.mk H
   clear H
   go_upto_if 25 with (fail)
   go_cut [5] (fun v5 wc => ∃ (kq : Nat) (x5_12 : Int), v5 = .int .i64 x5_12 ∧ Aside0 (dataflow_framed.j1 kq t104 x19_1 x5_12 (wrap64 (t104 + 1)) x19_1 a0_0 a0_1 a0_2 l0_3 l0_4 l0_5 = some r) ∧ Aside0 (kq ≤ k1) ∧ Aside0 (wc.heap[gb103]? = some (.cells #[.int .i64 a0_0, .int .i64 a0_1, .bool a0_2, (.slice A0_3 l0_3.length c0_3), (.slice A0_4 l0_4.length c0_4), (.slice A0_5 l0_5.length c0_5)] 26 (0, 0))) ∧ Aside0 (Below w.heap.size w wc))
   case first =>
    have H := HC13.out
    clear HC13
    by_cases c14 : x19_1 = t104
    · rw [if_pos c14] at H
      have c14b0 : (x19_1 == t104) = true := beq_iff_eq.mpr c14
      have c14b1 : (x19_1 != t104) = false := bne_eq_false_iff_eq.mpr c14
      clear c14
      (first | rw [c14b0] | (simp only [i64_w, i32_w]; rw [c14b0]) | skip)
      replace H := Option.bind_eq_some_iff.mp H
      obtain ⟨t105, A150, H⟩ := H
      replace H : (dataflow_framed.j1 k1 t104 x19_1 t105 (wrap64 (t104 + 1)) x19_1 a0_0 a0_1 a0_2 l0_3 l0_4 l0_5) = some r := H
      have A15 := Aside0.mk A150
      clear A150
      have H' := Aside0.mk H
      clear H
      obtain ⟨hcz16_0, hcz16_1, hcz16_2, hcz16_3, hcz16_4, hcz16_5⟩ := cells6 BK103
      obtain ⟨hfz16_0, hfz16_1, hfz16_2, hfz16_3, hfz16_4, hfz16_5⟩ := fz6 BK103
      go_wp2_with (first | ((with_reducible refine gate_callee (f := 45) rfl ?_); refine gL_ 27 Try.func45 #[.agg #[.int .i64 a0_0, .int .i64 a0_1, .bool a0_2, .slice A0_3 l0_3.length c0_3, .slice A0_4 l0_4.length c0_4, .slice A0_5 l0_5.length c0_5]] ?_; (with_reducible refine (dataflow_End.calls a0_0 a0_1 a0_2 _ _ l0_3 _ _ l0_4 _ _ l0_5 t105 _ ?side1 ?side2 ?side3 ?side4 ?side5 ?side6 A15.out).mono ?_); (case side1 => exact CB_ HR0_3); (case side2 => exact HC0_3.out); (case side3 => exact CB_ HR0_4); (case side4 => exact HC0_4.out); (case side5 => exact CB_ HR0_5); (case side6 => exact HC0_5.out); rintro e w17 ⟨rfl, hb⟩; refine ⟨_, rfl, ?_⟩; have n0_ := Aside0.mk (blk_below (K_ BK103) hb); have n1_ := Aside0.mk (below_step bl_ hb); clear BK103; clear HB; have BK103 := n0_; have HB := n1_; clear n0_ n1_; (try clear hb); (try clear hb2); (try clear hk); (try clear hi)))
      go_meet
      case rel => exact ⟨_, (t105), (by first | rfl | (simp; done) | (simp [*]; done)), H', ⟨by have := HK1.out; first | omega | exact Nat.le_refl _⟩, ⟨K_ BK103⟩, ⟨bl_⟩⟩
    rw [if_neg c14] at H
    have c14b0 : (x19_1 == t104) = false := beq_eq_false_iff_ne.mpr c14
    have c14b1 : (x19_1 != t104) = true := bne_iff_ne.mpr c14
    (first | rw [c14b0] | (simp only [i64_w, i32_w]; rw [c14b0]) | skip)
    have H' := Aside0.mk H
    clear H
    go_wp2
    go_meet
    case rel => exact ⟨_, (x19_1), (by first | rfl | (simp; done) | (simp [*]; done)), H', ⟨by have := HK1.out; first | omega | exact Nat.le_refl _⟩, ⟨K_ BK103⟩, ⟨bl_⟩⟩
   clear HC13
   obtain ⟨kq, x5_12, rfl, HA, HJ12, BK103, HB⟩ := hcut
   cases kq with
   | zero => exact absurd HA.out (by simp [dataflow_framed.j1])
   | succ kj12 => ?_
   have H := HA.out
   clear HA
   simp only [dataflow_framed.j1] at H
   by_cases c18 : 0 ≤ x19_1
   · rw [if_pos c18] at H
     have c18b0 : decide (0 ≤ x19_1) = true := decide_eq_true c18
     clear c18
     by_cases c19 : x19_1 < (l0_3.length : Int)
     · rw [if_pos c19] at H
       have c19b0 : decide (x19_1 < (l0_3.length : Int)) = true := decide_eq_true c19
       clear c19
       by_cases c20 : (!(((rd_T48 l0_3 x19_1).f0) == t104) || (!(((rd_T48 l0_3 x19_1).f1) == x5_12) || (!(((rd_T48 l0_3 x19_1).f2) == 0) || (!(((rd_T48 l0_3 x19_1).f3) == 0))))) = true
       · rw [if_pos c20] at H
         have c20b0 : (!(((rd_T48 l0_3 x19_1).f0) == t104) || (!(((rd_T48 l0_3 x19_1).f1) == x5_12) || (!(((rd_T48 l0_3 x19_1).f2) == 0) || (!(((rd_T48 l0_3 x19_1).f3) == 0))))) = true := c20
         clear c20
         obtain rfl := Option.some.inj H
         obtain ⟨hcz21_0, hcz21_1, hcz21_2, hcz21_3, hcz21_4, hcz21_5⟩ := cells6 BK103
         obtain ⟨hfz21_0, hfz21_1, hfz21_2, hfz21_3, hfz21_4, hfz21_5⟩ := fz6 BK103
         have p106 : 0 ≤ (x19_1 : Int) := of_decide_eq_true (by first | (with_reducible assumption) | assumption)
         have q106 : x19_1 < (l0_3.length : Int) := of_decide_eq_true (by first | (with_reducible assumption) | assumption)
         obtain ⟨ad106, e106, hx106_0, hx106_1, hx106_2, hx106_3⟩ := at_T48 HR0_3.out x19_1 p106 q106
         cases e106
         replace hx106_0 := hc_ HB hx106_0
         replace hx106_1 := hc_ HB hx106_1
         replace hx106_2 := hc_ HB hx106_2
         replace hx106_3 := hc_ HB hx106_3
         replace p106 := eq_true p106
         replace q106 := eq_true q106
         go_wp2
         go_ret
         exact ⟨by first | rfl | (simp [errW_none, errW_some] <;> rfl) | (simp [*, errW_none, errW_some] <;> rfl), by repeat (first | (with_reducible first | exact HB.out | apply below_alloc | apply pw_below_drewN | apply below_drew1 | refine below_set ?_ GE103.out) | exact HB.out)⟩
       rw [if_neg c20] at H
       have c20b0 : (!(((rd_T48 l0_3 x19_1).f0) == t104) || (!(((rd_T48 l0_3 x19_1).f1) == x5_12) || (!(((rd_T48 l0_3 x19_1).f2) == 0) || (!(((rd_T48 l0_3 x19_1).f3) == 0))))) = false := by simpa using c20
       clear c20
       have H' := Aside0.mk H
       clear H
       obtain ⟨hcz22_0, hcz22_1, hcz22_2, hcz22_3, hcz22_4, hcz22_5⟩ := cells6 BK103
       obtain ⟨hfz22_0, hfz22_1, hfz22_2, hfz22_3, hfz22_4, hfz22_5⟩ := fz6 BK103
       have p106 : 0 ≤ (x19_1 : Int) := of_decide_eq_true (by first | (with_reducible assumption) | assumption)
       have q106 : x19_1 < (l0_3.length : Int) := of_decide_eq_true (by first | (with_reducible assumption) | assumption)
       obtain ⟨ad106, e106, hx106_0, hx106_1, hx106_2, hx106_3⟩ := at_T48 HR0_3.out x19_1 p106 q106
       cases e106
       replace hx106_0 := hc_ HB hx106_0
       replace hx106_1 := hc_ HB hx106_1
       replace hx106_2 := hc_ HB hx106_2
       replace hx106_3 := hc_ HB hx106_3
       replace p106 := eq_true p106
       replace q106 := eq_true q106
       go_wp2
       go_roundg kj12
       case measure => have := HK1.out; have := HJ12.out; omega
       case rel => exact ⟨(wrap64 (x19_1 + 1)), (by first | rfl | (simp; done) | (simp [*]; done)), H', ⟨by have := HK1.out; have := HJ12.out; omega⟩, ⟨K_ BK103⟩, ⟨bl_⟩⟩
     rw [if_neg c19] at H
     exact absurd H (by simp)
   rw [if_neg c18] at H
   exact absurd H (by simp)
 rw [if_neg c12] at H
 have c12b0 : decide (x19_1 < (wrap64 (t104 + 1))) = false := decide_eq_false c12
 clear c12
 have H' := Aside0.mk H
 clear H
 go_wp2
 go_loopg [39] k1 (fun kq v39 w' => ∃ (x39_2 : Int), v39 = .int .i64 x39_2 ∧ Aside0 (dataflow_framed.l1 kq t104 t104 x39_2 a0_0 a0_1 a0_2 l0_3 l0_4 l0_5 = some r) ∧ Aside0 (kq ≤ k1) ∧ Aside0 (w'.heap[gb103]? = some (.cells #[.int .i64 a0_0, .int .i64 a0_1, .bool a0_2, (.slice A0_3 l0_3.length c0_3), (.slice A0_4 l0_4.length c0_4), (.slice A0_5 l0_5.length c0_5)] 26 (0, 0))) ∧ Aside0 (Below w.heap.size w w'))
 case atStart => exact ⟨(0), (by first | rfl | (simp; done) | (simp [*]; done)), H', ⟨Nat.le_refl _⟩, ⟨K_ BK103⟩, ⟨bl_⟩⟩
 clear H'
 obtain ⟨x39_2, rfl, HA, HK2, BK103, HB⟩ := hrel
 cases gk with
 | zero => exact absurd HA.out (by simp [dataflow_framed.l1])
 | succ k2 => ?_
 have H := HA.out
 clear HA
 simp only [dataflow_framed.l1] at H
 by_cases c23 : x39_2 < t104
 · rw [if_pos c23] at H
   have c23b0 : decide (x39_2 < t104) = true := decide_eq_true c23
   clear c23
   obtain ⟨ji24, hji24⟩ : ∃ j_ : Int, (wrap64 ((wrap64 (t104 + 1)) + x39_2)) = j_ := ⟨_, rfl⟩
   replace H : (if 0 ≤ (ji24) then (if (ji24) < (l0_3.length : Int) then (if ((rd_T48 l0_3 (ji24)).f0) = x39_2 then ((dataflow_End.f a0_0 a0_1 a0_2 l0_3 l0_4 l0_5).bind fun t109 => (if ((rd_T48 l0_3 (ji24)).f1) = t109 then (if ((rd_T48 l0_3 (ji24)).f3) = 0 then (if x39_2 < a0_0 then (if 0 ≤ x39_2 then (if x39_2 < (l0_5.length : Int) then (dataflow_framed.j3 k2 t104 t104 x39_2 (decide (((rd_T48 l0_3 (ji24)).f2) < (mx 1 ((rd_T52 l0_5 x39_2).f1)))) a0_0 a0_1 a0_2 l0_3 l0_4 l0_5) else (none)) else (none)) else (dataflow_framed.j3 k2 t104 t104 x39_2 false a0_0 a0_1 a0_2 l0_3 l0_4 l0_5)) else (dataflow_framed.j3 k2 t104 t104 x39_2 true a0_0 a0_1 a0_2 l0_3 l0_4 l0_5)) else (dataflow_framed.j3 k2 t104 t104 x39_2 true a0_0 a0_1 a0_2 l0_3 l0_4 l0_5))) else (dataflow_framed.j3 k2 t104 t104 x39_2 true a0_0 a0_1 a0_2 l0_3 l0_4 l0_5)) else (none)) else (none)) = some r := by first | (rw [hji24] at H; exact H) | (simp only [hji24] at H ⊢; exact H)
   have hji24w : (IntKind.i64.wrap ((wrap64 (t104 + 1)) + x39_2)) = ji24 := (i64_w _).trans hji24
   by_cases c25 : 0 ≤ (ji24)
   · rw [if_pos c25] at H
     have c25b0 : decide (0 ≤ (ji24)) = true := decide_eq_true c25
     clear c25
     by_cases c26 : (ji24) < (l0_3.length : Int)
     · rw [if_pos c26] at H
       have c26b0 : decide ((ji24) < (l0_3.length : Int)) = true := decide_eq_true c26
       clear c26
       have HC27 := Aside0.mk H
       clear H
       obtain ⟨hcz28_0, hcz28_1, hcz28_2, hcz28_3, hcz28_4, hcz28_5⟩ := cells6 BK103
       obtain ⟨hfz28_0, hfz28_1, hfz28_2, hfz28_3, hfz28_4, hfz28_5⟩ := fz6 BK103
       have p107 : 0 ≤ ((ji24) : Int) := of_decide_eq_true (by first | (with_reducible assumption) | assumption)
       have q107 : (ji24) < (l0_3.length : Int) := of_decide_eq_true (by first | (with_reducible assumption) | assumption)
       obtain ⟨ad107, e107, hx107_0, hx107_1, hx107_2, hx107_3⟩ := at_T48 HR0_3.out (ji24) p107 q107
       cases e107
       replace hx107_0 := hc_ HB hx107_0
       replace hx107_1 := hc_ HB hx107_1
       replace hx107_2 := hc_ HB hx107_2
       replace hx107_3 := hc_ HB hx107_3
       replace p107 := eq_true p107
       replace q107 := eq_true q107
       go_upto_region 17 with (first | ((with_reducible refine gate_dst (N := 7) rfl ?_); (try (refine gate_guard (by rfl) ?_; dsimp only)); refine box_event ?hg (N := 7) ?hd (cs := #[.int .i64 0, .int .i64 0, .int .i64 0, .int .i64 0]) (t := 48) ?hr ?_; (case hd => rfl); (case hg => rfl); (case hr => first | (go_simp; done) | (go_simp; rfl)); intro gb108 hg w29 hbox hb; have n0_ := Aside0.mk (blk_below (K_ BK103) hb); have n1_ := Aside0.mk (below_step bl_ hb); have n2_ := Aside0.mk (hbox); have n3_ := Aside0.mk (gl_ (w := w) hg); have n4_ := Aside0.mk (gl_ (w := w) hg); have n5_ := Aside0.mk (nl_ hg (K_ BK103)); have n6_ := Aside0.mk (ng_ hg (K_ BK103)); clear BK103; clear HB; have BK103 := n0_; have HB := n1_; have BK108 := n2_; have GW108 := n3_; have GE108 := n4_; have NB103_108 := n5_; have NB108_103 := n6_; clear n0_ n1_ n2_ n3_ n4_ n5_ n6_; clear hb hbox hg; obtain ⟨hcz31_0, hcz31_1, hcz31_2, hcz31_3⟩ := cells4 BK108; obtain ⟨hfz31_0, hfz31_1, hfz31_2, hfz31_3⟩ := fz4 BK108))
       (try simp only [Act.put, List.setIfInBounds_toArray, List.set_cons_zero, List.set_cons_succ])
       go_cut [83] (fun v83 wc => ∃ (kq : Nat) (x83_26 : Bool), v83 = .bool x83_26 ∧ Aside0 (dataflow_framed.j3 kq t104 t104 x39_2 x83_26 a0_0 a0_1 a0_2 l0_3 l0_4 l0_5 = some r) ∧ Aside0 (kq ≤ k2) ∧ Aside0 (wc.heap[gb103]? = some (.cells #[.int .i64 a0_0, .int .i64 a0_1, .bool a0_2, (.slice (some ad107) l0_3.length c0_3), (.slice A0_4 l0_4.length c0_4), (.slice A0_5 l0_5.length c0_5)] 26 (0, 0))) ∧ Aside0 (wc.heap[gb108]? = some (.cells #[.int .i64 ((rd_T48 l0_3 (ji24)).f0), .int .i64 ((rd_T48 l0_3 (ji24)).f1), .int .i64 ((rd_T48 l0_3 (ji24)).f2), .int .i64 ((rd_T48 l0_3 (ji24)).f3)] 48 (0, 0))) ∧ Aside0 (Below w.heap.size w wc))
       case first =>
        have H := HC27.out
        clear HC27
        by_cases c32 : ((rd_T48 l0_3 (ji24)).f0) = x39_2
        · rw [if_pos c32] at H
          have c32b0 : (((rd_T48 l0_3 (ji24)).f0) == x39_2) = true := beq_iff_eq.mpr c32
          have c32b1 : (((rd_T48 l0_3 (ji24)).f0) != x39_2) = false := bne_eq_false_iff_eq.mpr c32
          clear c32
          (first | rw [c32b0] | (simp only [i64_w, i32_w]; rw [c32b0]) | skip)
          replace H := Option.bind_eq_some_iff.mp H
          obtain ⟨t109, A330, H⟩ := H
          replace H : (if ((rd_T48 l0_3 (ji24)).f1) = t109 then (if ((rd_T48 l0_3 (ji24)).f3) = 0 then (if x39_2 < a0_0 then (if 0 ≤ x39_2 then (if x39_2 < (l0_5.length : Int) then (dataflow_framed.j3 k2 t104 t104 x39_2 (decide (((rd_T48 l0_3 (ji24)).f2) < (mx 1 ((rd_T52 l0_5 x39_2).f1)))) a0_0 a0_1 a0_2 l0_3 l0_4 l0_5) else (none)) else (none)) else (dataflow_framed.j3 k2 t104 t104 x39_2 false a0_0 a0_1 a0_2 l0_3 l0_4 l0_5)) else (dataflow_framed.j3 k2 t104 t104 x39_2 true a0_0 a0_1 a0_2 l0_3 l0_4 l0_5)) else (dataflow_framed.j3 k2 t104 t104 x39_2 true a0_0 a0_1 a0_2 l0_3 l0_4 l0_5)) = some r := H
          have A33 := Aside0.mk A330
          clear A330
          by_cases c34 : ((rd_T48 l0_3 (ji24)).f1) = t109
          · rw [if_pos c34] at H
            have c34b0 : (((rd_T48 l0_3 (ji24)).f1) == t109) = true := beq_iff_eq.mpr c34
            have c34b1 : (((rd_T48 l0_3 (ji24)).f1) != t109) = false := bne_eq_false_iff_eq.mpr c34
            clear c34
            by_cases c35 : ((rd_T48 l0_3 (ji24)).f3) = 0
            · rw [if_pos c35] at H
              have c35b0 : (((rd_T48 l0_3 (ji24)).f3) == 0) = true := beq_iff_eq.mpr c35
              have c35b1 : (((rd_T48 l0_3 (ji24)).f3) != 0) = false := bne_eq_false_iff_eq.mpr c35
              clear c35
              by_cases c36 : x39_2 < a0_0
              · rw [if_pos c36] at H
                have c36b0 : decide (x39_2 < a0_0) = true := decide_eq_true c36
                clear c36
                by_cases c37 : 0 ≤ x39_2
                · rw [if_pos c37] at H
                  have c37b0 : decide (0 ≤ x39_2) = true := decide_eq_true c37
                  clear c37
                  by_cases c38 : x39_2 < (l0_5.length : Int)
                  · rw [if_pos c38] at H
                    have c38b0 : decide (x39_2 < (l0_5.length : Int)) = true := decide_eq_true c38
                    clear c38
                    obtain ⟨ji39, hji39⟩ : ∃ j_ : Int, (mx 1 ((rd_T52 l0_5 x39_2).f1)) = j_ := ⟨_, rfl⟩
                    replace H : (dataflow_framed.j3 k2 t104 t104 x39_2 (decide (((rd_T48 l0_3 (ji24)).f2) < (ji39))) a0_0 a0_1 a0_2 l0_3 l0_4 l0_5) = some r := by first | (rw [hji39] at H; exact H) | (simp only [hji39] at H ⊢; exact H)
                    (try rw [hji39] at A33)
                    have hji39_ : (if 1 < ((rd_T52 l0_5 x39_2).f1) then ((rd_T52 l0_5 x39_2).f1) else 1) = ji39 := hji39
                    have H' := Aside0.mk H
                    clear H
                    try go_wp2
                    have n0_ : Aside0 (((((w29.setCell ⟨gb108, 0, none⟩ (.int .i64 ((rd_T48 l0_3 (ji24)).f0))).setCell ⟨gb108, 1, none⟩ (.int .i64 ((rd_T48 l0_3 (ji24)).f1))).setCell ⟨gb108, 2, none⟩ (.int .i64 ((rd_T48 l0_3 (ji24)).f2))).setCell ⟨gb108, 3, none⟩ (.int .i64 ((rd_T48 l0_3 (ji24)).f3))).heap[gb103]? = some (.cells #[.int .i64 a0_0, .int .i64 a0_1, .bool a0_2, .slice (some ad107) l0_3.length c0_3, .slice A0_4 l0_4.length c0_4, .slice A0_5 l0_5.length c0_5] 26 (0, 0))) := ⟨by (with_reducible repeat (first | refine blk_drewN ?_ _ | refine blk_drew ?_ | refine blk_alloc ?_ _)); refine blk_far ?_ NB103_108.out _; (with_reducible repeat (first | refine blk_drewN ?_ _ | refine blk_drew ?_ | refine blk_alloc ?_ _)); refine blk_far ?_ NB103_108.out _; (with_reducible repeat (first | refine blk_drewN ?_ _ | refine blk_drew ?_ | refine blk_alloc ?_ _)); refine blk_far ?_ NB103_108.out _; (with_reducible repeat (first | refine blk_drewN ?_ _ | refine blk_drew ?_ | refine blk_alloc ?_ _)); refine blk_far ?_ NB103_108.out _; (with_reducible repeat (first | refine blk_drewN ?_ _ | refine blk_drew ?_ | refine blk_alloc ?_ _)); exact BK103.out⟩
                    have n1_ : Aside0 (((((w29.setCell ⟨gb108, 0, none⟩ (.int .i64 ((rd_T48 l0_3 (ji24)).f0))).setCell ⟨gb108, 1, none⟩ (.int .i64 ((rd_T48 l0_3 (ji24)).f1))).setCell ⟨gb108, 2, none⟩ (.int .i64 ((rd_T48 l0_3 (ji24)).f2))).setCell ⟨gb108, 3, none⟩ (.int .i64 ((rd_T48 l0_3 (ji24)).f3))).heap[gb108]? = some (.cells #[.int .i64 ((rd_T48 l0_3 (ji24)).f0), .int .i64 ((rd_T48 l0_3 (ji24)).f1), .int .i64 ((rd_T48 l0_3 (ji24)).f2), .int .i64 ((rd_T48 l0_3 (ji24)).f3)] 48 (0, 0))) := ⟨by (with_reducible repeat (first | refine blk_drewN ?_ _ | refine blk_drew ?_ | refine blk_alloc ?_ _)); refine blk_put (cs := #[.int .i64 ((rd_T48 l0_3 (ji24)).f0), .int .i64 ((rd_T48 l0_3 (ji24)).f1), .int .i64 ((rd_T48 l0_3 (ji24)).f2), .int .i64 0]) ?_ 3 _ rfl; (with_reducible repeat (first | refine blk_drewN ?_ _ | refine blk_drew ?_ | refine blk_alloc ?_ _)); refine blk_put (cs := #[.int .i64 ((rd_T48 l0_3 (ji24)).f0), .int .i64 ((rd_T48 l0_3 (ji24)).f1), .int .i64 0, .int .i64 0]) ?_ 2 _ rfl; (with_reducible repeat (first | refine blk_drewN ?_ _ | refine blk_drew ?_ | refine blk_alloc ?_ _)); refine blk_put (cs := #[.int .i64 ((rd_T48 l0_3 (ji24)).f0), .int .i64 0, .int .i64 0, .int .i64 0]) ?_ 1 _ rfl; (with_reducible repeat (first | refine blk_drewN ?_ _ | refine blk_drew ?_ | refine blk_alloc ?_ _)); refine blk_put (cs := #[.int .i64 0, .int .i64 0, .int .i64 0, .int .i64 0]) ?_ 0 _ rfl; (with_reducible repeat (first | refine blk_drewN ?_ _ | refine blk_drew ?_ | refine blk_alloc ?_ _)); exact BK108.out⟩
                    have n2_ : Aside0 (Below w.heap.size w ((((w29.setCell ⟨gb108, 0, none⟩ (.int .i64 ((rd_T48 l0_3 (ji24)).f0))).setCell ⟨gb108, 1, none⟩ (.int .i64 ((rd_T48 l0_3 (ji24)).f1))).setCell ⟨gb108, 2, none⟩ (.int .i64 ((rd_T48 l0_3 (ji24)).f2))).setCell ⟨gb108, 3, none⟩ (.int .i64 ((rd_T48 l0_3 (ji24)).f3)))) := ⟨bl_⟩
                    generalize ((((w29.setCell ⟨gb108, 0, none⟩ (.int .i64 ((rd_T48 l0_3 (ji24)).f0))).setCell ⟨gb108, 1, none⟩ (.int .i64 ((rd_T48 l0_3 (ji24)).f1))).setCell ⟨gb108, 2, none⟩ (.int .i64 ((rd_T48 l0_3 (ji24)).f2))).setCell ⟨gb108, 3, none⟩ (.int .i64 ((rd_T48 l0_3 (ji24)).f3))) = w40 at n0_ n1_ n2_ ⊢
                    have BK103 := n0_
                    have BK108 := n1_
                    have HB := n2_
                    clear n0_ n1_ n2_
                    have n0_ := Aside0.mk (blk_drew BK103.out)
                    have n1_ := Aside0.mk (blk_drew BK108.out)
                    have n2_ := Aside0.mk (below_drew1 HB.out)
                    clear BK103
                    clear BK108
                    clear HB
                    have BK103 := n0_
                    have BK108 := n1_
                    have HB := n2_
                    clear n0_ n1_ n2_
                    have p110 : 0 ≤ (x39_2 : Int) := of_decide_eq_true (by first | (with_reducible assumption) | assumption)
                    have q110 : x39_2 < (l0_5.length : Int) := of_decide_eq_true (by first | (with_reducible assumption) | assumption)
                    obtain ⟨ad110, e110, hx110_0, hx110_1⟩ := at_T52 HR0_5.out x39_2 p110 q110
                    have hw110_1 := hx110_1
                    have hw110_0 := hx110_0
                    cases e110
                    replace hx110_0 := hc_ HB hx110_0
                    replace hx110_1 := hc_ HB hx110_1
                    replace p110 := eq_true p110
                    replace q110 := eq_true q110
                    refine start_ (n := 34) (S := fun w' => w'.cell? ⟨gb108, 0, none⟩ = some (.int .i64 ((rd_T48 l0_3 (ji24)).f0)) ∧ w'.cell? ⟨gb108, 1, none⟩ = some (.int .i64 ((rd_T48 l0_3 (ji24)).f1)) ∧ w'.cell? ⟨gb108, 2, none⟩ = some (.int .i64 ((rd_T48 l0_3 (ji24)).f2)) ∧ w'.cell? ⟨gb108, 3, none⟩ = some (.int .i64 ((rd_T48 l0_3 (ji24)).f3)) ∧ w'.cell? ⟨gb103, 0, none⟩ = some (.int .i64 a0_0) ∧ w'.cell? ⟨gb103, 1, none⟩ = some (.int .i64 a0_1) ∧ w'.cell? ⟨gb103, 2, none⟩ = some (.bool a0_2) ∧ w'.cell? ⟨gb103, 3, none⟩ = some (.slice (some ad107) l0_3.length c0_3) ∧ w'.cell? ⟨gb103, 4, none⟩ = some (.slice A0_4 l0_4.length c0_4) ∧ w'.cell? ⟨gb103, 5, none⟩ = some (.slice (some ad110) l0_5.length c0_5) ∧ w'.cell? (ad110.add ((x39_2).toNat * 2)) = some (.int .i64 ((rd_T52 l0_5 x39_2).f0)) ∧ w'.cell? ⟨(ad110.add ((x39_2).toNat * 2)).block, (ad110.add ((x39_2).toNat * 2)).off + 1, none⟩ = some (.int .i64 ((rd_T52 l0_5 x39_2).f1))) (ds := []) (bz 34 0) (by kernel_rfl) rfl rfl ⟨(blk_cell BK108.out 0).trans rfl, (blk_cell BK108.out 1).trans rfl, (blk_cell BK108.out 2).trans rfl, (blk_cell BK108.out 3).trans rfl, (blk_cell BK103.out 0).trans rfl, (blk_cell BK103.out 1).trans rfl, (blk_cell BK103.out 2).trans rfl, (blk_cell BK103.out 3).trans rfl, (blk_cell BK103.out 4).trans rfl, (blk_cell BK103.out 5).trans rfl, (hc_ HB hw110_0), (hc_ HB hw110_1)⟩ (fun hHeld => ?_); refine with_tabW dataflow_framed.tab17 dataflow_framed.bits17 (fun HT_ HW_ => ?_)
                    generalize w40.drew = w41 at BK103 BK108 HB hx110_0 hx110_1 hHeld ⊢
                    refine pu_ 0 50 HT_ ?_
                    refine pu_ 2 52 HT_ ?_
                    refine tk_ 1 51 HT_ HW_ hHeld ?_ (hy := by rintro w' ⟨s0, s1, s2, s3, s4, s5, s6, s7, s8, s9, s10, s11⟩; go_simp; with_reducible rfl)
                    refine pu_ 3 53 HT_ ?_
                    refine pu_ 4 54 HT_ ?_
                    refine pu_ 5 55 HT_ ?_
                    refine tk_ 6 56 HT_ HW_ hHeld ?_ (hy := by rintro w' ⟨s0, s1, s2, s3, s4, s5, s6, s7, s8, s9, s10, s11⟩; go_simp; with_reducible rfl)
                    refine tk_ 7 57 HT_ HW_ hHeld ?_ (hy := by rintro w' ⟨s0, s1, s2, s3, s4, s5, s6, s7, s8, s9, s10, s11⟩; go_simp; with_reducible rfl)
                    refine on_ 8 (some 58) HT_ (fun K hK => ?_)
                    refine gs_ Try.func45 #[.agg #[.int .i64 a0_0, .int .i64 a0_1, .bool a0_2, .slice (some ad107) l0_3.length c0_3, .slice A0_4 l0_4.length c0_4, .slice (some ad110) l0_5.length c0_5]] ?_
                    with_reducible refine (dataflow_End.calls a0_0 a0_1 a0_2 _ _ l0_3 _ _ l0_4 _ _ l0_5 t109 _ ?side1 ?side2 ?side3 ?side4 ?side5 ?side6 A33.out).mono ?_
                    (case side1 => exact CB_ HR0_3)
                    (case side2 => exact HC0_3.out)
                    (case side3 => exact CB_ HR0_4)
                    (case side4 => exact HC0_4.out)
                    (case side5 => exact CB_ HR0_5)
                    (case side6 => exact HC0_5.out)
                    rintro e w42 ⟨rfl, hb⟩
                    refine ⟨_, rfl, ?_⟩
                    have n0_ := Aside0.mk (blk_below (K_ BK103) hb)
                    have n1_ := Aside0.mk (blk_below (K_ BK108) hb)
                    have n2_ := Aside0.mk (below_step bl_ hb)
                    clear BK103
                    clear BK108
                    clear HB
                    have BK103 := n0_
                    have BK108 := n1_
                    have HB := n2_
                    clear n0_ n1_ n2_
                    refine hK.out _ _ ⟨(blk_cell BK108.out 0).trans rfl, (blk_cell BK108.out 1).trans rfl, (blk_cell BK108.out 2).trans rfl, (blk_cell BK108.out 3).trans rfl, (blk_cell BK103.out 0).trans rfl, (blk_cell BK103.out 1).trans rfl, (blk_cell BK103.out 2).trans rfl, (blk_cell BK103.out 3).trans rfl, (blk_cell BK103.out 4).trans rfl, (blk_cell BK103.out 5).trans rfl, (hc_ HB hw110_0), (hc_ HB hw110_1)⟩ (fun hHeld => ?_)
                    clear hK K
                    refine no_ 58 ?_
                    refine pu_ 9 59 HT_ ?_
                    refine pu_ 10 60 HT_ ?_
                    refine pu_ 11 61 HT_ ?_
                    refine pu_ 12 62 HT_ ?_
                    refine tk_ 13 63 HT_ HW_ hHeld ?_ (hy := by rintro w' ⟨s0, s1, s2, s3, s4, s5, s6, s7, s8, s9, s10, s11⟩; go_simp; with_reducible rfl)
                    refine pu_ 14 64 HT_ ?_
                    refine pu_ 15 65 HT_ ?_
                    refine pu_ 16 66 HT_ ?_
                    refine pu_ 17 67 HT_ ?_
                    refine pu_ 18 68 HT_ ?_
                    refine tk_ 19 69 HT_ HW_ hHeld ?_ (hy := by rintro w' ⟨s0, s1, s2, s3, s4, s5, s6, s7, s8, s9, s10, s11⟩; go_simp; with_reducible rfl)
                    refine pu_ 20 70 HT_ ?_
                    refine pu_ 21 71 HT_ ?_
                    refine pu_ 22 72 HT_ ?_
                    refine pu_ 24 74 HT_ ?_
                    refine pu_ 26 76 HT_ ?_
                    refine tk_ 23 73 HT_ HW_ hHeld ?_ (hy := by rintro w' ⟨s0, s1, s2, s3, s4, s5, s6, s7, s8, s9, s10, s11⟩; go_simp; with_reducible rfl)
                    refine tk_ 25 75 HT_ HW_ hHeld ?_ (hy := by rintro w' ⟨s0, s1, s2, s3, s4, s5, s6, s7, s8, s9, s10, s11⟩; go_simp; with_reducible rfl)
                    refine pu_ 27 77 HT_ ?_
                    refine pu_ 28 78 HT_ ?_
                    refine tk_ 29 79 HT_ HW_ hHeld ?_ (hy := by rintro w' ⟨s0, s1, s2, s3, s4, s5, s6, s7, s8, s9, s10, s11⟩; go_simp; with_reducible rfl)
                    refine pu_ 30 80 HT_ ?_
                    refine pu_ 31 81 HT_ ?_
                    refine pu_ 32 82 HT_ ?_
                    refine pu_ 33 83 HT_ ?_
                    refine done_ (done_of HT_.out (by kernel_rfl)) ?_
                    try go_wp2
                    go_meet
                    case rel => exact ⟨_, (decide (((rd_T48 l0_3 (ji24)).f2) < (ji39))), (by first | rfl | (simp; done) | (simp only [← hji24, ← hji39] <;> (first | rfl | simp)) | (simp [*]; done)), H', ⟨by have := HK1.out; have := HK2.out; first | omega | exact Nat.le_refl _⟩, ⟨K_ BK103⟩, ⟨K_ BK108⟩, ⟨bl_⟩⟩
                  rw [if_neg c38] at H
                  exact absurd H (by simp)
                rw [if_neg c37] at H
                exact absurd H (by simp)
              rw [if_neg c36] at H
              have c36b0 : decide (x39_2 < a0_0) = false := decide_eq_false c36
              clear c36
              have H' := Aside0.mk H
              clear H
              try go_wp2
              have n0_ : Aside0 (((((w29.setCell ⟨gb108, 0, none⟩ (.int .i64 ((rd_T48 l0_3 (ji24)).f0))).setCell ⟨gb108, 1, none⟩ (.int .i64 ((rd_T48 l0_3 (ji24)).f1))).setCell ⟨gb108, 2, none⟩ (.int .i64 ((rd_T48 l0_3 (ji24)).f2))).setCell ⟨gb108, 3, none⟩ (.int .i64 ((rd_T48 l0_3 (ji24)).f3))).heap[gb103]? = some (.cells #[.int .i64 a0_0, .int .i64 a0_1, .bool a0_2, .slice (some ad107) l0_3.length c0_3, .slice A0_4 l0_4.length c0_4, .slice A0_5 l0_5.length c0_5] 26 (0, 0))) := ⟨by (with_reducible repeat (first | refine blk_drewN ?_ _ | refine blk_drew ?_ | refine blk_alloc ?_ _)); refine blk_far ?_ NB103_108.out _; (with_reducible repeat (first | refine blk_drewN ?_ _ | refine blk_drew ?_ | refine blk_alloc ?_ _)); refine blk_far ?_ NB103_108.out _; (with_reducible repeat (first | refine blk_drewN ?_ _ | refine blk_drew ?_ | refine blk_alloc ?_ _)); refine blk_far ?_ NB103_108.out _; (with_reducible repeat (first | refine blk_drewN ?_ _ | refine blk_drew ?_ | refine blk_alloc ?_ _)); refine blk_far ?_ NB103_108.out _; (with_reducible repeat (first | refine blk_drewN ?_ _ | refine blk_drew ?_ | refine blk_alloc ?_ _)); exact BK103.out⟩
              have n1_ : Aside0 (((((w29.setCell ⟨gb108, 0, none⟩ (.int .i64 ((rd_T48 l0_3 (ji24)).f0))).setCell ⟨gb108, 1, none⟩ (.int .i64 ((rd_T48 l0_3 (ji24)).f1))).setCell ⟨gb108, 2, none⟩ (.int .i64 ((rd_T48 l0_3 (ji24)).f2))).setCell ⟨gb108, 3, none⟩ (.int .i64 ((rd_T48 l0_3 (ji24)).f3))).heap[gb108]? = some (.cells #[.int .i64 ((rd_T48 l0_3 (ji24)).f0), .int .i64 ((rd_T48 l0_3 (ji24)).f1), .int .i64 ((rd_T48 l0_3 (ji24)).f2), .int .i64 ((rd_T48 l0_3 (ji24)).f3)] 48 (0, 0))) := ⟨by (with_reducible repeat (first | refine blk_drewN ?_ _ | refine blk_drew ?_ | refine blk_alloc ?_ _)); refine blk_put (cs := #[.int .i64 ((rd_T48 l0_3 (ji24)).f0), .int .i64 ((rd_T48 l0_3 (ji24)).f1), .int .i64 ((rd_T48 l0_3 (ji24)).f2), .int .i64 0]) ?_ 3 _ rfl; (with_reducible repeat (first | refine blk_drewN ?_ _ | refine blk_drew ?_ | refine blk_alloc ?_ _)); refine blk_put (cs := #[.int .i64 ((rd_T48 l0_3 (ji24)).f0), .int .i64 ((rd_T48 l0_3 (ji24)).f1), .int .i64 0, .int .i64 0]) ?_ 2 _ rfl; (with_reducible repeat (first | refine blk_drewN ?_ _ | refine blk_drew ?_ | refine blk_alloc ?_ _)); refine blk_put (cs := #[.int .i64 ((rd_T48 l0_3 (ji24)).f0), .int .i64 0, .int .i64 0, .int .i64 0]) ?_ 1 _ rfl; (with_reducible repeat (first | refine blk_drewN ?_ _ | refine blk_drew ?_ | refine blk_alloc ?_ _)); refine blk_put (cs := #[.int .i64 0, .int .i64 0, .int .i64 0, .int .i64 0]) ?_ 0 _ rfl; (with_reducible repeat (first | refine blk_drewN ?_ _ | refine blk_drew ?_ | refine blk_alloc ?_ _)); exact BK108.out⟩
              have n2_ : Aside0 (Below w.heap.size w ((((w29.setCell ⟨gb108, 0, none⟩ (.int .i64 ((rd_T48 l0_3 (ji24)).f0))).setCell ⟨gb108, 1, none⟩ (.int .i64 ((rd_T48 l0_3 (ji24)).f1))).setCell ⟨gb108, 2, none⟩ (.int .i64 ((rd_T48 l0_3 (ji24)).f2))).setCell ⟨gb108, 3, none⟩ (.int .i64 ((rd_T48 l0_3 (ji24)).f3)))) := ⟨bl_⟩
              generalize ((((w29.setCell ⟨gb108, 0, none⟩ (.int .i64 ((rd_T48 l0_3 (ji24)).f0))).setCell ⟨gb108, 1, none⟩ (.int .i64 ((rd_T48 l0_3 (ji24)).f1))).setCell ⟨gb108, 2, none⟩ (.int .i64 ((rd_T48 l0_3 (ji24)).f2))).setCell ⟨gb108, 3, none⟩ (.int .i64 ((rd_T48 l0_3 (ji24)).f3))) = w43 at n0_ n1_ n2_ ⊢
              have BK103 := n0_
              have BK108 := n1_
              have HB := n2_
              clear n0_ n1_ n2_
              have n0_ := Aside0.mk (blk_drew BK103.out)
              have n1_ := Aside0.mk (blk_drew BK108.out)
              have n2_ := Aside0.mk (below_drew1 HB.out)
              clear BK103
              clear BK108
              clear HB
              have BK103 := n0_
              have BK108 := n1_
              have HB := n2_
              clear n0_ n1_ n2_
              refine start_ (n := 34) (S := fun w' => w'.cell? ⟨gb108, 0, none⟩ = some (.int .i64 ((rd_T48 l0_3 (ji24)).f0)) ∧ w'.cell? ⟨gb108, 1, none⟩ = some (.int .i64 ((rd_T48 l0_3 (ji24)).f1)) ∧ w'.cell? ⟨gb108, 2, none⟩ = some (.int .i64 ((rd_T48 l0_3 (ji24)).f2)) ∧ w'.cell? ⟨gb108, 3, none⟩ = some (.int .i64 ((rd_T48 l0_3 (ji24)).f3)) ∧ w'.cell? ⟨gb103, 0, none⟩ = some (.int .i64 a0_0) ∧ w'.cell? ⟨gb103, 1, none⟩ = some (.int .i64 a0_1) ∧ w'.cell? ⟨gb103, 2, none⟩ = some (.bool a0_2) ∧ w'.cell? ⟨gb103, 3, none⟩ = some (.slice (some ad107) l0_3.length c0_3) ∧ w'.cell? ⟨gb103, 4, none⟩ = some (.slice A0_4 l0_4.length c0_4) ∧ w'.cell? ⟨gb103, 5, none⟩ = some (.slice A0_5 l0_5.length c0_5)) (ds := []) (bz 34 0) (by kernel_rfl) rfl rfl ⟨(blk_cell BK108.out 0).trans rfl, (blk_cell BK108.out 1).trans rfl, (blk_cell BK108.out 2).trans rfl, (blk_cell BK108.out 3).trans rfl, (blk_cell BK103.out 0).trans rfl, (blk_cell BK103.out 1).trans rfl, (blk_cell BK103.out 2).trans rfl, (blk_cell BK103.out 3).trans rfl, (blk_cell BK103.out 4).trans rfl, (blk_cell BK103.out 5).trans rfl⟩ (fun hHeld => ?_); refine with_tabW dataflow_framed.tab17 dataflow_framed.bits17 (fun HT_ HW_ => ?_)
              generalize w43.drew = w44 at BK103 BK108 HB hHeld ⊢
              refine pu_ 0 50 HT_ ?_
              refine pu_ 2 52 HT_ ?_
              refine tk_ 1 51 HT_ HW_ hHeld ?_ (hy := by rintro w' ⟨s0, s1, s2, s3, s4, s5, s6, s7, s8, s9⟩; go_simp; with_reducible rfl)
              refine pu_ 3 53 HT_ ?_
              refine pu_ 4 54 HT_ ?_
              refine pu_ 5 55 HT_ ?_
              refine tk_ 6 56 HT_ HW_ hHeld ?_ (hy := by rintro w' ⟨s0, s1, s2, s3, s4, s5, s6, s7, s8, s9⟩; go_simp; with_reducible rfl)
              refine tk_ 7 57 HT_ HW_ hHeld ?_ (hy := by rintro w' ⟨s0, s1, s2, s3, s4, s5, s6, s7, s8, s9⟩; go_simp; with_reducible rfl)
              refine on_ 8 (some 58) HT_ (fun K hK => ?_)
              refine gs_ Try.func45 #[.agg #[.int .i64 a0_0, .int .i64 a0_1, .bool a0_2, .slice (some ad107) l0_3.length c0_3, .slice A0_4 l0_4.length c0_4, .slice A0_5 l0_5.length c0_5]] ?_
              with_reducible refine (dataflow_End.calls a0_0 a0_1 a0_2 _ _ l0_3 _ _ l0_4 _ _ l0_5 t109 _ ?side1 ?side2 ?side3 ?side4 ?side5 ?side6 A33.out).mono ?_
              (case side1 => exact CB_ HR0_3)
              (case side2 => exact HC0_3.out)
              (case side3 => exact CB_ HR0_4)
              (case side4 => exact HC0_4.out)
              (case side5 => exact CB_ HR0_5)
              (case side6 => exact HC0_5.out)
              rintro e w45 ⟨rfl, hb⟩
              refine ⟨_, rfl, ?_⟩
              have n0_ := Aside0.mk (blk_below (K_ BK103) hb)
              have n1_ := Aside0.mk (blk_below (K_ BK108) hb)
              have n2_ := Aside0.mk (below_step bl_ hb)
              clear BK103
              clear BK108
              clear HB
              have BK103 := n0_
              have BK108 := n1_
              have HB := n2_
              clear n0_ n1_ n2_
              refine hK.out _ _ ⟨(blk_cell BK108.out 0).trans rfl, (blk_cell BK108.out 1).trans rfl, (blk_cell BK108.out 2).trans rfl, (blk_cell BK108.out 3).trans rfl, (blk_cell BK103.out 0).trans rfl, (blk_cell BK103.out 1).trans rfl, (blk_cell BK103.out 2).trans rfl, (blk_cell BK103.out 3).trans rfl, (blk_cell BK103.out 4).trans rfl, (blk_cell BK103.out 5).trans rfl⟩ (fun hHeld => ?_)
              clear hK K
              refine no_ 58 ?_
              refine pu_ 9 59 HT_ ?_
              refine pu_ 10 60 HT_ ?_
              refine pu_ 11 61 HT_ ?_
              refine pu_ 12 62 HT_ ?_
              refine tk_ 13 63 HT_ HW_ hHeld ?_ (hy := by rintro w' ⟨s0, s1, s2, s3, s4, s5, s6, s7, s8, s9⟩; go_simp; with_reducible rfl)
              refine pu_ 14 64 HT_ ?_
              refine pu_ 15 65 HT_ ?_
              refine pu_ 16 66 HT_ ?_
              refine pu_ 17 67 HT_ ?_
              refine pu_ 18 68 HT_ ?_
              refine tk_ 19 69 HT_ HW_ hHeld ?_ (hy := by rintro w' ⟨s0, s1, s2, s3, s4, s5, s6, s7, s8, s9⟩; go_simp; with_reducible rfl)
              refine pu_ 20 70 HT_ ?_
              refine pu_ 21 71 HT_ ?_
              refine pn_ 22 72 HT_ ?_
              refine pn_ 23 73 HT_ ?_
              refine pn_ 24 74 HT_ ?_
              refine pn_ 25 75 HT_ ?_
              refine pn_ 26 76 HT_ ?_
              refine pn_ 27 77 HT_ ?_
              refine pn_ 28 78 HT_ ?_
              refine pn_ 29 79 HT_ ?_
              refine pn_ 30 80 HT_ ?_
              refine pn_ 31 81 HT_ ?_
              refine pu_ 32 82 HT_ ?_
              refine pu_ 33 83 HT_ ?_
              refine done_ (done_of HT_.out (by kernel_rfl)) ?_
              try go_wp2
              go_meet
              case rel => exact ⟨_, (false), (by first | rfl | (simp; done) | (simp [*]; done)), H', ⟨by have := HK1.out; have := HK2.out; first | omega | exact Nat.le_refl _⟩, ⟨K_ BK103⟩, ⟨K_ BK108⟩, ⟨bl_⟩⟩
            rw [if_neg c35] at H
            have c35b0 : (((rd_T48 l0_3 (ji24)).f3) == 0) = false := beq_eq_false_iff_ne.mpr c35
            have c35b1 : (((rd_T48 l0_3 (ji24)).f3) != 0) = true := bne_iff_ne.mpr c35
            have H' := Aside0.mk H
            clear H
            try go_wp2
            have n0_ : Aside0 (((((w29.setCell ⟨gb108, 0, none⟩ (.int .i64 ((rd_T48 l0_3 (ji24)).f0))).setCell ⟨gb108, 1, none⟩ (.int .i64 ((rd_T48 l0_3 (ji24)).f1))).setCell ⟨gb108, 2, none⟩ (.int .i64 ((rd_T48 l0_3 (ji24)).f2))).setCell ⟨gb108, 3, none⟩ (.int .i64 ((rd_T48 l0_3 (ji24)).f3))).heap[gb103]? = some (.cells #[.int .i64 a0_0, .int .i64 a0_1, .bool a0_2, .slice (some ad107) l0_3.length c0_3, .slice A0_4 l0_4.length c0_4, .slice A0_5 l0_5.length c0_5] 26 (0, 0))) := ⟨by (with_reducible repeat (first | refine blk_drewN ?_ _ | refine blk_drew ?_ | refine blk_alloc ?_ _)); refine blk_far ?_ NB103_108.out _; (with_reducible repeat (first | refine blk_drewN ?_ _ | refine blk_drew ?_ | refine blk_alloc ?_ _)); refine blk_far ?_ NB103_108.out _; (with_reducible repeat (first | refine blk_drewN ?_ _ | refine blk_drew ?_ | refine blk_alloc ?_ _)); refine blk_far ?_ NB103_108.out _; (with_reducible repeat (first | refine blk_drewN ?_ _ | refine blk_drew ?_ | refine blk_alloc ?_ _)); refine blk_far ?_ NB103_108.out _; (with_reducible repeat (first | refine blk_drewN ?_ _ | refine blk_drew ?_ | refine blk_alloc ?_ _)); exact BK103.out⟩
            have n1_ : Aside0 (((((w29.setCell ⟨gb108, 0, none⟩ (.int .i64 ((rd_T48 l0_3 (ji24)).f0))).setCell ⟨gb108, 1, none⟩ (.int .i64 ((rd_T48 l0_3 (ji24)).f1))).setCell ⟨gb108, 2, none⟩ (.int .i64 ((rd_T48 l0_3 (ji24)).f2))).setCell ⟨gb108, 3, none⟩ (.int .i64 ((rd_T48 l0_3 (ji24)).f3))).heap[gb108]? = some (.cells #[.int .i64 ((rd_T48 l0_3 (ji24)).f0), .int .i64 ((rd_T48 l0_3 (ji24)).f1), .int .i64 ((rd_T48 l0_3 (ji24)).f2), .int .i64 ((rd_T48 l0_3 (ji24)).f3)] 48 (0, 0))) := ⟨by (with_reducible repeat (first | refine blk_drewN ?_ _ | refine blk_drew ?_ | refine blk_alloc ?_ _)); refine blk_put (cs := #[.int .i64 ((rd_T48 l0_3 (ji24)).f0), .int .i64 ((rd_T48 l0_3 (ji24)).f1), .int .i64 ((rd_T48 l0_3 (ji24)).f2), .int .i64 0]) ?_ 3 _ rfl; (with_reducible repeat (first | refine blk_drewN ?_ _ | refine blk_drew ?_ | refine blk_alloc ?_ _)); refine blk_put (cs := #[.int .i64 ((rd_T48 l0_3 (ji24)).f0), .int .i64 ((rd_T48 l0_3 (ji24)).f1), .int .i64 0, .int .i64 0]) ?_ 2 _ rfl; (with_reducible repeat (first | refine blk_drewN ?_ _ | refine blk_drew ?_ | refine blk_alloc ?_ _)); refine blk_put (cs := #[.int .i64 ((rd_T48 l0_3 (ji24)).f0), .int .i64 0, .int .i64 0, .int .i64 0]) ?_ 1 _ rfl; (with_reducible repeat (first | refine blk_drewN ?_ _ | refine blk_drew ?_ | refine blk_alloc ?_ _)); refine blk_put (cs := #[.int .i64 0, .int .i64 0, .int .i64 0, .int .i64 0]) ?_ 0 _ rfl; (with_reducible repeat (first | refine blk_drewN ?_ _ | refine blk_drew ?_ | refine blk_alloc ?_ _)); exact BK108.out⟩
            have n2_ : Aside0 (Below w.heap.size w ((((w29.setCell ⟨gb108, 0, none⟩ (.int .i64 ((rd_T48 l0_3 (ji24)).f0))).setCell ⟨gb108, 1, none⟩ (.int .i64 ((rd_T48 l0_3 (ji24)).f1))).setCell ⟨gb108, 2, none⟩ (.int .i64 ((rd_T48 l0_3 (ji24)).f2))).setCell ⟨gb108, 3, none⟩ (.int .i64 ((rd_T48 l0_3 (ji24)).f3)))) := ⟨bl_⟩
            generalize ((((w29.setCell ⟨gb108, 0, none⟩ (.int .i64 ((rd_T48 l0_3 (ji24)).f0))).setCell ⟨gb108, 1, none⟩ (.int .i64 ((rd_T48 l0_3 (ji24)).f1))).setCell ⟨gb108, 2, none⟩ (.int .i64 ((rd_T48 l0_3 (ji24)).f2))).setCell ⟨gb108, 3, none⟩ (.int .i64 ((rd_T48 l0_3 (ji24)).f3))) = w46 at n0_ n1_ n2_ ⊢
            have BK103 := n0_
            have BK108 := n1_
            have HB := n2_
            clear n0_ n1_ n2_
            have n0_ := Aside0.mk (blk_drew BK103.out)
            have n1_ := Aside0.mk (blk_drew BK108.out)
            have n2_ := Aside0.mk (below_drew1 HB.out)
            clear BK103
            clear BK108
            clear HB
            have BK103 := n0_
            have BK108 := n1_
            have HB := n2_
            clear n0_ n1_ n2_
            refine start_ (n := 34) (S := fun w' => w'.cell? ⟨gb108, 0, none⟩ = some (.int .i64 ((rd_T48 l0_3 (ji24)).f0)) ∧ w'.cell? ⟨gb108, 1, none⟩ = some (.int .i64 ((rd_T48 l0_3 (ji24)).f1)) ∧ w'.cell? ⟨gb108, 2, none⟩ = some (.int .i64 ((rd_T48 l0_3 (ji24)).f2)) ∧ w'.cell? ⟨gb108, 3, none⟩ = some (.int .i64 ((rd_T48 l0_3 (ji24)).f3)) ∧ w'.cell? ⟨gb103, 0, none⟩ = some (.int .i64 a0_0) ∧ w'.cell? ⟨gb103, 1, none⟩ = some (.int .i64 a0_1) ∧ w'.cell? ⟨gb103, 2, none⟩ = some (.bool a0_2) ∧ w'.cell? ⟨gb103, 3, none⟩ = some (.slice (some ad107) l0_3.length c0_3) ∧ w'.cell? ⟨gb103, 4, none⟩ = some (.slice A0_4 l0_4.length c0_4) ∧ w'.cell? ⟨gb103, 5, none⟩ = some (.slice A0_5 l0_5.length c0_5)) (ds := []) (bz 34 0) (by kernel_rfl) rfl rfl ⟨(blk_cell BK108.out 0).trans rfl, (blk_cell BK108.out 1).trans rfl, (blk_cell BK108.out 2).trans rfl, (blk_cell BK108.out 3).trans rfl, (blk_cell BK103.out 0).trans rfl, (blk_cell BK103.out 1).trans rfl, (blk_cell BK103.out 2).trans rfl, (blk_cell BK103.out 3).trans rfl, (blk_cell BK103.out 4).trans rfl, (blk_cell BK103.out 5).trans rfl⟩ (fun hHeld => ?_); refine with_tabW dataflow_framed.tab17 dataflow_framed.bits17 (fun HT_ HW_ => ?_)
            generalize w46.drew = w47 at BK103 BK108 HB hHeld ⊢
            refine pu_ 0 50 HT_ ?_
            refine pu_ 2 52 HT_ ?_
            refine tk_ 1 51 HT_ HW_ hHeld ?_ (hy := by rintro w' ⟨s0, s1, s2, s3, s4, s5, s6, s7, s8, s9⟩; go_simp; with_reducible rfl)
            refine pu_ 3 53 HT_ ?_
            refine pu_ 4 54 HT_ ?_
            refine pu_ 5 55 HT_ ?_
            refine tk_ 6 56 HT_ HW_ hHeld ?_ (hy := by rintro w' ⟨s0, s1, s2, s3, s4, s5, s6, s7, s8, s9⟩; go_simp; with_reducible rfl)
            refine tk_ 7 57 HT_ HW_ hHeld ?_ (hy := by rintro w' ⟨s0, s1, s2, s3, s4, s5, s6, s7, s8, s9⟩; go_simp; with_reducible rfl)
            refine on_ 8 (some 58) HT_ (fun K hK => ?_)
            refine gs_ Try.func45 #[.agg #[.int .i64 a0_0, .int .i64 a0_1, .bool a0_2, .slice (some ad107) l0_3.length c0_3, .slice A0_4 l0_4.length c0_4, .slice A0_5 l0_5.length c0_5]] ?_
            with_reducible refine (dataflow_End.calls a0_0 a0_1 a0_2 _ _ l0_3 _ _ l0_4 _ _ l0_5 t109 _ ?side1 ?side2 ?side3 ?side4 ?side5 ?side6 A33.out).mono ?_
            (case side1 => exact CB_ HR0_3)
            (case side2 => exact HC0_3.out)
            (case side3 => exact CB_ HR0_4)
            (case side4 => exact HC0_4.out)
            (case side5 => exact CB_ HR0_5)
            (case side6 => exact HC0_5.out)
            rintro e w48 ⟨rfl, hb⟩
            refine ⟨_, rfl, ?_⟩
            have n0_ := Aside0.mk (blk_below (K_ BK103) hb)
            have n1_ := Aside0.mk (blk_below (K_ BK108) hb)
            have n2_ := Aside0.mk (below_step bl_ hb)
            clear BK103
            clear BK108
            clear HB
            have BK103 := n0_
            have BK108 := n1_
            have HB := n2_
            clear n0_ n1_ n2_
            refine hK.out _ _ ⟨(blk_cell BK108.out 0).trans rfl, (blk_cell BK108.out 1).trans rfl, (blk_cell BK108.out 2).trans rfl, (blk_cell BK108.out 3).trans rfl, (blk_cell BK103.out 0).trans rfl, (blk_cell BK103.out 1).trans rfl, (blk_cell BK103.out 2).trans rfl, (blk_cell BK103.out 3).trans rfl, (blk_cell BK103.out 4).trans rfl, (blk_cell BK103.out 5).trans rfl⟩ (fun hHeld => ?_)
            clear hK K
            refine no_ 58 ?_
            refine pu_ 9 59 HT_ ?_
            refine pu_ 10 60 HT_ ?_
            refine pu_ 11 61 HT_ ?_
            refine pu_ 12 62 HT_ ?_
            refine tk_ 13 63 HT_ HW_ hHeld ?_ (hy := by rintro w' ⟨s0, s1, s2, s3, s4, s5, s6, s7, s8, s9⟩; go_simp; with_reducible rfl)
            refine pu_ 14 64 HT_ ?_
            refine pu_ 15 65 HT_ ?_
            refine pu_ 16 66 HT_ ?_
            refine pn_ 17 67 HT_ ?_
            refine pn_ 18 68 HT_ ?_
            refine pn_ 19 69 HT_ ?_
            refine pn_ 20 70 HT_ ?_
            refine pn_ 21 71 HT_ ?_
            refine pn_ 22 72 HT_ ?_
            refine pn_ 23 73 HT_ ?_
            refine pn_ 24 74 HT_ ?_
            refine pn_ 25 75 HT_ ?_
            refine pn_ 26 76 HT_ ?_
            refine pn_ 27 77 HT_ ?_
            refine pn_ 28 78 HT_ ?_
            refine pn_ 29 79 HT_ ?_
            refine pn_ 30 80 HT_ ?_
            refine pn_ 31 81 HT_ ?_
            refine pn_ 32 82 HT_ ?_
            refine pu_ 33 83 HT_ ?_
            refine done_ (done_of HT_.out (by kernel_rfl)) ?_
            try go_wp2
            go_meet
            case rel => exact ⟨_, (true), (by first | rfl | (simp; done) | (simp [*]; done)), H', ⟨by have := HK1.out; have := HK2.out; first | omega | exact Nat.le_refl _⟩, ⟨K_ BK103⟩, ⟨K_ BK108⟩, ⟨bl_⟩⟩
          rw [if_neg c34] at H
          have c34b0 : (((rd_T48 l0_3 (ji24)).f1) == t109) = false := beq_eq_false_iff_ne.mpr c34
          have c34b1 : (((rd_T48 l0_3 (ji24)).f1) != t109) = true := bne_iff_ne.mpr c34
          have H' := Aside0.mk H
          clear H
          try go_wp2
          have n0_ : Aside0 (((((w29.setCell ⟨gb108, 0, none⟩ (.int .i64 ((rd_T48 l0_3 (ji24)).f0))).setCell ⟨gb108, 1, none⟩ (.int .i64 ((rd_T48 l0_3 (ji24)).f1))).setCell ⟨gb108, 2, none⟩ (.int .i64 ((rd_T48 l0_3 (ji24)).f2))).setCell ⟨gb108, 3, none⟩ (.int .i64 ((rd_T48 l0_3 (ji24)).f3))).heap[gb103]? = some (.cells #[.int .i64 a0_0, .int .i64 a0_1, .bool a0_2, .slice (some ad107) l0_3.length c0_3, .slice A0_4 l0_4.length c0_4, .slice A0_5 l0_5.length c0_5] 26 (0, 0))) := ⟨by (with_reducible repeat (first | refine blk_drewN ?_ _ | refine blk_drew ?_ | refine blk_alloc ?_ _)); refine blk_far ?_ NB103_108.out _; (with_reducible repeat (first | refine blk_drewN ?_ _ | refine blk_drew ?_ | refine blk_alloc ?_ _)); refine blk_far ?_ NB103_108.out _; (with_reducible repeat (first | refine blk_drewN ?_ _ | refine blk_drew ?_ | refine blk_alloc ?_ _)); refine blk_far ?_ NB103_108.out _; (with_reducible repeat (first | refine blk_drewN ?_ _ | refine blk_drew ?_ | refine blk_alloc ?_ _)); refine blk_far ?_ NB103_108.out _; (with_reducible repeat (first | refine blk_drewN ?_ _ | refine blk_drew ?_ | refine blk_alloc ?_ _)); exact BK103.out⟩
          have n1_ : Aside0 (((((w29.setCell ⟨gb108, 0, none⟩ (.int .i64 ((rd_T48 l0_3 (ji24)).f0))).setCell ⟨gb108, 1, none⟩ (.int .i64 ((rd_T48 l0_3 (ji24)).f1))).setCell ⟨gb108, 2, none⟩ (.int .i64 ((rd_T48 l0_3 (ji24)).f2))).setCell ⟨gb108, 3, none⟩ (.int .i64 ((rd_T48 l0_3 (ji24)).f3))).heap[gb108]? = some (.cells #[.int .i64 ((rd_T48 l0_3 (ji24)).f0), .int .i64 ((rd_T48 l0_3 (ji24)).f1), .int .i64 ((rd_T48 l0_3 (ji24)).f2), .int .i64 ((rd_T48 l0_3 (ji24)).f3)] 48 (0, 0))) := ⟨by (with_reducible repeat (first | refine blk_drewN ?_ _ | refine blk_drew ?_ | refine blk_alloc ?_ _)); refine blk_put (cs := #[.int .i64 ((rd_T48 l0_3 (ji24)).f0), .int .i64 ((rd_T48 l0_3 (ji24)).f1), .int .i64 ((rd_T48 l0_3 (ji24)).f2), .int .i64 0]) ?_ 3 _ rfl; (with_reducible repeat (first | refine blk_drewN ?_ _ | refine blk_drew ?_ | refine blk_alloc ?_ _)); refine blk_put (cs := #[.int .i64 ((rd_T48 l0_3 (ji24)).f0), .int .i64 ((rd_T48 l0_3 (ji24)).f1), .int .i64 0, .int .i64 0]) ?_ 2 _ rfl; (with_reducible repeat (first | refine blk_drewN ?_ _ | refine blk_drew ?_ | refine blk_alloc ?_ _)); refine blk_put (cs := #[.int .i64 ((rd_T48 l0_3 (ji24)).f0), .int .i64 0, .int .i64 0, .int .i64 0]) ?_ 1 _ rfl; (with_reducible repeat (first | refine blk_drewN ?_ _ | refine blk_drew ?_ | refine blk_alloc ?_ _)); refine blk_put (cs := #[.int .i64 0, .int .i64 0, .int .i64 0, .int .i64 0]) ?_ 0 _ rfl; (with_reducible repeat (first | refine blk_drewN ?_ _ | refine blk_drew ?_ | refine blk_alloc ?_ _)); exact BK108.out⟩
          have n2_ : Aside0 (Below w.heap.size w ((((w29.setCell ⟨gb108, 0, none⟩ (.int .i64 ((rd_T48 l0_3 (ji24)).f0))).setCell ⟨gb108, 1, none⟩ (.int .i64 ((rd_T48 l0_3 (ji24)).f1))).setCell ⟨gb108, 2, none⟩ (.int .i64 ((rd_T48 l0_3 (ji24)).f2))).setCell ⟨gb108, 3, none⟩ (.int .i64 ((rd_T48 l0_3 (ji24)).f3)))) := ⟨bl_⟩
          generalize ((((w29.setCell ⟨gb108, 0, none⟩ (.int .i64 ((rd_T48 l0_3 (ji24)).f0))).setCell ⟨gb108, 1, none⟩ (.int .i64 ((rd_T48 l0_3 (ji24)).f1))).setCell ⟨gb108, 2, none⟩ (.int .i64 ((rd_T48 l0_3 (ji24)).f2))).setCell ⟨gb108, 3, none⟩ (.int .i64 ((rd_T48 l0_3 (ji24)).f3))) = w49 at n0_ n1_ n2_ ⊢
          have BK103 := n0_
          have BK108 := n1_
          have HB := n2_
          clear n0_ n1_ n2_
          have n0_ := Aside0.mk (blk_drew BK103.out)
          have n1_ := Aside0.mk (blk_drew BK108.out)
          have n2_ := Aside0.mk (below_drew1 HB.out)
          clear BK103
          clear BK108
          clear HB
          have BK103 := n0_
          have BK108 := n1_
          have HB := n2_
          clear n0_ n1_ n2_
          refine start_ (n := 34) (S := fun w' => w'.cell? ⟨gb108, 0, none⟩ = some (.int .i64 ((rd_T48 l0_3 (ji24)).f0)) ∧ w'.cell? ⟨gb108, 1, none⟩ = some (.int .i64 ((rd_T48 l0_3 (ji24)).f1)) ∧ w'.cell? ⟨gb108, 2, none⟩ = some (.int .i64 ((rd_T48 l0_3 (ji24)).f2)) ∧ w'.cell? ⟨gb108, 3, none⟩ = some (.int .i64 ((rd_T48 l0_3 (ji24)).f3)) ∧ w'.cell? ⟨gb103, 0, none⟩ = some (.int .i64 a0_0) ∧ w'.cell? ⟨gb103, 1, none⟩ = some (.int .i64 a0_1) ∧ w'.cell? ⟨gb103, 2, none⟩ = some (.bool a0_2) ∧ w'.cell? ⟨gb103, 3, none⟩ = some (.slice (some ad107) l0_3.length c0_3) ∧ w'.cell? ⟨gb103, 4, none⟩ = some (.slice A0_4 l0_4.length c0_4) ∧ w'.cell? ⟨gb103, 5, none⟩ = some (.slice A0_5 l0_5.length c0_5)) (ds := []) (bz 34 0) (by kernel_rfl) rfl rfl ⟨(blk_cell BK108.out 0).trans rfl, (blk_cell BK108.out 1).trans rfl, (blk_cell BK108.out 2).trans rfl, (blk_cell BK108.out 3).trans rfl, (blk_cell BK103.out 0).trans rfl, (blk_cell BK103.out 1).trans rfl, (blk_cell BK103.out 2).trans rfl, (blk_cell BK103.out 3).trans rfl, (blk_cell BK103.out 4).trans rfl, (blk_cell BK103.out 5).trans rfl⟩ (fun hHeld => ?_); refine with_tabW dataflow_framed.tab17 dataflow_framed.bits17 (fun HT_ HW_ => ?_)
          generalize w49.drew = w50 at BK103 BK108 HB hHeld ⊢
          refine pu_ 0 50 HT_ ?_
          refine pu_ 2 52 HT_ ?_
          refine tk_ 1 51 HT_ HW_ hHeld ?_ (hy := by rintro w' ⟨s0, s1, s2, s3, s4, s5, s6, s7, s8, s9⟩; go_simp; with_reducible rfl)
          refine pu_ 3 53 HT_ ?_
          refine pu_ 4 54 HT_ ?_
          refine pu_ 5 55 HT_ ?_
          refine tk_ 6 56 HT_ HW_ hHeld ?_ (hy := by rintro w' ⟨s0, s1, s2, s3, s4, s5, s6, s7, s8, s9⟩; go_simp; with_reducible rfl)
          refine tk_ 7 57 HT_ HW_ hHeld ?_ (hy := by rintro w' ⟨s0, s1, s2, s3, s4, s5, s6, s7, s8, s9⟩; go_simp; with_reducible rfl)
          refine on_ 8 (some 58) HT_ (fun K hK => ?_)
          refine gs_ Try.func45 #[.agg #[.int .i64 a0_0, .int .i64 a0_1, .bool a0_2, .slice (some ad107) l0_3.length c0_3, .slice A0_4 l0_4.length c0_4, .slice A0_5 l0_5.length c0_5]] ?_
          with_reducible refine (dataflow_End.calls a0_0 a0_1 a0_2 _ _ l0_3 _ _ l0_4 _ _ l0_5 t109 _ ?side1 ?side2 ?side3 ?side4 ?side5 ?side6 A33.out).mono ?_
          (case side1 => exact CB_ HR0_3)
          (case side2 => exact HC0_3.out)
          (case side3 => exact CB_ HR0_4)
          (case side4 => exact HC0_4.out)
          (case side5 => exact CB_ HR0_5)
          (case side6 => exact HC0_5.out)
          rintro e w51 ⟨rfl, hb⟩
          refine ⟨_, rfl, ?_⟩
          have n0_ := Aside0.mk (blk_below (K_ BK103) hb)
          have n1_ := Aside0.mk (blk_below (K_ BK108) hb)
          have n2_ := Aside0.mk (below_step bl_ hb)
          clear BK103
          clear BK108
          clear HB
          have BK103 := n0_
          have BK108 := n1_
          have HB := n2_
          clear n0_ n1_ n2_
          refine hK.out _ _ ⟨(blk_cell BK108.out 0).trans rfl, (blk_cell BK108.out 1).trans rfl, (blk_cell BK108.out 2).trans rfl, (blk_cell BK108.out 3).trans rfl, (blk_cell BK103.out 0).trans rfl, (blk_cell BK103.out 1).trans rfl, (blk_cell BK103.out 2).trans rfl, (blk_cell BK103.out 3).trans rfl, (blk_cell BK103.out 4).trans rfl, (blk_cell BK103.out 5).trans rfl⟩ (fun hHeld => ?_)
          clear hK K
          refine no_ 58 ?_
          refine pu_ 9 59 HT_ ?_
          refine pu_ 10 60 HT_ ?_
          refine pu_ 11 61 HT_ ?_
          refine pn_ 12 62 HT_ ?_
          refine pn_ 13 63 HT_ ?_
          refine pn_ 14 64 HT_ ?_
          refine pu_ 15 65 HT_ ?_
          refine pu_ 16 66 HT_ ?_
          refine pn_ 17 67 HT_ ?_
          refine pn_ 18 68 HT_ ?_
          refine pn_ 19 69 HT_ ?_
          refine pn_ 20 70 HT_ ?_
          refine pn_ 21 71 HT_ ?_
          refine pn_ 22 72 HT_ ?_
          refine pn_ 23 73 HT_ ?_
          refine pn_ 24 74 HT_ ?_
          refine pn_ 25 75 HT_ ?_
          refine pn_ 26 76 HT_ ?_
          refine pn_ 27 77 HT_ ?_
          refine pn_ 28 78 HT_ ?_
          refine pn_ 29 79 HT_ ?_
          refine pn_ 30 80 HT_ ?_
          refine pn_ 31 81 HT_ ?_
          refine pn_ 32 82 HT_ ?_
          refine pu_ 33 83 HT_ ?_
          refine done_ (done_of HT_.out (by kernel_rfl)) ?_
          try go_wp2
          go_meet
          case rel => exact ⟨_, (true), (by first | rfl | (simp; done) | (simp [*]; done)), H', ⟨by have := HK1.out; have := HK2.out; first | omega | exact Nat.le_refl _⟩, ⟨K_ BK103⟩, ⟨K_ BK108⟩, ⟨bl_⟩⟩
        rw [if_neg c32] at H
        have c32b0 : (((rd_T48 l0_3 (ji24)).f0) == x39_2) = false := beq_eq_false_iff_ne.mpr c32
        have c32b1 : (((rd_T48 l0_3 (ji24)).f0) != x39_2) = true := bne_iff_ne.mpr c32
        (first | rw [c32b0] | (simp only [i64_w, i32_w]; rw [c32b0]) | skip)
        have H' := Aside0.mk H
        clear H
        try go_wp2
        have n0_ : Aside0 (((((w29.setCell ⟨gb108, 0, none⟩ (.int .i64 ((rd_T48 l0_3 (ji24)).f0))).setCell ⟨gb108, 1, none⟩ (.int .i64 ((rd_T48 l0_3 (ji24)).f1))).setCell ⟨gb108, 2, none⟩ (.int .i64 ((rd_T48 l0_3 (ji24)).f2))).setCell ⟨gb108, 3, none⟩ (.int .i64 ((rd_T48 l0_3 (ji24)).f3))).heap[gb103]? = some (.cells #[.int .i64 a0_0, .int .i64 a0_1, .bool a0_2, .slice (some ad107) l0_3.length c0_3, .slice A0_4 l0_4.length c0_4, .slice A0_5 l0_5.length c0_5] 26 (0, 0))) := ⟨by (with_reducible repeat (first | refine blk_drewN ?_ _ | refine blk_drew ?_ | refine blk_alloc ?_ _)); refine blk_far ?_ NB103_108.out _; (with_reducible repeat (first | refine blk_drewN ?_ _ | refine blk_drew ?_ | refine blk_alloc ?_ _)); refine blk_far ?_ NB103_108.out _; (with_reducible repeat (first | refine blk_drewN ?_ _ | refine blk_drew ?_ | refine blk_alloc ?_ _)); refine blk_far ?_ NB103_108.out _; (with_reducible repeat (first | refine blk_drewN ?_ _ | refine blk_drew ?_ | refine blk_alloc ?_ _)); refine blk_far ?_ NB103_108.out _; (with_reducible repeat (first | refine blk_drewN ?_ _ | refine blk_drew ?_ | refine blk_alloc ?_ _)); exact BK103.out⟩
        have n1_ : Aside0 (((((w29.setCell ⟨gb108, 0, none⟩ (.int .i64 ((rd_T48 l0_3 (ji24)).f0))).setCell ⟨gb108, 1, none⟩ (.int .i64 ((rd_T48 l0_3 (ji24)).f1))).setCell ⟨gb108, 2, none⟩ (.int .i64 ((rd_T48 l0_3 (ji24)).f2))).setCell ⟨gb108, 3, none⟩ (.int .i64 ((rd_T48 l0_3 (ji24)).f3))).heap[gb108]? = some (.cells #[.int .i64 ((rd_T48 l0_3 (ji24)).f0), .int .i64 ((rd_T48 l0_3 (ji24)).f1), .int .i64 ((rd_T48 l0_3 (ji24)).f2), .int .i64 ((rd_T48 l0_3 (ji24)).f3)] 48 (0, 0))) := ⟨by (with_reducible repeat (first | refine blk_drewN ?_ _ | refine blk_drew ?_ | refine blk_alloc ?_ _)); refine blk_put (cs := #[.int .i64 ((rd_T48 l0_3 (ji24)).f0), .int .i64 ((rd_T48 l0_3 (ji24)).f1), .int .i64 ((rd_T48 l0_3 (ji24)).f2), .int .i64 0]) ?_ 3 _ rfl; (with_reducible repeat (first | refine blk_drewN ?_ _ | refine blk_drew ?_ | refine blk_alloc ?_ _)); refine blk_put (cs := #[.int .i64 ((rd_T48 l0_3 (ji24)).f0), .int .i64 ((rd_T48 l0_3 (ji24)).f1), .int .i64 0, .int .i64 0]) ?_ 2 _ rfl; (with_reducible repeat (first | refine blk_drewN ?_ _ | refine blk_drew ?_ | refine blk_alloc ?_ _)); refine blk_put (cs := #[.int .i64 ((rd_T48 l0_3 (ji24)).f0), .int .i64 0, .int .i64 0, .int .i64 0]) ?_ 1 _ rfl; (with_reducible repeat (first | refine blk_drewN ?_ _ | refine blk_drew ?_ | refine blk_alloc ?_ _)); refine blk_put (cs := #[.int .i64 0, .int .i64 0, .int .i64 0, .int .i64 0]) ?_ 0 _ rfl; (with_reducible repeat (first | refine blk_drewN ?_ _ | refine blk_drew ?_ | refine blk_alloc ?_ _)); exact BK108.out⟩
        have n2_ : Aside0 (Below w.heap.size w ((((w29.setCell ⟨gb108, 0, none⟩ (.int .i64 ((rd_T48 l0_3 (ji24)).f0))).setCell ⟨gb108, 1, none⟩ (.int .i64 ((rd_T48 l0_3 (ji24)).f1))).setCell ⟨gb108, 2, none⟩ (.int .i64 ((rd_T48 l0_3 (ji24)).f2))).setCell ⟨gb108, 3, none⟩ (.int .i64 ((rd_T48 l0_3 (ji24)).f3)))) := ⟨bl_⟩
        generalize ((((w29.setCell ⟨gb108, 0, none⟩ (.int .i64 ((rd_T48 l0_3 (ji24)).f0))).setCell ⟨gb108, 1, none⟩ (.int .i64 ((rd_T48 l0_3 (ji24)).f1))).setCell ⟨gb108, 2, none⟩ (.int .i64 ((rd_T48 l0_3 (ji24)).f2))).setCell ⟨gb108, 3, none⟩ (.int .i64 ((rd_T48 l0_3 (ji24)).f3))) = w52 at n0_ n1_ n2_ ⊢
        have BK103 := n0_
        have BK108 := n1_
        have HB := n2_
        clear n0_ n1_ n2_
        have n0_ := Aside0.mk (blk_drew BK103.out)
        have n1_ := Aside0.mk (blk_drew BK108.out)
        have n2_ := Aside0.mk (below_drew1 HB.out)
        clear BK103
        clear BK108
        clear HB
        have BK103 := n0_
        have BK108 := n1_
        have HB := n2_
        clear n0_ n1_ n2_
        refine start_ (n := 34) (S := fun w' => w'.cell? ⟨gb108, 0, none⟩ = some (.int .i64 ((rd_T48 l0_3 (ji24)).f0)) ∧ w'.cell? ⟨gb108, 1, none⟩ = some (.int .i64 ((rd_T48 l0_3 (ji24)).f1)) ∧ w'.cell? ⟨gb108, 2, none⟩ = some (.int .i64 ((rd_T48 l0_3 (ji24)).f2)) ∧ w'.cell? ⟨gb108, 3, none⟩ = some (.int .i64 ((rd_T48 l0_3 (ji24)).f3))) (ds := []) (bz 34 0) (by kernel_rfl) rfl rfl ⟨(blk_cell BK108.out 0).trans rfl, (blk_cell BK108.out 1).trans rfl, (blk_cell BK108.out 2).trans rfl, (blk_cell BK108.out 3).trans rfl⟩ (fun hHeld => ?_); refine with_tabW dataflow_framed.tab17 dataflow_framed.bits17 (fun HT_ HW_ => ?_)
        generalize w52.drew = w53 at BK103 BK108 HB hHeld ⊢
        refine pu_ 0 50 HT_ ?_
        refine pu_ 2 52 HT_ ?_
        refine tk_ 1 51 HT_ HW_ hHeld ?_ (hy := by rintro w' ⟨s0, s1, s2, s3⟩; go_simp; with_reducible rfl)
        refine pu_ 3 53 HT_ ?_
        refine pu_ 4 54 HT_ ?_
        refine pn_ 5 55 HT_ ?_
        refine pn_ 6 56 HT_ ?_
        refine pn_ 7 57 HT_ ?_
        refine pn_ 8 58 HT_ ?_
        refine pn_ 9 59 HT_ ?_
        refine pu_ 10 60 HT_ ?_
        refine pu_ 11 61 HT_ ?_
        refine pn_ 12 62 HT_ ?_
        refine pn_ 13 63 HT_ ?_
        refine pn_ 14 64 HT_ ?_
        refine pu_ 15 65 HT_ ?_
        refine pu_ 16 66 HT_ ?_
        refine pn_ 17 67 HT_ ?_
        refine pn_ 18 68 HT_ ?_
        refine pn_ 19 69 HT_ ?_
        refine pn_ 20 70 HT_ ?_
        refine pn_ 21 71 HT_ ?_
        refine pn_ 22 72 HT_ ?_
        refine pn_ 23 73 HT_ ?_
        refine pn_ 24 74 HT_ ?_
        refine pn_ 25 75 HT_ ?_
        refine pn_ 26 76 HT_ ?_
        refine pn_ 27 77 HT_ ?_
        refine pn_ 28 78 HT_ ?_
        refine pn_ 29 79 HT_ ?_
        refine pn_ 30 80 HT_ ?_
        refine pn_ 31 81 HT_ ?_
        refine pn_ 32 82 HT_ ?_
        refine pu_ 33 83 HT_ ?_
        refine done_ (done_of HT_.out (by kernel_rfl)) ?_
        try go_wp2
        go_meet
        case rel => exact ⟨_, (true), (by first | rfl | (simp; done) | (simp [*]; done)), H', ⟨by have := HK1.out; have := HK2.out; first | omega | exact Nat.le_refl _⟩, ⟨K_ BK103⟩, ⟨K_ BK108⟩, ⟨bl_⟩⟩
       clear HC27
       obtain ⟨kq, x83_26, rfl, HA, HJ26, BK103, BK108, HB⟩ := hcut
       cases kq with
       | zero => exact absurd HA.out (by simp [dataflow_framed.j3])
       | succ kj26 => ?_
       have H := HA.out
       clear HA
       simp only [dataflow_framed.j3] at H
       by_cases c54 : x83_26 = true
       · subst c54
         have H1 : (some false) = some r := by rw [if_pos rfl] at H; exact H
         clear H
         have H := H1
         clear H1
         obtain rfl := Option.some.inj H
         go_wp2
         go_ret
         exact ⟨by first | rfl | (simp [errW_none, errW_some] <;> rfl) | (simp only [← hji24]; first | rfl | (simp [errW_none, errW_some] <;> rfl)) | (simp [*, errW_none, errW_some] <;> rfl), by repeat (first | (with_reducible first | exact HB.out | apply below_alloc | apply pw_below_drewN | apply below_drew1 | refine below_set ?_ GE103.out | refine below_set ?_ GE108.out) | exact HB.out)⟩
       replace c54 := Bool.eq_false_iff.mpr c54
       subst c54
       have H1 : (dataflow_framed.l1 kj26 t104 t104 (wrap64 (x39_2 + 1)) a0_0 a0_1 a0_2 l0_3 l0_4 l0_5) = some r := by rw [if_neg (show ¬ (false = true) by decide)] at H; exact H
       clear H
       have H := H1
       clear H1
       have H' := Aside0.mk H
       clear H
       go_wp2
       go_roundg kj26
       case measure => have := HK1.out; have := HK2.out; have := HJ26.out; omega
       case rel => exact ⟨(wrap64 (x39_2 + 1)), (by first | rfl | (simp; done) | (simp [*]; done)), H', ⟨by have := HK1.out; have := HK2.out; have := HJ26.out; omega⟩, ⟨K_ BK103⟩, ⟨bl_⟩⟩
     rw [if_neg c26] at H
     exact absurd H (by simp)
   rw [if_neg c25] at H
   exact absurd H (by simp)
 rw [if_neg c23] at H
 have c23b0 : decide (x39_2 < t104) = false := decide_eq_false c23
 clear c23
 obtain rfl := Option.some.inj H
 go_wp2
 go_ret
 exact ⟨by first | rfl | (simp [errW_none, errW_some] <;> rfl) | (simp [*, errW_none, errW_some] <;> rfl), by repeat (first | (with_reducible first | exact HB.out | apply below_alloc | apply pw_below_drewN | apply below_drew1 | refine below_set ?_ GE103.out) | exact HB.out)⟩
end Go.Proofs.Ytpmlbbglekaidaa.PAll
