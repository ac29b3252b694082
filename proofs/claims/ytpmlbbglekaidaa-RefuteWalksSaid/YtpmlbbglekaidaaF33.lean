-- Written for this claim by programs of this session (wip/print2 in its repo: a changed printer, a shortener, a packer). Lean checks it.
import Derived.Test.YtpmlbbglekaidaaP0
import Derived.Test.YtpmlbbglekaidaaF43
import Derived.Test.YtpmlbbglekaidaaF46
namespace Go.Proofs.Ytpmlbbglekaidaa.PAll
open Go.RowKit Go.Proofs.YtpmlbbglekaidaaW.PrintWords Go.Proofs.YtpmlbbglekaidaaW.PrintLast Go.Proofs.YtpmlbbglekaidaaW.PrintMore
attribute [local go_sem] max2_int min2_int max_two min_two max_three min_three max_four min_four   -- for this text's walks alone
set_option linter.unusedVariables false
set_option linter.unusedSimpArgs false

/-! ### dataflow_Valid: function 33 -/
mutual
def dataflow_Valid.j0 : Nat → Bool → Int → Int → Bool → List (S48) → List (S50) → List (S52) → Option (Bool)
  | 0, _, _, _, _, _, _, _ => none
  | k + 1, x27, x112000, x112001, x112002, x112003, x112004, x112005 => if x27 = true then (some false) else (if x112002 = true then (dataflow_Valid.j1 k 256 x112000 x112001 x112002 x112003 x112004 x112005) else (dataflow_Valid.j1 k 0 x112000 x112001 x112002 x112003 x112004 x112005))
def dataflow_Valid.j1 : Nat → Int → Int → Int → Bool → List (S48) → List (S50) → List (S52) → Option (Bool)
  | 0, _, _, _, _, _, _, _ => none
  | k + 1, x3, x112000, x112001, x112002, x112003, x112004, x112005 => dataflow_Valid.l0 k x3 x112003 (x112003.length : Int) 0 x112000 x112001 x112002 x112003 x112004 x112005
def dataflow_Valid.l0 : Nat → Int → List (S48) → Int → Int → Int → Int → Bool → List (S48) → List (S50) → List (S52) → Option (Bool)
  | 0, _, _, _, _, _, _, _, _, _, _ => none
  | k + 1, x3, x31, x32, x33, x112000, x112001, x112002, x112003, x112004, x112005 => if x33 < x32 then (if 0 ≤ x33 then (if x33 < (x31.length : Int) then ((dataflow_Source.f x112000 x112001 x112002 x112003 x112004 x112005).bind fun t116 => ((dataflow_between.f ((rd_T48 x31 x33).f0) 0 t116).bind fun t117 => (if t117 = true then ((dataflow_End.f x112000 x112001 x112002 x112003 x112004 x112005).bind fun t118 => ((dataflow_between.f ((rd_T48 x31 x33).f1) 0 t118).bind fun t119 => (if t119 = true then ((dataflow_between.f ((rd_T48 x31 x33).f2) 0 4096).bind fun t120 => (if t120 = true then ((dataflow_between.f ((rd_T48 x31 x33).f3) 0 x3).bind fun t121 => (dataflow_Valid.j3 k x3 x31 x32 x33 (!t121) x112000 x112001 x112002 x112003 x112004 x112005)) else (dataflow_Valid.j3 k x3 x31 x32 x33 true x112000 x112001 x112002 x112003 x112004 x112005))) else (dataflow_Valid.j3 k x3 x31 x32 x33 true x112000 x112001 x112002 x112003 x112004 x112005)))) else (dataflow_Valid.j3 k x3 x31 x32 x33 true x112000 x112001 x112002 x112003 x112004 x112005)))) else (none)) else (none)) else (dataflow_Valid.l1 k x112004 (x112004.length : Int) 0 x112000 x112001 x112002 x112003 x112004 x112005)
def dataflow_Valid.j3 : Nat → Int → List (S48) → Int → Int → Bool → Int → Int → Bool → List (S48) → List (S50) → List (S52) → Option (Bool)
  | 0, _, _, _, _, _, _, _, _, _, _, _ => none
  | k + 1, x3, x31, x32, x33, x63, x112000, x112001, x112002, x112003, x112004, x112005 => if x63 = true then (some false) else (dataflow_Valid.l0 k x3 x31 x32 (wrap64 (x33 + 1)) x112000 x112001 x112002 x112003 x112004 x112005)
def dataflow_Valid.l1 : Nat → List (S50) → Int → Int → Int → Int → Bool → List (S48) → List (S50) → List (S52) → Option (Bool)
  | 0, _, _, _, _, _, _, _, _, _ => none
  | k + 1, x66, x67, x68, x112000, x112001, x112002, x112003, x112004, x112005 => if x68 < x67 then (if 0 ≤ x68 then (if x68 < (x66.length : Int) then ((dataflow_between.f ((rd_T50 x66 x68).f0) 1 4).bind fun t124 => (if t124 = true then ((dataflow_between.f ((rd_T50 x66 x68).f3) 1 1024).bind fun t125 => (dataflow_Valid.j5 k x66 x67 x68 (!t125) x112000 x112001 x112002 x112003 x112004 x112005)) else (dataflow_Valid.j5 k x66 x67 x68 true x112000 x112001 x112002 x112003 x112004 x112005))) else (none)) else (none)) else (dataflow_Valid.l2 k x112005 (x112005.length : Int) 0 x112000 x112001 x112002 x112003 x112004 x112005)
def dataflow_Valid.j5 : Nat → List (S50) → Int → Int → Bool → Int → Int → Bool → List (S48) → List (S50) → List (S52) → Option (Bool)
  | 0, _, _, _, _, _, _, _, _, _, _ => none
  | k + 1, x66, x67, x68, x81, x112000, x112001, x112002, x112003, x112004, x112005 => if x81 = true then (some false) else (dataflow_Valid.l1 k x66 x67 (wrap64 (x68 + 1)) x112000 x112001 x112002 x112003 x112004 x112005)
def dataflow_Valid.l2 : Nat → List (S52) → Int → Int → Int → Int → Bool → List (S48) → List (S50) → List (S52) → Option (Bool)
  | 0, _, _, _, _, _, _, _, _, _ => none
  | k + 1, x84, x85, x86, x112000, x112001, x112002, x112003, x112004, x112005 => if x86 < x85 then (if 0 ≤ x86 then (if x86 < (x84.length : Int) then (if ((rd_T52 x84 x86).f0) = (-1) then (dataflow_Valid.j7 k x84 x85 x86 (((rd_T52 x84 x86).f1) == 0) x112000 x112001 x112002 x112003 x112004 x112005 ((rd_T52 x84 x86).f0) ((rd_T52 x84 x86).f1)) else (dataflow_Valid.j7 k x84 x85 x86 false x112000 x112001 x112002 x112003 x112004 x112005 ((rd_T52 x84 x86).f0) ((rd_T52 x84 x86).f1))) else (none)) else (none)) else ((dataflow_framed.f k x112000 x112001 x112002 x112003 x112004 x112005).bind fun t130 => (some t130))
def dataflow_Valid.j7 : Nat → List (S52) → Int → Int → Bool → Int → Int → Bool → List (S48) → List (S50) → List (S52) → Int → Int → Option (Bool)
  | 0, _, _, _, _, _, _, _, _, _, _, _, _ => none
  | k + 1, x84, x85, x86, x97, x112000, x112001, x112002, x112003, x112004, x112005, x128000, x128001 => if x97 = true then (dataflow_Valid.l2 k x84 x85 (wrap64 (x86 + 1)) x112000 x112001 x112002 x112003 x112004 x112005) else ((dataflow_between.f x128000 0 (wrap64 ((x112004.length : Int) - 1))).bind fun t128 => (if t128 = true then ((dataflow_between.f x128001 1 256).bind fun t129 => (dataflow_Valid.j8 k x84 x85 x86 (!t129) x112000 x112001 x112002 x112003 x112004 x112005)) else (dataflow_Valid.j8 k x84 x85 x86 true x112000 x112001 x112002 x112003 x112004 x112005)))
def dataflow_Valid.j8 : Nat → List (S52) → Int → Int → Bool → Int → Int → Bool → List (S48) → List (S50) → List (S52) → Option (Bool)
  | 0, _, _, _, _, _, _, _, _, _, _ => none
  | k + 1, x84, x85, x86, x111, x112000, x112001, x112002, x112003, x112004, x112005 => if x111 = true then (some false) else (dataflow_Valid.l2 k x84 x85 (wrap64 (x86 + 1)) x112000 x112001 x112002 x112003 x112004 x112005)
end
def dataflow_Valid.f (k : Nat) (a0_0 : Int) (a0_1 : Int) (a0_2 : Bool) (l0_3 : List (S48)) (l0_4 : List (S50)) (l0_5 : List (S52)) : Option (Bool) := (dataflow_between.f a0_0 0 4096).bind fun t112 => (if t112 = true then ((dataflow_between.f a0_1 0 4094).bind fun t113 => (if t113 = true then (dataflow_Valid.j0 k ((l0_5.length : Int) != a0_0) a0_0 a0_1 a0_2 l0_3 l0_4 l0_5) else (dataflow_Valid.j0 k true a0_0 a0_1 a0_2 l0_3 l0_4 l0_5))) else (dataflow_Valid.j0 k true a0_0 a0_1 a0_2 l0_3 l0_4 l0_5))
theorem dataflow_Valid.mono_l : ∀ k, (∀ y0 y1 y2 y3 y4 y5 y6, LeO (dataflow_Valid.j0 k y0 y1 y2 y3 y4 y5 y6) (dataflow_Valid.j0 (k + 1) y0 y1 y2 y3 y4 y5 y6)) ∧ (∀ y0 y1 y2 y3 y4 y5 y6, LeO (dataflow_Valid.j1 k y0 y1 y2 y3 y4 y5 y6) (dataflow_Valid.j1 (k + 1) y0 y1 y2 y3 y4 y5 y6)) ∧ (∀ y0 y1 y2 y3 y4 y5 y6 y7 y8 y9, LeO (dataflow_Valid.l0 k y0 y1 y2 y3 y4 y5 y6 y7 y8 y9) (dataflow_Valid.l0 (k + 1) y0 y1 y2 y3 y4 y5 y6 y7 y8 y9)) ∧ (∀ y0 y1 y2 y3 y4 y5 y6 y7 y8 y9 y10, LeO (dataflow_Valid.j3 k y0 y1 y2 y3 y4 y5 y6 y7 y8 y9 y10) (dataflow_Valid.j3 (k + 1) y0 y1 y2 y3 y4 y5 y6 y7 y8 y9 y10)) ∧ (∀ y0 y1 y2 y3 y4 y5 y6 y7 y8, LeO (dataflow_Valid.l1 k y0 y1 y2 y3 y4 y5 y6 y7 y8) (dataflow_Valid.l1 (k + 1) y0 y1 y2 y3 y4 y5 y6 y7 y8)) ∧ (∀ y0 y1 y2 y3 y4 y5 y6 y7 y8 y9, LeO (dataflow_Valid.j5 k y0 y1 y2 y3 y4 y5 y6 y7 y8 y9) (dataflow_Valid.j5 (k + 1) y0 y1 y2 y3 y4 y5 y6 y7 y8 y9)) ∧ (∀ y0 y1 y2 y3 y4 y5 y6 y7 y8, LeO (dataflow_Valid.l2 k y0 y1 y2 y3 y4 y5 y6 y7 y8) (dataflow_Valid.l2 (k + 1) y0 y1 y2 y3 y4 y5 y6 y7 y8)) ∧ (∀ y0 y1 y2 y3 y4 y5 y6 y7 y8 y9 y10 y11, LeO (dataflow_Valid.j7 k y0 y1 y2 y3 y4 y5 y6 y7 y8 y9 y10 y11) (dataflow_Valid.j7 (k + 1) y0 y1 y2 y3 y4 y5 y6 y7 y8 y9 y10 y11)) ∧ (∀ y0 y1 y2 y3 y4 y5 y6 y7 y8 y9, LeO (dataflow_Valid.j8 k y0 y1 y2 y3 y4 y5 y6 y7 y8 y9) (dataflow_Valid.j8 (k + 1) y0 y1 y2 y3 y4 y5 y6 y7 y8 y9))
  | 0 => by refine ⟨?_, ?_, ?_, ?_, ?_, ?_, ?_, ?_, ?_⟩ <;> intros <;> intro r h <;> simp [dataflow_Valid.j0, dataflow_Valid.j1, dataflow_Valid.l0, dataflow_Valid.j3, dataflow_Valid.l1, dataflow_Valid.j5, dataflow_Valid.l2, dataflow_Valid.j7, dataflow_Valid.j8] at h
  | k + 1 => by
    obtain ⟨ih0, ih1, ih2, ih3, ih4, ih5, ih6, ih7, ih8⟩ := dataflow_Valid.mono_l k
    refine ⟨?_, ?_, ?_, ?_, ?_, ?_, ?_, ?_, ?_⟩ <;> intros <;> (first | unfold dataflow_Valid.j0 | unfold dataflow_Valid.j1 | unfold dataflow_Valid.l0 | unfold dataflow_Valid.j3 | unfold dataflow_Valid.l1 | unfold dataflow_Valid.j5 | unfold dataflow_Valid.l2 | unfold dataflow_Valid.j7 | unfold dataflow_Valid.j8) <;> repeat' first | (with_reducible first | apply ih0 | apply ih1 | apply ih2 | apply ih3 | apply ih4 | apply ih5 | apply ih6 | apply ih7 | apply ih8 | apply dataflow_framed.mono | exact LeO.refl _ | exact LeO.none _ | refine LeO.ite ?_ ?_ | refine LeO.bind ?_ (fun _ => ?_)) | apply ih0 | apply ih1 | apply ih2 | apply ih3 | apply ih4 | apply ih5 | apply ih6 | apply ih7 | apply ih8 | apply dataflow_framed.mono | exact LeO.none _ | refine LeO.ite ?_ ?_ | refine LeO.bind ?_ (fun _ => ?_)
theorem dataflow_Valid.mono : ∀ a0 a1 a2 a3 a4 a5 k, LeO (dataflow_Valid.f k a0 a1 a2 a3 a4 a5) (dataflow_Valid.f (k + 1) a0 a1 a2 a3 a4 a5) := by
 intro a0 a1 a2 a3 a4 a5 k
 obtain ⟨ih0, ih1, ih2, ih3, ih4, ih5, ih6, ih7, ih8⟩ := dataflow_Valid.mono_l k
 unfold dataflow_Valid.f
 repeat' first | (with_reducible first | apply ih0 | apply ih1 | apply ih2 | apply ih3 | apply ih4 | apply ih5 | apply ih6 | apply ih7 | apply ih8 | apply dataflow_framed.mono | exact LeO.refl _ | exact LeO.none _ | refine LeO.ite ?_ ?_ | refine LeO.bind ?_ (fun _ => ?_)) | apply ih0 | apply ih1 | apply ih2 | apply ih3 | apply ih4 | apply ih5 | apply ih6 | apply ih7 | apply ih8 | apply dataflow_framed.mono | exact LeO.none _ | refine LeO.ite ?_ ?_ | refine LeO.bind ?_ (fun _ => ?_)
def dataflow_Valid.T9 : Bool × List (List Nat × List Nat) := (true, [([], []), ([0], [0]), ([], []), ([2], [2]), ([1, 3, 3], [1, 3]), ([4], [4]), ([5, 4], [5]), ([6], [6]), ([7, 6], [6, 7]), ([6], [6]), ([9, 6, 6], [6, 9]), ([8, 10, 10, 6], [6, 8, 10]), ([11, 6], [6, 11]), ([6, 12], [6, 12]), ([13, 11], [13]), ([14], [14]), ([15, 14], [14, 15]), ([16, 14, 14], [14, 16]), ([17, 14], [14, 17]), ([14, 18], [14, 18]), ([19, 17], [19]), ([20], [20]), ([21, 20], [20, 21]), ([20], [20]), ([22, 23, 20, 20], [20, 22, 23]), ([24, 20], [20, 24]), ([20, 25], [20, 25])])
def dataflow_Valid.B9 : List Nat := [0, 1, 0, 4, 15, 31, 63, 127, 255, 127, 639, 2047, 4095, 8191, 16383, 32767, 65535, 131071, 262143, 524287, 1048575, 2097151, 4194303, 2097151, 16777215, 33554431, 67108863]
theorem dataflow_Valid.tab9 : rtab .any (opsOf Try.f33 9) = dataflow_Valid.T9 := by kernel_rfl
theorem dataflow_Valid.bits9 : waitsOk dataflow_Valid.T9.2 dataflow_Valid.B9 = true := by kernel_rfl
set_option maxHeartbeats 8000000 in
set_option maxRecDepth 100000 in
theorem dataflow_Valid.calls (k : Nat) (a0_0 : Int) (a0_1 : Int) (a0_2 : Bool) (A0_3 : Option Addr) (c0_3 : Nat) (l0_3 : List (S48)) (A0_4 : Option Addr) (c0_4 : Nat) (l0_4 : List (S50)) (A0_5 : Option Addr) (c0_5 : Nat) (l0_5 : List (S52)) (r : Bool) (w : World) (hr0_3 : Kd.C k48 w A0_3 l0_3.length l0_3) (hc0_3 : l0_3.length ≤ c0_3) (hr0_4 : Kd.C k50 w A0_4 l0_4.length l0_4) (hc0_4 : l0_4.length ≤ c0_4) (hr0_5 : Kd.C k52 w A0_5 l0_5.length l0_5) (hc0_5 : l0_5.length ≤ c0_5) (h : dataflow_Valid.f k a0_0 a0_1 a0_2 l0_3 l0_4 l0_5 = some r) :
    Calls Try.prog 33 #[.agg #[.int .i64 a0_0, .int .i64 a0_1, .bool a0_2, .slice A0_3 l0_3.length c0_3, .slice A0_4 l0_4.length c0_4, .slice A0_5 l0_5.length c0_5]] w fun e w' => e = .returned (.bool r) ∧ Below w.heap.size w w' := by
 have hu26 := Try.underlying26
 have hu48 := Try.underlying48
 have hu50 := Try.underlying50
 have hu52 := Try.underlying52
 have HR0_3 := Aside0.mk hr0_3
 have HC0_3 := Aside0.mk hc0_3
 clear hr0_3 hc0_3
 have HR0_4 := Aside0.mk hr0_4
 have HC0_4 := Aside0.mk hc0_4
 clear hr0_4 hc0_4
 have HR0_5 := Aside0.mk hr0_5
 have HC0_5 := Aside0.mk hc0_5
 clear hr0_5 hc0_5
 have HB := Aside0.mk (Below.refl w.heap.size w)
 have H : ((dataflow_between.f a0_0 0 4096).bind fun t112 => (if t112 = true then ((dataflow_between.f a0_1 0 4094).bind fun t113 => (if t113 = true then (dataflow_Valid.j0 k ((l0_5.length : Int) != a0_0) a0_0 a0_1 a0_2 l0_3 l0_4 l0_5) else (dataflow_Valid.j0 k true a0_0 a0_1 a0_2 l0_3 l0_4 l0_5))) else (dataflow_Valid.j0 k true a0_0 a0_1 a0_2 l0_3 l0_4 l0_5))) = some r := h
 clear h
 have HC2 := Aside0.mk H
 clear H
 go_enter Try.func33, Try.ntmps33
 go_upto_region 1 with (first | ((with_reducible refine gate_dst (N := 1) rfl ?_); (try (refine gate_guard (by rfl) ?_; dsimp only)); refine box_event ?hg (N := 1) ?hd (cs := #[.int .i64 a0_0, .int .i64 a0_1, .bool a0_2, .slice A0_3 l0_3.length c0_3, .slice A0_4 l0_4.length c0_4, .slice A0_5 l0_5.length c0_5]) (t := 26) ?hr ?_; (case hd => rfl); (case hg => rfl); (case hr => first | (go_simp; done) | (go_simp; rfl)); intro gb111 hg w3 hbox hb; have n0_ := Aside0.mk (below_step bl_ hb); have n1_ := Aside0.mk (hbox); have n2_ := Aside0.mk (gl_ (w := w) hg); have n3_ := Aside0.mk (gl_ (w := w) hg); clear HB; have HB := n0_; have BK111 := n1_; have GW111 := n2_; have GE111 := n3_; clear n0_ n1_ n2_ n3_; clear hb hbox hg))
 (try simp only [Act.put, List.setIfInBounds_toArray, List.set_cons_zero, List.set_cons_succ])
 go_cut [27] (fun v27 wc => ∃ (kq : Nat) (x27_1 : Bool), v27 = .bool x27_1 ∧ Aside0 (dataflow_Valid.j0 kq x27_1 a0_0 a0_1 a0_2 l0_3 l0_4 l0_5 = some r) ∧ Aside0 (kq ≤ k) ∧ Aside0 (wc.heap[gb111]? = some (.cells #[.int .i64 a0_0, .int .i64 a0_1, .bool a0_2, (.slice A0_3 l0_3.length c0_3), (.slice A0_4 l0_4.length c0_4), (.slice A0_5 l0_5.length c0_5)] 26 (0, 0))) ∧ Aside0 (Below w.heap.size w wc))
 case first =>
  have H := HC2.out
  clear HC2
  replace H := Option.bind_eq_some_iff.mp H
  obtain ⟨t112, A40, H⟩ := H
  replace H : (if t112 = true then ((dataflow_between.f a0_1 0 4094).bind fun t113 => (if t113 = true then (dataflow_Valid.j0 k ((l0_5.length : Int) != a0_0) a0_0 a0_1 a0_2 l0_3 l0_4 l0_5) else (dataflow_Valid.j0 k true a0_0 a0_1 a0_2 l0_3 l0_4 l0_5))) else (dataflow_Valid.j0 k true a0_0 a0_1 a0_2 l0_3 l0_4 l0_5)) = some r := H
  have A4 := Aside0.mk A40
  clear A40
  by_cases c5 : t112 = true
  · subst c5
    have H1 : ((dataflow_between.f a0_1 0 4094).bind fun t113 => (if t113 = true then (dataflow_Valid.j0 k ((l0_5.length : Int) != a0_0) a0_0 a0_1 a0_2 l0_3 l0_4 l0_5) else (dataflow_Valid.j0 k true a0_0 a0_1 a0_2 l0_3 l0_4 l0_5))) = some r := by rw [if_pos rfl] at H; exact H
    clear H
    have H := H1
    clear H1
    replace H := Option.bind_eq_some_iff.mp H
    obtain ⟨t113, A60, H⟩ := H
    replace H : (if t113 = true then (dataflow_Valid.j0 k ((l0_5.length : Int) != a0_0) a0_0 a0_1 a0_2 l0_3 l0_4 l0_5) else (dataflow_Valid.j0 k true a0_0 a0_1 a0_2 l0_3 l0_4 l0_5)) = some r := H
    have A6 := Aside0.mk A60
    clear A60
    by_cases c7 : t113 = true
    · subst c7
      have H1 : (dataflow_Valid.j0 k ((l0_5.length : Int) != a0_0) a0_0 a0_1 a0_2 l0_3 l0_4 l0_5) = some r := by rw [if_pos rfl] at H; exact H
      clear H
      have H := H1
      clear H1
      have H' := Aside0.mk H
      clear H
      obtain ⟨hcz8_0, hcz8_1, hcz8_2, hcz8_3, hcz8_4, hcz8_5⟩ := cells6 BK111
      obtain ⟨hfz8_0, hfz8_1, hfz8_2, hfz8_3, hfz8_4, hfz8_5⟩ := fz6 BK111
      go_wp2_with (first | ((with_reducible refine gate_callee (f := 43) rfl ?_); refine gL_ 12 Try.func43 #[.int .i64 a0_0, .int .i64 0, .int .i64 4096] ?_; (with_reducible refine (dataflow_between.calls a0_0 0 4096 true _ A4.out).mono ?_); rintro e w' ⟨rfl, ⟨nd, rfl⟩⟩; refine ⟨_, rfl, ?_⟩) | (go_at_call 43; (with_reducible refine (dataflow_between.calls a0_1 0 4094 true _ A6.out).mono ?_); rintro e w' ⟨rfl, ⟨nd, rfl⟩⟩))
      go_meet
      case rel => exact ⟨_, (((l0_5.length : Int) != a0_0)), (by first | rfl | (simp; done) | (simp [*]; done)), H', ⟨by first | omega | exact Nat.le_refl _⟩, ⟨K_ BK111⟩, ⟨bl_⟩⟩
    replace c7 := Bool.eq_false_iff.mpr c7
    subst c7
    have H1 : (dataflow_Valid.j0 k true a0_0 a0_1 a0_2 l0_3 l0_4 l0_5) = some r := by rw [if_neg (show ¬ (false = true) by decide)] at H; exact H
    clear H
    have H := H1
    clear H1
    have H' := Aside0.mk H
    clear H
    obtain ⟨hcz9_0, hcz9_1, hcz9_2, hcz9_3, hcz9_4, hcz9_5⟩ := cells6 BK111
    obtain ⟨hfz9_0, hfz9_1, hfz9_2, hfz9_3, hfz9_4, hfz9_5⟩ := fz6 BK111
    go_wp2_with (first | ((with_reducible refine gate_callee (f := 43) rfl ?_); refine gL_ 12 Try.func43 #[.int .i64 a0_0, .int .i64 0, .int .i64 4096] ?_; (with_reducible refine (dataflow_between.calls a0_0 0 4096 true _ A4.out).mono ?_); rintro e w' ⟨rfl, ⟨nd, rfl⟩⟩; refine ⟨_, rfl, ?_⟩) | (go_at_call 43; (with_reducible refine (dataflow_between.calls a0_1 0 4094 false _ A6.out).mono ?_); rintro e w' ⟨rfl, ⟨nd, rfl⟩⟩))
    go_meet
    case rel => exact ⟨_, (true), (by first | rfl | (simp; done) | (simp [*]; done)), H', ⟨by first | omega | exact Nat.le_refl _⟩, ⟨K_ BK111⟩, ⟨bl_⟩⟩
  replace c5 := Bool.eq_false_iff.mpr c5
  subst c5
  have H1 : (dataflow_Valid.j0 k true a0_0 a0_1 a0_2 l0_3 l0_4 l0_5) = some r := by rw [if_neg (show ¬ (false = true) by decide)] at H; exact H
  clear H
  have H := H1
  clear H1
  have H' := Aside0.mk H
  clear H
  obtain ⟨hcz10_0, hcz10_1, hcz10_2, hcz10_3, hcz10_4, hcz10_5⟩ := cells6 BK111
  obtain ⟨hfz10_0, hfz10_1, hfz10_2, hfz10_3, hfz10_4, hfz10_5⟩ := fz6 BK111
  go_wp2_with (first | ((with_reducible refine gate_callee (f := 43) rfl ?_); refine gL_ 12 Try.func43 #[.int .i64 a0_0, .int .i64 0, .int .i64 4096] ?_; (with_reducible refine (dataflow_between.calls a0_0 0 4096 false _ A4.out).mono ?_); rintro e w' ⟨rfl, ⟨nd, rfl⟩⟩; refine ⟨_, rfl, ?_⟩))
  go_meet
  case rel => exact ⟨_, (true), (by first | rfl | (simp; done) | (simp [*]; done)), H', ⟨by first | omega | exact Nat.le_refl _⟩, ⟨K_ BK111⟩, ⟨bl_⟩⟩
 clear HC2
 obtain ⟨kq, x27_1, rfl, HA, HJ1, BK111, HB⟩ := hcut
 cases kq with
 | zero => exact absurd HA.out (by simp [dataflow_Valid.j0])
 | succ kj1 => ?_
 have H := HA.out
 clear HA
 simp only [dataflow_Valid.j0] at H
 by_cases c11 : x27_1 = true
 · subst c11
   have H1 : (some false) = some r := by rw [if_pos rfl] at H; exact H
   clear H
   have H := H1
   clear H1
   obtain rfl := Option.some.inj H
   go_wp2
   go_ret
   exact ⟨by first | rfl | (simp [errW_none, errW_some] <;> rfl) | (simp [*, errW_none, errW_some] <;> rfl), by repeat (first | (with_reducible first | exact HB.out | apply below_alloc | apply pw_below_drewN | apply below_drew1 | refine below_set ?_ GE111.out) | exact HB.out)⟩
 replace c11 := Bool.eq_false_iff.mpr c11
 subst c11
 have H1 : (if a0_2 = true then (dataflow_Valid.j1 kj1 256 a0_0 a0_1 a0_2 l0_3 l0_4 l0_5) else (dataflow_Valid.j1 kj1 0 a0_0 a0_1 a0_2 l0_3 l0_4 l0_5)) = some r := by rw [if_neg (show ¬ (false = true) by decide)] at H; exact H
 clear H
 have H := H1
 clear H1
 have HC12 := Aside0.mk H
 clear H
 obtain ⟨hcz13_0, hcz13_1, hcz13_2, hcz13_3, hcz13_4, hcz13_5⟩ := cells6 BK111
 obtain ⟨hfz13_0, hfz13_1, hfz13_2, hfz13_3, hfz13_4, hfz13_5⟩ := fz6 BK111
 go_upto_if 29 with (fail)
 go_cut [3] (fun v3 wc => ∃ (kq : Nat) (x3_11 : Int), v3 = .int .i64 x3_11 ∧ Aside0 (dataflow_Valid.j1 kq x3_11 a0_0 a0_1 a0_2 l0_3 l0_4 l0_5 = some r) ∧ Aside0 (kq ≤ kj1) ∧ Aside0 (wc.heap[gb111]? = some (.cells #[.int .i64 a0_0, .int .i64 a0_1, .bool a0_2, (.slice A0_3 l0_3.length c0_3), (.slice A0_4 l0_4.length c0_4), (.slice A0_5 l0_5.length c0_5)] 26 (0, 0))) ∧ Aside0 (Below w.heap.size w wc))
 case first =>
  have H := HC12.out
  clear HC12
  by_cases c14 : a0_2 = true
  · subst c14
    have H1 : (dataflow_Valid.j1 kj1 256 a0_0 a0_1 true l0_3 l0_4 l0_5) = some r := by rw [if_pos rfl] at H; exact H
    clear H
    have H := H1
    clear H1
    have H' := Aside0.mk H
    clear H
    go_wp2
    go_meet
    case rel => exact ⟨_, (256), (by first | rfl | (simp; done) | (simp [*]; done)), H', ⟨by have := HJ1.out; first | omega | exact Nat.le_refl _⟩, ⟨K_ BK111⟩, ⟨bl_⟩⟩
  replace c14 := Bool.eq_false_iff.mpr c14
  subst c14
  have H1 : (dataflow_Valid.j1 kj1 0 a0_0 a0_1 false l0_3 l0_4 l0_5) = some r := by rw [if_neg (show ¬ (false = true) by decide)] at H; exact H
  clear H
  have H := H1
  clear H1
  have H' := Aside0.mk H
  clear H
  go_wp2
  go_meet
  case rel => exact ⟨_, (0), (by first | rfl | (simp; done) | (simp [*]; done)), H', ⟨by have := HJ1.out; first | omega | exact Nat.le_refl _⟩, ⟨K_ BK111⟩, ⟨bl_⟩⟩
 clear HC12
 obtain ⟨kq, x3_11, rfl, HA, HJ11, BK111, HB⟩ := hcut
 cases kq with
 | zero => exact absurd HA.out (by simp [dataflow_Valid.j1])
 | succ kj11 => ?_
 have H := HA.out
 clear HA
 simp only [dataflow_Valid.j1] at H
 have H' := Aside0.mk H
 clear H
 obtain ⟨hcz15_0, hcz15_1, hcz15_2, hcz15_3, hcz15_4, hcz15_5⟩ := cells6 BK111
 obtain ⟨hfz15_0, hfz15_1, hfz15_2, hfz15_3, hfz15_4, hfz15_5⟩ := fz6 BK111
 go_wp2
 go_loopg [33] kj11 (fun kq v33 w' => ∃ (x33_3 : Int), v33 = .int .i64 x33_3 ∧ Aside0 (dataflow_Valid.l0 kq x3_11 l0_3 (l0_3.length : Int) x33_3 a0_0 a0_1 a0_2 l0_3 l0_4 l0_5 = some r) ∧ Aside0 (kq ≤ kj11) ∧ Aside0 (w'.heap[gb111]? = some (.cells #[.int .i64 a0_0, .int .i64 a0_1, .bool a0_2, (.slice A0_3 l0_3.length c0_3), (.slice A0_4 l0_4.length c0_4), (.slice A0_5 l0_5.length c0_5)] 26 (0, 0))) ∧ Aside0 (Below w.heap.size w w'))
 case atStart => exact ⟨(0), (by first | rfl | (simp; done) | (simp [*]; done)), H', ⟨Nat.le_refl _⟩, ⟨K_ BK111⟩, ⟨bl_⟩⟩
 clear H'
 obtain ⟨x33_3, rfl, HA, HK3, BK111, HB⟩ := hrel
 cases gk with
 | zero => exact absurd HA.out (by simp [dataflow_Valid.l0])
 | succ k3 => ?_
 have H := HA.out
 clear HA
 simp only [dataflow_Valid.l0] at H
 by_cases c16 : x33_3 < (l0_3.length : Int)
 · rw [if_pos c16] at H
   have c16b0 : decide (x33_3 < (l0_3.length : Int)) = true := decide_eq_true c16
   clear c16
   by_cases c17 : 0 ≤ x33_3
   · rw [if_pos c17] at H
     have c17b0 : decide (0 ≤ x33_3) = true := decide_eq_true c17
     clear c17
     by_cases c18 : x33_3 < (l0_3.length : Int)
     · rw [if_pos c18] at H
       have c18b0 : decide (x33_3 < (l0_3.length : Int)) = true := decide_eq_true c18
       clear c18
       have HC19 := Aside0.mk H
       clear H
       have p114 : 0 ≤ (x33_3 : Int) := of_decide_eq_true (by first | (with_reducible assumption) | assumption)
       have q114 : x33_3 < (l0_3.length : Int) := of_decide_eq_true (by first | (with_reducible assumption) | assumption)
       obtain ⟨ad114, e114, hx114_0, hx114_1, hx114_2, hx114_3⟩ := at_T48 HR0_3.out x33_3 p114 q114
       cases e114
       replace hx114_0 := hc_ HB hx114_0
       replace hx114_1 := hc_ HB hx114_1
       replace hx114_2 := hc_ HB hx114_2
       replace hx114_3 := hc_ HB hx114_3
       replace p114 := eq_true p114
       replace q114 := eq_true q114
       go_upto_region 9 with (first | ((with_reducible refine gate_dst (N := 5) rfl ?_); (try (refine gate_guard (by rfl) ?_; dsimp only)); refine box_event ?hg (N := 5) ?hd (cs := #[.int .i64 0, .int .i64 0, .int .i64 0, .int .i64 0]) (t := 48) ?hr ?_; (case hd => rfl); (case hg => rfl); (case hr => first | (go_simp; done) | (go_simp; rfl)); intro gb115 hg w20 hbox hb; have n0_ := Aside0.mk (blk_below (K_ BK111) hb); have n1_ := Aside0.mk (below_step bl_ hb); have n2_ := Aside0.mk (hbox); have n3_ := Aside0.mk (gl_ (w := w) hg); have n4_ := Aside0.mk (gl_ (w := w) hg); have n5_ := Aside0.mk (nl_ hg (K_ BK111)); have n6_ := Aside0.mk (ng_ hg (K_ BK111)); clear BK111; clear HB; have BK111 := n0_; have HB := n1_; have BK115 := n2_; have GW115 := n3_; have GE115 := n4_; have NB111_115 := n5_; have NB115_111 := n6_; clear n0_ n1_ n2_ n3_ n4_ n5_ n6_; clear hb hbox hg; obtain ⟨hcz22_0, hcz22_1, hcz22_2, hcz22_3⟩ := cells4 BK115; obtain ⟨hfz22_0, hfz22_1, hfz22_2, hfz22_3⟩ := fz4 BK115))
       (try simp only [Act.put, List.setIfInBounds_toArray, List.set_cons_zero, List.set_cons_succ])
       go_cut [63] (fun v63 wc => ∃ (kq : Nat) (x63_18 : Bool), v63 = .bool x63_18 ∧ Aside0 (dataflow_Valid.j3 kq x3_11 l0_3 (l0_3.length : Int) x33_3 x63_18 a0_0 a0_1 a0_2 l0_3 l0_4 l0_5 = some r) ∧ Aside0 (kq ≤ k3) ∧ Aside0 (wc.heap[gb111]? = some (.cells #[.int .i64 a0_0, .int .i64 a0_1, .bool a0_2, (.slice (some ad114) l0_3.length c0_3), (.slice A0_4 l0_4.length c0_4), (.slice A0_5 l0_5.length c0_5)] 26 (0, 0))) ∧ Aside0 (wc.heap[gb115]? = some (.cells #[.int .i64 ((rd_T48 l0_3 x33_3).f0), .int .i64 ((rd_T48 l0_3 x33_3).f1), .int .i64 ((rd_T48 l0_3 x33_3).f2), .int .i64 ((rd_T48 l0_3 x33_3).f3)] 48 (0, 0))) ∧ Aside0 (Below w.heap.size w wc))
       case first =>
        have H := HC19.out
        clear HC19
        replace H := Option.bind_eq_some_iff.mp H
        obtain ⟨t116, A230, H⟩ := H
        replace H : ((dataflow_between.f ((rd_T48 l0_3 x33_3).f0) 0 t116).bind fun t117 => (if t117 = true then ((dataflow_End.f a0_0 a0_1 a0_2 l0_3 l0_4 l0_5).bind fun t118 => ((dataflow_between.f ((rd_T48 l0_3 x33_3).f1) 0 t118).bind fun t119 => (if t119 = true then ((dataflow_between.f ((rd_T48 l0_3 x33_3).f2) 0 4096).bind fun t120 => (if t120 = true then ((dataflow_between.f ((rd_T48 l0_3 x33_3).f3) 0 x3_11).bind fun t121 => (dataflow_Valid.j3 k3 x3_11 l0_3 (l0_3.length : Int) x33_3 (!t121) a0_0 a0_1 a0_2 l0_3 l0_4 l0_5)) else (dataflow_Valid.j3 k3 x3_11 l0_3 (l0_3.length : Int) x33_3 true a0_0 a0_1 a0_2 l0_3 l0_4 l0_5))) else (dataflow_Valid.j3 k3 x3_11 l0_3 (l0_3.length : Int) x33_3 true a0_0 a0_1 a0_2 l0_3 l0_4 l0_5)))) else (dataflow_Valid.j3 k3 x3_11 l0_3 (l0_3.length : Int) x33_3 true a0_0 a0_1 a0_2 l0_3 l0_4 l0_5))) = some r := H
        have A23 := Aside0.mk A230
        clear A230
        replace H := Option.bind_eq_some_iff.mp H
        obtain ⟨t117, A240, H⟩ := H
        replace H : (if t117 = true then ((dataflow_End.f a0_0 a0_1 a0_2 l0_3 l0_4 l0_5).bind fun t118 => ((dataflow_between.f ((rd_T48 l0_3 x33_3).f1) 0 t118).bind fun t119 => (if t119 = true then ((dataflow_between.f ((rd_T48 l0_3 x33_3).f2) 0 4096).bind fun t120 => (if t120 = true then ((dataflow_between.f ((rd_T48 l0_3 x33_3).f3) 0 x3_11).bind fun t121 => (dataflow_Valid.j3 k3 x3_11 l0_3 (l0_3.length : Int) x33_3 (!t121) a0_0 a0_1 a0_2 l0_3 l0_4 l0_5)) else (dataflow_Valid.j3 k3 x3_11 l0_3 (l0_3.length : Int) x33_3 true a0_0 a0_1 a0_2 l0_3 l0_4 l0_5))) else (dataflow_Valid.j3 k3 x3_11 l0_3 (l0_3.length : Int) x33_3 true a0_0 a0_1 a0_2 l0_3 l0_4 l0_5)))) else (dataflow_Valid.j3 k3 x3_11 l0_3 (l0_3.length : Int) x33_3 true a0_0 a0_1 a0_2 l0_3 l0_4 l0_5)) = some r := H
        have A24 := Aside0.mk A240
        clear A240
        by_cases c25 : t117 = true
        · subst c25
          have H1 : ((dataflow_End.f a0_0 a0_1 a0_2 l0_3 l0_4 l0_5).bind fun t118 => ((dataflow_between.f ((rd_T48 l0_3 x33_3).f1) 0 t118).bind fun t119 => (if t119 = true then ((dataflow_between.f ((rd_T48 l0_3 x33_3).f2) 0 4096).bind fun t120 => (if t120 = true then ((dataflow_between.f ((rd_T48 l0_3 x33_3).f3) 0 x3_11).bind fun t121 => (dataflow_Valid.j3 k3 x3_11 l0_3 (l0_3.length : Int) x33_3 (!t121) a0_0 a0_1 a0_2 l0_3 l0_4 l0_5)) else (dataflow_Valid.j3 k3 x3_11 l0_3 (l0_3.length : Int) x33_3 true a0_0 a0_1 a0_2 l0_3 l0_4 l0_5))) else (dataflow_Valid.j3 k3 x3_11 l0_3 (l0_3.length : Int) x33_3 true a0_0 a0_1 a0_2 l0_3 l0_4 l0_5)))) = some r := by rw [if_pos rfl] at H; exact H
          clear H
          have H := H1
          clear H1
          replace H := Option.bind_eq_some_iff.mp H
          obtain ⟨t118, A260, H⟩ := H
          replace H : ((dataflow_between.f ((rd_T48 l0_3 x33_3).f1) 0 t118).bind fun t119 => (if t119 = true then ((dataflow_between.f ((rd_T48 l0_3 x33_3).f2) 0 4096).bind fun t120 => (if t120 = true then ((dataflow_between.f ((rd_T48 l0_3 x33_3).f3) 0 x3_11).bind fun t121 => (dataflow_Valid.j3 k3 x3_11 l0_3 (l0_3.length : Int) x33_3 (!t121) a0_0 a0_1 a0_2 l0_3 l0_4 l0_5)) else (dataflow_Valid.j3 k3 x3_11 l0_3 (l0_3.length : Int) x33_3 true a0_0 a0_1 a0_2 l0_3 l0_4 l0_5))) else (dataflow_Valid.j3 k3 x3_11 l0_3 (l0_3.length : Int) x33_3 true a0_0 a0_1 a0_2 l0_3 l0_4 l0_5))) = some r := H
          have A26 := Aside0.mk A260
          clear A260
          replace H := Option.bind_eq_some_iff.mp H
          obtain ⟨t119, A270, H⟩ := H
          replace H : (if t119 = true then ((dataflow_between.f ((rd_T48 l0_3 x33_3).f2) 0 4096).bind fun t120 => (if t120 = true then ((dataflow_between.f ((rd_T48 l0_3 x33_3).f3) 0 x3_11).bind fun t121 => (dataflow_Valid.j3 k3 x3_11 l0_3 (l0_3.length : Int) x33_3 (!t121) a0_0 a0_1 a0_2 l0_3 l0_4 l0_5)) else (dataflow_Valid.j3 k3 x3_11 l0_3 (l0_3.length : Int) x33_3 true a0_0 a0_1 a0_2 l0_3 l0_4 l0_5))) else (dataflow_Valid.j3 k3 x3_11 l0_3 (l0_3.length : Int) x33_3 true a0_0 a0_1 a0_2 l0_3 l0_4 l0_5)) = some r := H
          have A27 := Aside0.mk A270
          clear A270
          by_cases c28 : t119 = true
          · subst c28
            have H1 : ((dataflow_between.f ((rd_T48 l0_3 x33_3).f2) 0 4096).bind fun t120 => (if t120 = true then ((dataflow_between.f ((rd_T48 l0_3 x33_3).f3) 0 x3_11).bind fun t121 => (dataflow_Valid.j3 k3 x3_11 l0_3 (l0_3.length : Int) x33_3 (!t121) a0_0 a0_1 a0_2 l0_3 l0_4 l0_5)) else (dataflow_Valid.j3 k3 x3_11 l0_3 (l0_3.length : Int) x33_3 true a0_0 a0_1 a0_2 l0_3 l0_4 l0_5))) = some r := by rw [if_pos rfl] at H; exact H
            clear H
            have H := H1
            clear H1
            replace H := Option.bind_eq_some_iff.mp H
            obtain ⟨t120, A290, H⟩ := H
            replace H : (if t120 = true then ((dataflow_between.f ((rd_T48 l0_3 x33_3).f3) 0 x3_11).bind fun t121 => (dataflow_Valid.j3 k3 x3_11 l0_3 (l0_3.length : Int) x33_3 (!t121) a0_0 a0_1 a0_2 l0_3 l0_4 l0_5)) else (dataflow_Valid.j3 k3 x3_11 l0_3 (l0_3.length : Int) x33_3 true a0_0 a0_1 a0_2 l0_3 l0_4 l0_5)) = some r := H
            have A29 := Aside0.mk A290
            clear A290
            by_cases c30 : t120 = true
            · subst c30
              have H1 : ((dataflow_between.f ((rd_T48 l0_3 x33_3).f3) 0 x3_11).bind fun t121 => (dataflow_Valid.j3 k3 x3_11 l0_3 (l0_3.length : Int) x33_3 (!t121) a0_0 a0_1 a0_2 l0_3 l0_4 l0_5)) = some r := by rw [if_pos rfl] at H; exact H
              clear H
              have H := H1
              clear H1
              replace H := Option.bind_eq_some_iff.mp H
              obtain ⟨t121, A310, H⟩ := H
              replace H : (dataflow_Valid.j3 k3 x3_11 l0_3 (l0_3.length : Int) x33_3 (!t121) a0_0 a0_1 a0_2 l0_3 l0_4 l0_5) = some r := H
              have A31 := Aside0.mk A310
              clear A310
              have H' := Aside0.mk H
              clear H
              try go_wp2
              have n0_ : Aside0 (((((w20.setCell ⟨gb115, 0, none⟩ (.int .i64 ((rd_T48 l0_3 x33_3).f0))).setCell ⟨gb115, 1, none⟩ (.int .i64 ((rd_T48 l0_3 x33_3).f1))).setCell ⟨gb115, 2, none⟩ (.int .i64 ((rd_T48 l0_3 x33_3).f2))).setCell ⟨gb115, 3, none⟩ (.int .i64 ((rd_T48 l0_3 x33_3).f3))).heap[gb111]? = some (.cells #[.int .i64 a0_0, .int .i64 a0_1, .bool a0_2, .slice (some ad114) l0_3.length c0_3, .slice A0_4 l0_4.length c0_4, .slice A0_5 l0_5.length c0_5] 26 (0, 0))) := ⟨by (with_reducible repeat (first | refine blk_drewN ?_ _ | refine blk_drew ?_ | refine blk_alloc ?_ _)); refine blk_far ?_ NB111_115.out _; (with_reducible repeat (first | refine blk_drewN ?_ _ | refine blk_drew ?_ | refine blk_alloc ?_ _)); refine blk_far ?_ NB111_115.out _; (with_reducible repeat (first | refine blk_drewN ?_ _ | refine blk_drew ?_ | refine blk_alloc ?_ _)); refine blk_far ?_ NB111_115.out _; (with_reducible repeat (first | refine blk_drewN ?_ _ | refine blk_drew ?_ | refine blk_alloc ?_ _)); refine blk_far ?_ NB111_115.out _; (with_reducible repeat (first | refine blk_drewN ?_ _ | refine blk_drew ?_ | refine blk_alloc ?_ _)); exact BK111.out⟩
              have n1_ : Aside0 (((((w20.setCell ⟨gb115, 0, none⟩ (.int .i64 ((rd_T48 l0_3 x33_3).f0))).setCell ⟨gb115, 1, none⟩ (.int .i64 ((rd_T48 l0_3 x33_3).f1))).setCell ⟨gb115, 2, none⟩ (.int .i64 ((rd_T48 l0_3 x33_3).f2))).setCell ⟨gb115, 3, none⟩ (.int .i64 ((rd_T48 l0_3 x33_3).f3))).heap[gb115]? = some (.cells #[.int .i64 ((rd_T48 l0_3 x33_3).f0), .int .i64 ((rd_T48 l0_3 x33_3).f1), .int .i64 ((rd_T48 l0_3 x33_3).f2), .int .i64 ((rd_T48 l0_3 x33_3).f3)] 48 (0, 0))) := ⟨by (with_reducible repeat (first | refine blk_drewN ?_ _ | refine blk_drew ?_ | refine blk_alloc ?_ _)); refine blk_put (cs := #[.int .i64 ((rd_T48 l0_3 x33_3).f0), .int .i64 ((rd_T48 l0_3 x33_3).f1), .int .i64 ((rd_T48 l0_3 x33_3).f2), .int .i64 0]) ?_ 3 _ rfl; (with_reducible repeat (first | refine blk_drewN ?_ _ | refine blk_drew ?_ | refine blk_alloc ?_ _)); refine blk_put (cs := #[.int .i64 ((rd_T48 l0_3 x33_3).f0), .int .i64 ((rd_T48 l0_3 x33_3).f1), .int .i64 0, .int .i64 0]) ?_ 2 _ rfl; (with_reducible repeat (first | refine blk_drewN ?_ _ | refine blk_drew ?_ | refine blk_alloc ?_ _)); refine blk_put (cs := #[.int .i64 ((rd_T48 l0_3 x33_3).f0), .int .i64 0, .int .i64 0, .int .i64 0]) ?_ 1 _ rfl; (with_reducible repeat (first | refine blk_drewN ?_ _ | refine blk_drew ?_ | refine blk_alloc ?_ _)); refine blk_put (cs := #[.int .i64 0, .int .i64 0, .int .i64 0, .int .i64 0]) ?_ 0 _ rfl; (with_reducible repeat (first | refine blk_drewN ?_ _ | refine blk_drew ?_ | refine blk_alloc ?_ _)); exact BK115.out⟩
              have n2_ : Aside0 (Below w.heap.size w ((((w20.setCell ⟨gb115, 0, none⟩ (.int .i64 ((rd_T48 l0_3 x33_3).f0))).setCell ⟨gb115, 1, none⟩ (.int .i64 ((rd_T48 l0_3 x33_3).f1))).setCell ⟨gb115, 2, none⟩ (.int .i64 ((rd_T48 l0_3 x33_3).f2))).setCell ⟨gb115, 3, none⟩ (.int .i64 ((rd_T48 l0_3 x33_3).f3)))) := ⟨bl_⟩
              generalize ((((w20.setCell ⟨gb115, 0, none⟩ (.int .i64 ((rd_T48 l0_3 x33_3).f0))).setCell ⟨gb115, 1, none⟩ (.int .i64 ((rd_T48 l0_3 x33_3).f1))).setCell ⟨gb115, 2, none⟩ (.int .i64 ((rd_T48 l0_3 x33_3).f2))).setCell ⟨gb115, 3, none⟩ (.int .i64 ((rd_T48 l0_3 x33_3).f3))) = w32 at n0_ n1_ n2_ ⊢
              have BK111 := n0_
              have BK115 := n1_
              have HB := n2_
              clear n0_ n1_ n2_
              have n0_ := Aside0.mk (blk_drew BK111.out)
              have n1_ := Aside0.mk (blk_drew BK115.out)
              have n2_ := Aside0.mk (below_drew1 HB.out)
              clear BK111
              clear BK115
              clear HB
              have BK111 := n0_
              have BK115 := n1_
              have HB := n2_
              clear n0_ n1_ n2_
              refine start_ (n := 27) (S := fun w' => w'.cell? ⟨gb115, 0, none⟩ = some (.int .i64 ((rd_T48 l0_3 x33_3).f0)) ∧ w'.cell? ⟨gb115, 1, none⟩ = some (.int .i64 ((rd_T48 l0_3 x33_3).f1)) ∧ w'.cell? ⟨gb115, 2, none⟩ = some (.int .i64 ((rd_T48 l0_3 x33_3).f2)) ∧ w'.cell? ⟨gb115, 3, none⟩ = some (.int .i64 ((rd_T48 l0_3 x33_3).f3)) ∧ w'.cell? ⟨gb111, 0, none⟩ = some (.int .i64 a0_0) ∧ w'.cell? ⟨gb111, 1, none⟩ = some (.int .i64 a0_1) ∧ w'.cell? ⟨gb111, 2, none⟩ = some (.bool a0_2) ∧ w'.cell? ⟨gb111, 3, none⟩ = some (.slice (some ad114) l0_3.length c0_3) ∧ w'.cell? ⟨gb111, 4, none⟩ = some (.slice A0_4 l0_4.length c0_4) ∧ w'.cell? ⟨gb111, 5, none⟩ = some (.slice A0_5 l0_5.length c0_5)) (ds := []) (bz 27 0) (by kernel_rfl) rfl rfl ⟨(blk_cell BK115.out 0).trans rfl, (blk_cell BK115.out 1).trans rfl, (blk_cell BK115.out 2).trans rfl, (blk_cell BK115.out 3).trans rfl, (blk_cell BK111.out 0).trans rfl, (blk_cell BK111.out 1).trans rfl, (blk_cell BK111.out 2).trans rfl, (blk_cell BK111.out 3).trans rfl, (blk_cell BK111.out 4).trans rfl, (blk_cell BK111.out 5).trans rfl⟩ (fun hHeld => ?_); refine with_tabW dataflow_Valid.tab9 dataflow_Valid.bits9 (fun HT_ HW_ => ?_)
              generalize w32.drew = w33 at BK111 BK115 HB hHeld ⊢
              refine pu_ 0 37 HT_ ?_
              refine tk_ 1 38 HT_ HW_ hHeld ?_ (hy := by rintro w' ⟨s0, s1, s2, s3, s4, s5, s6, s7, s8, s9⟩; go_simp; with_reducible rfl)
              refine tk_ 2 39 HT_ HW_ hHeld ?_ (hy := by rintro w' ⟨s0, s1, s2, s3, s4, s5, s6, s7, s8, s9⟩; go_simp; with_reducible rfl)
              refine on_ 3 (some 40) HT_ (fun K hK => ?_)
              refine gs_ Try.func44 #[.agg #[.int .i64 a0_0, .int .i64 a0_1, .bool a0_2, .slice (some ad114) l0_3.length c0_3, .slice A0_4 l0_4.length c0_4, .slice A0_5 l0_5.length c0_5]] ?_
              with_reducible refine (dataflow_Source.calls a0_0 a0_1 a0_2 _ _ l0_3 _ _ l0_4 _ _ l0_5 t116 _ ?side1 ?side2 ?side3 ?side4 ?side5 ?side6 A23.out).mono ?_
              (case side1 => exact CB_ HR0_3)
              (case side2 => exact HC0_3.out)
              (case side3 => exact CB_ HR0_4)
              (case side4 => exact HC0_4.out)
              (case side5 => exact CB_ HR0_5)
              (case side6 => exact HC0_5.out)
              rintro e w34 ⟨rfl, hb⟩
              refine ⟨_, rfl, ?_⟩
              have n0_ := Aside0.mk (blk_below (K_ BK111) hb)
              have n1_ := Aside0.mk (blk_below (K_ BK115) hb)
              have n2_ := Aside0.mk (below_step bl_ hb)
              clear BK111
              clear BK115
              clear HB
              have BK111 := n0_
              have BK115 := n1_
              have HB := n2_
              clear n0_ n1_ n2_
              refine hK.out _ _ ⟨(blk_cell BK115.out 0).trans rfl, (blk_cell BK115.out 1).trans rfl, (blk_cell BK115.out 2).trans rfl, (blk_cell BK115.out 3).trans rfl, (blk_cell BK111.out 0).trans rfl, (blk_cell BK111.out 1).trans rfl, (blk_cell BK111.out 2).trans rfl, (blk_cell BK111.out 3).trans rfl, (blk_cell BK111.out 4).trans rfl, (blk_cell BK111.out 5).trans rfl⟩ (fun hHeld => ?_)
              clear hK K
              refine no_ 40 ?_
              refine on_ 4 (some 41) HT_ (fun K hK => ?_)
              refine gs_ Try.func43 #[.int .i64 ((rd_T48 l0_3 x33_3).f0), .int .i64 0, .int .i64 t116] ?_
              with_reducible refine (dataflow_between.calls ((rd_T48 l0_3 x33_3).f0) 0 t116 true _ A24.out).mono ?_
              rintro e w' ⟨rfl, ⟨nd, rfl⟩⟩
              refine ⟨_, rfl, ?_⟩
              refine hK.out _ _ ⟨(blk_cell BK115.out 0).trans rfl, (blk_cell BK115.out 1).trans rfl, (blk_cell BK115.out 2).trans rfl, (blk_cell BK115.out 3).trans rfl, (blk_cell BK111.out 0).trans rfl, (blk_cell BK111.out 1).trans rfl, (blk_cell BK111.out 2).trans rfl, (blk_cell BK111.out 3).trans rfl, (blk_cell BK111.out 4).trans rfl, (blk_cell BK111.out 5).trans rfl⟩ (fun hHeld => ?_)
              clear hK K
              refine no_ 41 ?_
              refine pu_ 5 42 HT_ ?_
              refine pu_ 6 43 HT_ ?_
              refine pu_ 7 44 HT_ ?_
              refine tk_ 8 45 HT_ HW_ hHeld ?_ (hy := by rintro w' ⟨s0, s1, s2, s3, s4, s5, s6, s7, s8, s9⟩; go_simp; with_reducible rfl)
              refine tk_ 9 46 HT_ HW_ hHeld ?_ (hy := by rintro w' ⟨s0, s1, s2, s3, s4, s5, s6, s7, s8, s9⟩; go_simp; with_reducible rfl)
              refine on_ 10 (some 47) HT_ (fun K hK => ?_)
              refine gs_ Try.func45 #[.agg #[.int .i64 a0_0, .int .i64 a0_1, .bool a0_2, .slice (some ad114) l0_3.length c0_3, .slice A0_4 l0_4.length c0_4, .slice A0_5 l0_5.length c0_5]] ?_
              with_reducible refine (dataflow_End.calls a0_0 a0_1 a0_2 _ _ l0_3 _ _ l0_4 _ _ l0_5 t118 _ ?side1 ?side2 ?side3 ?side4 ?side5 ?side6 A26.out).mono ?_
              (case side1 => repeat (first | exact (Kd.C_below HR0_3.out bl_) | (with_reducible refine Kd.C_alloc ?_ _) | (with_reducible refine Kd.C_drewN ?_ _) | (with_reducible refine Kd.C_drew ?_)))
              (case side2 => exact HC0_3.out)
              (case side3 => repeat (first | exact (Kd.C_below HR0_4.out bl_) | (with_reducible refine Kd.C_alloc ?_ _) | (with_reducible refine Kd.C_drewN ?_ _) | (with_reducible refine Kd.C_drew ?_)))
              (case side4 => exact HC0_4.out)
              (case side5 => repeat (first | exact (Kd.C_below HR0_5.out bl_) | (with_reducible refine Kd.C_alloc ?_ _) | (with_reducible refine Kd.C_drewN ?_ _) | (with_reducible refine Kd.C_drew ?_)))
              (case side6 => exact HC0_5.out)
              rintro e w35 ⟨rfl, hb⟩
              refine ⟨_, rfl, ?_⟩
              have n0_ := Aside0.mk (blk_below (K_ BK111) hb)
              have n1_ := Aside0.mk (blk_below (K_ BK115) hb)
              have n2_ := Aside0.mk (below_step bl_ hb)
              clear BK111
              clear BK115
              clear HB
              have BK111 := n0_
              have BK115 := n1_
              have HB := n2_
              clear n0_ n1_ n2_
              refine hK.out _ _ ⟨(blk_cell BK115.out 0).trans rfl, (blk_cell BK115.out 1).trans rfl, (blk_cell BK115.out 2).trans rfl, (blk_cell BK115.out 3).trans rfl, (blk_cell BK111.out 0).trans rfl, (blk_cell BK111.out 1).trans rfl, (blk_cell BK111.out 2).trans rfl, (blk_cell BK111.out 3).trans rfl, (blk_cell BK111.out 4).trans rfl, (blk_cell BK111.out 5).trans rfl⟩ (fun hHeld => ?_)
              clear hK K
              refine no_ 47 ?_
              refine on_ 11 (some 48) HT_ (fun K hK => ?_)
              refine gs_ Try.func43 #[.int .i64 ((rd_T48 l0_3 x33_3).f1), .int .i64 0, .int .i64 t118] ?_
              with_reducible refine (dataflow_between.calls ((rd_T48 l0_3 x33_3).f1) 0 t118 true _ A27.out).mono ?_
              rintro e w' ⟨rfl, ⟨nd, rfl⟩⟩
              refine ⟨_, rfl, ?_⟩
              refine hK.out _ _ ⟨(blk_cell BK115.out 0).trans rfl, (blk_cell BK115.out 1).trans rfl, (blk_cell BK115.out 2).trans rfl, (blk_cell BK115.out 3).trans rfl, (blk_cell BK111.out 0).trans rfl, (blk_cell BK111.out 1).trans rfl, (blk_cell BK111.out 2).trans rfl, (blk_cell BK111.out 3).trans rfl, (blk_cell BK111.out 4).trans rfl, (blk_cell BK111.out 5).trans rfl⟩ (fun hHeld => ?_)
              clear hK K
              refine no_ 48 ?_
              refine pu_ 12 49 HT_ ?_
              refine pu_ 13 50 HT_ ?_
              refine pu_ 14 51 HT_ ?_
              refine pu_ 15 52 HT_ ?_
              refine tk_ 16 53 HT_ HW_ hHeld ?_ (hy := by rintro w' ⟨s0, s1, s2, s3, s4, s5, s6, s7, s8, s9⟩; go_simp; with_reducible rfl)
              refine on_ 17 (some 54) HT_ (fun K hK => ?_)
              refine gs_ Try.func43 #[.int .i64 ((rd_T48 l0_3 x33_3).f2), .int .i64 0, .int .i64 4096] ?_
              with_reducible refine (dataflow_between.calls ((rd_T48 l0_3 x33_3).f2) 0 4096 true _ A29.out).mono ?_
              rintro e w' ⟨rfl, ⟨nd, rfl⟩⟩
              refine ⟨_, rfl, ?_⟩
              refine hK.out _ _ ⟨(blk_cell BK115.out 0).trans rfl, (blk_cell BK115.out 1).trans rfl, (blk_cell BK115.out 2).trans rfl, (blk_cell BK115.out 3).trans rfl, (blk_cell BK111.out 0).trans rfl, (blk_cell BK111.out 1).trans rfl, (blk_cell BK111.out 2).trans rfl, (blk_cell BK111.out 3).trans rfl, (blk_cell BK111.out 4).trans rfl, (blk_cell BK111.out 5).trans rfl⟩ (fun hHeld => ?_)
              clear hK K
              refine no_ 54 ?_
              refine pu_ 18 55 HT_ ?_
              refine pu_ 19 56 HT_ ?_
              refine pu_ 20 57 HT_ ?_
              refine pu_ 21 58 HT_ ?_
              refine pu_ 23 60 HT_ ?_
              refine tk_ 22 59 HT_ HW_ hHeld ?_ (hy := by rintro w' ⟨s0, s1, s2, s3, s4, s5, s6, s7, s8, s9⟩; go_simp; with_reducible rfl)
              refine on_ 24 (some 61) HT_ (fun K hK => ?_)
              refine gs_ Try.func43 #[.int .i64 ((rd_T48 l0_3 x33_3).f3), .int .i64 0, .int .i64 x3_11] ?_
              with_reducible refine (dataflow_between.calls ((rd_T48 l0_3 x33_3).f3) 0 x3_11 t121 _ A31.out).mono ?_
              rintro e w' ⟨rfl, ⟨nd, rfl⟩⟩
              refine ⟨_, rfl, ?_⟩
              refine hK.out _ _ ⟨(blk_cell BK115.out 0).trans rfl, (blk_cell BK115.out 1).trans rfl, (blk_cell BK115.out 2).trans rfl, (blk_cell BK115.out 3).trans rfl, (blk_cell BK111.out 0).trans rfl, (blk_cell BK111.out 1).trans rfl, (blk_cell BK111.out 2).trans rfl, (blk_cell BK111.out 3).trans rfl, (blk_cell BK111.out 4).trans rfl, (blk_cell BK111.out 5).trans rfl⟩ (fun hHeld => ?_)
              clear hK K
              refine no_ 61 ?_
              refine pu_ 25 62 HT_ ?_
              refine pu_ 26 63 HT_ ?_
              refine done_ (done_of HT_.out (by kernel_rfl)) ?_
              try go_wp2
              go_meet
              case rel => exact ⟨_, (!t121), (by first | rfl | (simp; done) | (simp [*]; done)), H', ⟨by have := HJ1.out; have := HJ11.out; have := HK3.out; first | omega | exact Nat.le_refl _⟩, ⟨K_ BK111⟩, ⟨K_ BK115⟩, ⟨bl_⟩⟩
            replace c30 := Bool.eq_false_iff.mpr c30
            subst c30
            have H1 : (dataflow_Valid.j3 k3 x3_11 l0_3 (l0_3.length : Int) x33_3 true a0_0 a0_1 a0_2 l0_3 l0_4 l0_5) = some r := by rw [if_neg (show ¬ (false = true) by decide)] at H; exact H
            clear H
            have H := H1
            clear H1
            have H' := Aside0.mk H
            clear H
            try go_wp2
            have n0_ : Aside0 (((((w20.setCell ⟨gb115, 0, none⟩ (.int .i64 ((rd_T48 l0_3 x33_3).f0))).setCell ⟨gb115, 1, none⟩ (.int .i64 ((rd_T48 l0_3 x33_3).f1))).setCell ⟨gb115, 2, none⟩ (.int .i64 ((rd_T48 l0_3 x33_3).f2))).setCell ⟨gb115, 3, none⟩ (.int .i64 ((rd_T48 l0_3 x33_3).f3))).heap[gb111]? = some (.cells #[.int .i64 a0_0, .int .i64 a0_1, .bool a0_2, .slice (some ad114) l0_3.length c0_3, .slice A0_4 l0_4.length c0_4, .slice A0_5 l0_5.length c0_5] 26 (0, 0))) := ⟨by (with_reducible repeat (first | refine blk_drewN ?_ _ | refine blk_drew ?_ | refine blk_alloc ?_ _)); refine blk_far ?_ NB111_115.out _; (with_reducible repeat (first | refine blk_drewN ?_ _ | refine blk_drew ?_ | refine blk_alloc ?_ _)); refine blk_far ?_ NB111_115.out _; (with_reducible repeat (first | refine blk_drewN ?_ _ | refine blk_drew ?_ | refine blk_alloc ?_ _)); refine blk_far ?_ NB111_115.out _; (with_reducible repeat (first | refine blk_drewN ?_ _ | refine blk_drew ?_ | refine blk_alloc ?_ _)); refine blk_far ?_ NB111_115.out _; (with_reducible repeat (first | refine blk_drewN ?_ _ | refine blk_drew ?_ | refine blk_alloc ?_ _)); exact BK111.out⟩
            have n1_ : Aside0 (((((w20.setCell ⟨gb115, 0, none⟩ (.int .i64 ((rd_T48 l0_3 x33_3).f0))).setCell ⟨gb115, 1, none⟩ (.int .i64 ((rd_T48 l0_3 x33_3).f1))).setCell ⟨gb115, 2, none⟩ (.int .i64 ((rd_T48 l0_3 x33_3).f2))).setCell ⟨gb115, 3, none⟩ (.int .i64 ((rd_T48 l0_3 x33_3).f3))).heap[gb115]? = some (.cells #[.int .i64 ((rd_T48 l0_3 x33_3).f0), .int .i64 ((rd_T48 l0_3 x33_3).f1), .int .i64 ((rd_T48 l0_3 x33_3).f2), .int .i64 ((rd_T48 l0_3 x33_3).f3)] 48 (0, 0))) := ⟨by (with_reducible repeat (first | refine blk_drewN ?_ _ | refine blk_drew ?_ | refine blk_alloc ?_ _)); refine blk_put (cs := #[.int .i64 ((rd_T48 l0_3 x33_3).f0), .int .i64 ((rd_T48 l0_3 x33_3).f1), .int .i64 ((rd_T48 l0_3 x33_3).f2), .int .i64 0]) ?_ 3 _ rfl; (with_reducible repeat (first | refine blk_drewN ?_ _ | refine blk_drew ?_ | refine blk_alloc ?_ _)); refine blk_put (cs := #[.int .i64 ((rd_T48 l0_3 x33_3).f0), .int .i64 ((rd_T48 l0_3 x33_3).f1), .int .i64 0, .int .i64 0]) ?_ 2 _ rfl; (with_reducible repeat (first | refine blk_drewN ?_ _ | refine blk_drew ?_ | refine blk_alloc ?_ _)); refine blk_put (cs := #[.int .i64 ((rd_T48 l0_3 x33_3).f0), .int .i64 0, .int .i64 0, .int .i64 0]) ?_ 1 _ rfl; (with_reducible repeat (first | refine blk_drewN ?_ _ | refine blk_drew ?_ | refine blk_alloc ?_ _)); refine blk_put (cs := #[.int .i64 0, .int .i64 0, .int .i64 0, .int .i64 0]) ?_ 0 _ rfl; (with_reducible repeat (first | refine blk_drewN ?_ _ | refine blk_drew ?_ | refine blk_alloc ?_ _)); exact BK115.out⟩
            have n2_ : Aside0 (Below w.heap.size w ((((w20.setCell ⟨gb115, 0, none⟩ (.int .i64 ((rd_T48 l0_3 x33_3).f0))).setCell ⟨gb115, 1, none⟩ (.int .i64 ((rd_T48 l0_3 x33_3).f1))).setCell ⟨gb115, 2, none⟩ (.int .i64 ((rd_T48 l0_3 x33_3).f2))).setCell ⟨gb115, 3, none⟩ (.int .i64 ((rd_T48 l0_3 x33_3).f3)))) := ⟨bl_⟩
            generalize ((((w20.setCell ⟨gb115, 0, none⟩ (.int .i64 ((rd_T48 l0_3 x33_3).f0))).setCell ⟨gb115, 1, none⟩ (.int .i64 ((rd_T48 l0_3 x33_3).f1))).setCell ⟨gb115, 2, none⟩ (.int .i64 ((rd_T48 l0_3 x33_3).f2))).setCell ⟨gb115, 3, none⟩ (.int .i64 ((rd_T48 l0_3 x33_3).f3))) = w36 at n0_ n1_ n2_ ⊢
            have BK111 := n0_
            have BK115 := n1_
            have HB := n2_
            clear n0_ n1_ n2_
            have n0_ := Aside0.mk (blk_drew BK111.out)
            have n1_ := Aside0.mk (blk_drew BK115.out)
            have n2_ := Aside0.mk (below_drew1 HB.out)
            clear BK111
            clear BK115
            clear HB
            have BK111 := n0_
            have BK115 := n1_
            have HB := n2_
            clear n0_ n1_ n2_
            refine start_ (n := 27) (S := fun w' => w'.cell? ⟨gb115, 0, none⟩ = some (.int .i64 ((rd_T48 l0_3 x33_3).f0)) ∧ w'.cell? ⟨gb115, 1, none⟩ = some (.int .i64 ((rd_T48 l0_3 x33_3).f1)) ∧ w'.cell? ⟨gb115, 2, none⟩ = some (.int .i64 ((rd_T48 l0_3 x33_3).f2)) ∧ w'.cell? ⟨gb115, 3, none⟩ = some (.int .i64 ((rd_T48 l0_3 x33_3).f3)) ∧ w'.cell? ⟨gb111, 0, none⟩ = some (.int .i64 a0_0) ∧ w'.cell? ⟨gb111, 1, none⟩ = some (.int .i64 a0_1) ∧ w'.cell? ⟨gb111, 2, none⟩ = some (.bool a0_2) ∧ w'.cell? ⟨gb111, 3, none⟩ = some (.slice (some ad114) l0_3.length c0_3) ∧ w'.cell? ⟨gb111, 4, none⟩ = some (.slice A0_4 l0_4.length c0_4) ∧ w'.cell? ⟨gb111, 5, none⟩ = some (.slice A0_5 l0_5.length c0_5)) (ds := []) (bz 27 0) (by kernel_rfl) rfl rfl ⟨(blk_cell BK115.out 0).trans rfl, (blk_cell BK115.out 1).trans rfl, (blk_cell BK115.out 2).trans rfl, (blk_cell BK115.out 3).trans rfl, (blk_cell BK111.out 0).trans rfl, (blk_cell BK111.out 1).trans rfl, (blk_cell BK111.out 2).trans rfl, (blk_cell BK111.out 3).trans rfl, (blk_cell BK111.out 4).trans rfl, (blk_cell BK111.out 5).trans rfl⟩ (fun hHeld => ?_); refine with_tabW dataflow_Valid.tab9 dataflow_Valid.bits9 (fun HT_ HW_ => ?_)
            generalize w36.drew = w37 at BK111 BK115 HB hHeld ⊢
            refine pu_ 0 37 HT_ ?_
            refine tk_ 1 38 HT_ HW_ hHeld ?_ (hy := by rintro w' ⟨s0, s1, s2, s3, s4, s5, s6, s7, s8, s9⟩; go_simp; with_reducible rfl)
            refine tk_ 2 39 HT_ HW_ hHeld ?_ (hy := by rintro w' ⟨s0, s1, s2, s3, s4, s5, s6, s7, s8, s9⟩; go_simp; with_reducible rfl)
            refine on_ 3 (some 40) HT_ (fun K hK => ?_)
            refine gs_ Try.func44 #[.agg #[.int .i64 a0_0, .int .i64 a0_1, .bool a0_2, .slice (some ad114) l0_3.length c0_3, .slice A0_4 l0_4.length c0_4, .slice A0_5 l0_5.length c0_5]] ?_
            with_reducible refine (dataflow_Source.calls a0_0 a0_1 a0_2 _ _ l0_3 _ _ l0_4 _ _ l0_5 t116 _ ?side1 ?side2 ?side3 ?side4 ?side5 ?side6 A23.out).mono ?_
            (case side1 => exact CB_ HR0_3)
            (case side2 => exact HC0_3.out)
            (case side3 => exact CB_ HR0_4)
            (case side4 => exact HC0_4.out)
            (case side5 => exact CB_ HR0_5)
            (case side6 => exact HC0_5.out)
            rintro e w38 ⟨rfl, hb⟩
            refine ⟨_, rfl, ?_⟩
            have n0_ := Aside0.mk (blk_below (K_ BK111) hb)
            have n1_ := Aside0.mk (blk_below (K_ BK115) hb)
            have n2_ := Aside0.mk (below_step bl_ hb)
            clear BK111
            clear BK115
            clear HB
            have BK111 := n0_
            have BK115 := n1_
            have HB := n2_
            clear n0_ n1_ n2_
            refine hK.out _ _ ⟨(blk_cell BK115.out 0).trans rfl, (blk_cell BK115.out 1).trans rfl, (blk_cell BK115.out 2).trans rfl, (blk_cell BK115.out 3).trans rfl, (blk_cell BK111.out 0).trans rfl, (blk_cell BK111.out 1).trans rfl, (blk_cell BK111.out 2).trans rfl, (blk_cell BK111.out 3).trans rfl, (blk_cell BK111.out 4).trans rfl, (blk_cell BK111.out 5).trans rfl⟩ (fun hHeld => ?_)
            clear hK K
            refine no_ 40 ?_
            refine on_ 4 (some 41) HT_ (fun K hK => ?_)
            refine gs_ Try.func43 #[.int .i64 ((rd_T48 l0_3 x33_3).f0), .int .i64 0, .int .i64 t116] ?_
            with_reducible refine (dataflow_between.calls ((rd_T48 l0_3 x33_3).f0) 0 t116 true _ A24.out).mono ?_
            rintro e w' ⟨rfl, ⟨nd, rfl⟩⟩
            refine ⟨_, rfl, ?_⟩
            refine hK.out _ _ ⟨(blk_cell BK115.out 0).trans rfl, (blk_cell BK115.out 1).trans rfl, (blk_cell BK115.out 2).trans rfl, (blk_cell BK115.out 3).trans rfl, (blk_cell BK111.out 0).trans rfl, (blk_cell BK111.out 1).trans rfl, (blk_cell BK111.out 2).trans rfl, (blk_cell BK111.out 3).trans rfl, (blk_cell BK111.out 4).trans rfl, (blk_cell BK111.out 5).trans rfl⟩ (fun hHeld => ?_)
            clear hK K
            refine no_ 41 ?_
            refine pu_ 5 42 HT_ ?_
            refine pu_ 6 43 HT_ ?_
            refine pu_ 7 44 HT_ ?_
            refine tk_ 8 45 HT_ HW_ hHeld ?_ (hy := by rintro w' ⟨s0, s1, s2, s3, s4, s5, s6, s7, s8, s9⟩; go_simp; with_reducible rfl)
            refine tk_ 9 46 HT_ HW_ hHeld ?_ (hy := by rintro w' ⟨s0, s1, s2, s3, s4, s5, s6, s7, s8, s9⟩; go_simp; with_reducible rfl)
            refine on_ 10 (some 47) HT_ (fun K hK => ?_)
            refine gs_ Try.func45 #[.agg #[.int .i64 a0_0, .int .i64 a0_1, .bool a0_2, .slice (some ad114) l0_3.length c0_3, .slice A0_4 l0_4.length c0_4, .slice A0_5 l0_5.length c0_5]] ?_
            with_reducible refine (dataflow_End.calls a0_0 a0_1 a0_2 _ _ l0_3 _ _ l0_4 _ _ l0_5 t118 _ ?side1 ?side2 ?side3 ?side4 ?side5 ?side6 A26.out).mono ?_
            (case side1 => repeat (first | exact (Kd.C_below HR0_3.out bl_) | (with_reducible refine Kd.C_alloc ?_ _) | (with_reducible refine Kd.C_drewN ?_ _) | (with_reducible refine Kd.C_drew ?_)))
            (case side2 => exact HC0_3.out)
            (case side3 => repeat (first | exact (Kd.C_below HR0_4.out bl_) | (with_reducible refine Kd.C_alloc ?_ _) | (with_reducible refine Kd.C_drewN ?_ _) | (with_reducible refine Kd.C_drew ?_)))
            (case side4 => exact HC0_4.out)
            (case side5 => repeat (first | exact (Kd.C_below HR0_5.out bl_) | (with_reducible refine Kd.C_alloc ?_ _) | (with_reducible refine Kd.C_drewN ?_ _) | (with_reducible refine Kd.C_drew ?_)))
            (case side6 => exact HC0_5.out)
            rintro e w39 ⟨rfl, hb⟩
            refine ⟨_, rfl, ?_⟩
            have n0_ := Aside0.mk (blk_below (K_ BK111) hb)
            have n1_ := Aside0.mk (blk_below (K_ BK115) hb)
            have n2_ := Aside0.mk (below_step bl_ hb)
            clear BK111
            clear BK115
            clear HB
            have BK111 := n0_
            have BK115 := n1_
            have HB := n2_
            clear n0_ n1_ n2_
            refine hK.out _ _ ⟨(blk_cell BK115.out 0).trans rfl, (blk_cell BK115.out 1).trans rfl, (blk_cell BK115.out 2).trans rfl, (blk_cell BK115.out 3).trans rfl, (blk_cell BK111.out 0).trans rfl, (blk_cell BK111.out 1).trans rfl, (blk_cell BK111.out 2).trans rfl, (blk_cell BK111.out 3).trans rfl, (blk_cell BK111.out 4).trans rfl, (blk_cell BK111.out 5).trans rfl⟩ (fun hHeld => ?_)
            clear hK K
            refine no_ 47 ?_
            refine on_ 11 (some 48) HT_ (fun K hK => ?_)
            refine gs_ Try.func43 #[.int .i64 ((rd_T48 l0_3 x33_3).f1), .int .i64 0, .int .i64 t118] ?_
            with_reducible refine (dataflow_between.calls ((rd_T48 l0_3 x33_3).f1) 0 t118 true _ A27.out).mono ?_
            rintro e w' ⟨rfl, ⟨nd, rfl⟩⟩
            refine ⟨_, rfl, ?_⟩
            refine hK.out _ _ ⟨(blk_cell BK115.out 0).trans rfl, (blk_cell BK115.out 1).trans rfl, (blk_cell BK115.out 2).trans rfl, (blk_cell BK115.out 3).trans rfl, (blk_cell BK111.out 0).trans rfl, (blk_cell BK111.out 1).trans rfl, (blk_cell BK111.out 2).trans rfl, (blk_cell BK111.out 3).trans rfl, (blk_cell BK111.out 4).trans rfl, (blk_cell BK111.out 5).trans rfl⟩ (fun hHeld => ?_)
            clear hK K
            refine no_ 48 ?_
            refine pu_ 12 49 HT_ ?_
            refine pu_ 13 50 HT_ ?_
            refine pu_ 14 51 HT_ ?_
            refine pu_ 15 52 HT_ ?_
            refine tk_ 16 53 HT_ HW_ hHeld ?_ (hy := by rintro w' ⟨s0, s1, s2, s3, s4, s5, s6, s7, s8, s9⟩; go_simp; with_reducible rfl)
            refine on_ 17 (some 54) HT_ (fun K hK => ?_)
            refine gs_ Try.func43 #[.int .i64 ((rd_T48 l0_3 x33_3).f2), .int .i64 0, .int .i64 4096] ?_
            with_reducible refine (dataflow_between.calls ((rd_T48 l0_3 x33_3).f2) 0 4096 false _ A29.out).mono ?_
            rintro e w' ⟨rfl, ⟨nd, rfl⟩⟩
            refine ⟨_, rfl, ?_⟩
            refine hK.out _ _ ⟨(blk_cell BK115.out 0).trans rfl, (blk_cell BK115.out 1).trans rfl, (blk_cell BK115.out 2).trans rfl, (blk_cell BK115.out 3).trans rfl, (blk_cell BK111.out 0).trans rfl, (blk_cell BK111.out 1).trans rfl, (blk_cell BK111.out 2).trans rfl, (blk_cell BK111.out 3).trans rfl, (blk_cell BK111.out 4).trans rfl, (blk_cell BK111.out 5).trans rfl⟩ (fun hHeld => ?_)
            clear hK K
            refine no_ 54 ?_
            refine pu_ 18 55 HT_ ?_
            refine pu_ 19 56 HT_ ?_
            refine pu_ 20 57 HT_ ?_
            refine pn_ 21 58 HT_ ?_
            refine pn_ 22 59 HT_ ?_
            refine pn_ 23 60 HT_ ?_
            refine pn_ 24 61 HT_ ?_
            refine pn_ 25 62 HT_ ?_
            refine pu_ 26 63 HT_ ?_
            refine done_ (done_of HT_.out (by kernel_rfl)) ?_
            try go_wp2
            go_meet
            case rel => exact ⟨_, (true), (by first | rfl | (simp; done) | (simp [*]; done)), H', ⟨by have := HJ1.out; have := HJ11.out; have := HK3.out; first | omega | exact Nat.le_refl _⟩, ⟨K_ BK111⟩, ⟨K_ BK115⟩, ⟨bl_⟩⟩
          replace c28 := Bool.eq_false_iff.mpr c28
          subst c28
          have H1 : (dataflow_Valid.j3 k3 x3_11 l0_3 (l0_3.length : Int) x33_3 true a0_0 a0_1 a0_2 l0_3 l0_4 l0_5) = some r := by rw [if_neg (show ¬ (false = true) by decide)] at H; exact H
          clear H
          have H := H1
          clear H1
          have H' := Aside0.mk H
          clear H
          try go_wp2
          have n0_ : Aside0 (((((w20.setCell ⟨gb115, 0, none⟩ (.int .i64 ((rd_T48 l0_3 x33_3).f0))).setCell ⟨gb115, 1, none⟩ (.int .i64 ((rd_T48 l0_3 x33_3).f1))).setCell ⟨gb115, 2, none⟩ (.int .i64 ((rd_T48 l0_3 x33_3).f2))).setCell ⟨gb115, 3, none⟩ (.int .i64 ((rd_T48 l0_3 x33_3).f3))).heap[gb111]? = some (.cells #[.int .i64 a0_0, .int .i64 a0_1, .bool a0_2, .slice (some ad114) l0_3.length c0_3, .slice A0_4 l0_4.length c0_4, .slice A0_5 l0_5.length c0_5] 26 (0, 0))) := ⟨by (with_reducible repeat (first | refine blk_drewN ?_ _ | refine blk_drew ?_ | refine blk_alloc ?_ _)); refine blk_far ?_ NB111_115.out _; (with_reducible repeat (first | refine blk_drewN ?_ _ | refine blk_drew ?_ | refine blk_alloc ?_ _)); refine blk_far ?_ NB111_115.out _; (with_reducible repeat (first | refine blk_drewN ?_ _ | refine blk_drew ?_ | refine blk_alloc ?_ _)); refine blk_far ?_ NB111_115.out _; (with_reducible repeat (first | refine blk_drewN ?_ _ | refine blk_drew ?_ | refine blk_alloc ?_ _)); refine blk_far ?_ NB111_115.out _; (with_reducible repeat (first | refine blk_drewN ?_ _ | refine blk_drew ?_ | refine blk_alloc ?_ _)); exact BK111.out⟩
          have n1_ : Aside0 (((((w20.setCell ⟨gb115, 0, none⟩ (.int .i64 ((rd_T48 l0_3 x33_3).f0))).setCell ⟨gb115, 1, none⟩ (.int .i64 ((rd_T48 l0_3 x33_3).f1))).setCell ⟨gb115, 2, none⟩ (.int .i64 ((rd_T48 l0_3 x33_3).f2))).setCell ⟨gb115, 3, none⟩ (.int .i64 ((rd_T48 l0_3 x33_3).f3))).heap[gb115]? = some (.cells #[.int .i64 ((rd_T48 l0_3 x33_3).f0), .int .i64 ((rd_T48 l0_3 x33_3).f1), .int .i64 ((rd_T48 l0_3 x33_3).f2), .int .i64 ((rd_T48 l0_3 x33_3).f3)] 48 (0, 0))) := ⟨by (with_reducible repeat (first | refine blk_drewN ?_ _ | refine blk_drew ?_ | refine blk_alloc ?_ _)); refine blk_put (cs := #[.int .i64 ((rd_T48 l0_3 x33_3).f0), .int .i64 ((rd_T48 l0_3 x33_3).f1), .int .i64 ((rd_T48 l0_3 x33_3).f2), .int .i64 0]) ?_ 3 _ rfl; (with_reducible repeat (first | refine blk_drewN ?_ _ | refine blk_drew ?_ | refine blk_alloc ?_ _)); refine blk_put (cs := #[.int .i64 ((rd_T48 l0_3 x33_3).f0), .int .i64 ((rd_T48 l0_3 x33_3).f1), .int .i64 0, .int .i64 0]) ?_ 2 _ rfl; (with_reducible repeat (first | refine blk_drewN ?_ _ | refine blk_drew ?_ | refine blk_alloc ?_ _)); refine blk_put (cs := #[.int .i64 ((rd_T48 l0_3 x33_3).f0), .int .i64 0, .int .i64 0, .int .i64 0]) ?_ 1 _ rfl; (with_reducible repeat (first | refine blk_drewN ?_ _ | refine blk_drew ?_ | refine blk_alloc ?_ _)); refine blk_put (cs := #[.int .i64 0, .int .i64 0, .int .i64 0, .int .i64 0]) ?_ 0 _ rfl; (with_reducible repeat (first | refine blk_drewN ?_ _ | refine blk_drew ?_ | refine blk_alloc ?_ _)); exact BK115.out⟩
          have n2_ : Aside0 (Below w.heap.size w ((((w20.setCell ⟨gb115, 0, none⟩ (.int .i64 ((rd_T48 l0_3 x33_3).f0))).setCell ⟨gb115, 1, none⟩ (.int .i64 ((rd_T48 l0_3 x33_3).f1))).setCell ⟨gb115, 2, none⟩ (.int .i64 ((rd_T48 l0_3 x33_3).f2))).setCell ⟨gb115, 3, none⟩ (.int .i64 ((rd_T48 l0_3 x33_3).f3)))) := ⟨bl_⟩
          generalize ((((w20.setCell ⟨gb115, 0, none⟩ (.int .i64 ((rd_T48 l0_3 x33_3).f0))).setCell ⟨gb115, 1, none⟩ (.int .i64 ((rd_T48 l0_3 x33_3).f1))).setCell ⟨gb115, 2, none⟩ (.int .i64 ((rd_T48 l0_3 x33_3).f2))).setCell ⟨gb115, 3, none⟩ (.int .i64 ((rd_T48 l0_3 x33_3).f3))) = w40 at n0_ n1_ n2_ ⊢
          have BK111 := n0_
          have BK115 := n1_
          have HB := n2_
          clear n0_ n1_ n2_
          have n0_ := Aside0.mk (blk_drew BK111.out)
          have n1_ := Aside0.mk (blk_drew BK115.out)
          have n2_ := Aside0.mk (below_drew1 HB.out)
          clear BK111
          clear BK115
          clear HB
          have BK111 := n0_
          have BK115 := n1_
          have HB := n2_
          clear n0_ n1_ n2_
          refine start_ (n := 27) (S := fun w' => w'.cell? ⟨gb115, 0, none⟩ = some (.int .i64 ((rd_T48 l0_3 x33_3).f0)) ∧ w'.cell? ⟨gb115, 1, none⟩ = some (.int .i64 ((rd_T48 l0_3 x33_3).f1)) ∧ w'.cell? ⟨gb115, 2, none⟩ = some (.int .i64 ((rd_T48 l0_3 x33_3).f2)) ∧ w'.cell? ⟨gb115, 3, none⟩ = some (.int .i64 ((rd_T48 l0_3 x33_3).f3)) ∧ w'.cell? ⟨gb111, 0, none⟩ = some (.int .i64 a0_0) ∧ w'.cell? ⟨gb111, 1, none⟩ = some (.int .i64 a0_1) ∧ w'.cell? ⟨gb111, 2, none⟩ = some (.bool a0_2) ∧ w'.cell? ⟨gb111, 3, none⟩ = some (.slice (some ad114) l0_3.length c0_3) ∧ w'.cell? ⟨gb111, 4, none⟩ = some (.slice A0_4 l0_4.length c0_4) ∧ w'.cell? ⟨gb111, 5, none⟩ = some (.slice A0_5 l0_5.length c0_5)) (ds := []) (bz 27 0) (by kernel_rfl) rfl rfl ⟨(blk_cell BK115.out 0).trans rfl, (blk_cell BK115.out 1).trans rfl, (blk_cell BK115.out 2).trans rfl, (blk_cell BK115.out 3).trans rfl, (blk_cell BK111.out 0).trans rfl, (blk_cell BK111.out 1).trans rfl, (blk_cell BK111.out 2).trans rfl, (blk_cell BK111.out 3).trans rfl, (blk_cell BK111.out 4).trans rfl, (blk_cell BK111.out 5).trans rfl⟩ (fun hHeld => ?_); refine with_tabW dataflow_Valid.tab9 dataflow_Valid.bits9 (fun HT_ HW_ => ?_)
          generalize w40.drew = w41 at BK111 BK115 HB hHeld ⊢
          refine pu_ 0 37 HT_ ?_
          refine tk_ 1 38 HT_ HW_ hHeld ?_ (hy := by rintro w' ⟨s0, s1, s2, s3, s4, s5, s6, s7, s8, s9⟩; go_simp; with_reducible rfl)
          refine tk_ 2 39 HT_ HW_ hHeld ?_ (hy := by rintro w' ⟨s0, s1, s2, s3, s4, s5, s6, s7, s8, s9⟩; go_simp; with_reducible rfl)
          refine on_ 3 (some 40) HT_ (fun K hK => ?_)
          refine gs_ Try.func44 #[.agg #[.int .i64 a0_0, .int .i64 a0_1, .bool a0_2, .slice (some ad114) l0_3.length c0_3, .slice A0_4 l0_4.length c0_4, .slice A0_5 l0_5.length c0_5]] ?_
          with_reducible refine (dataflow_Source.calls a0_0 a0_1 a0_2 _ _ l0_3 _ _ l0_4 _ _ l0_5 t116 _ ?side1 ?side2 ?side3 ?side4 ?side5 ?side6 A23.out).mono ?_
          (case side1 => exact CB_ HR0_3)
          (case side2 => exact HC0_3.out)
          (case side3 => exact CB_ HR0_4)
          (case side4 => exact HC0_4.out)
          (case side5 => exact CB_ HR0_5)
          (case side6 => exact HC0_5.out)
          rintro e w42 ⟨rfl, hb⟩
          refine ⟨_, rfl, ?_⟩
          have n0_ := Aside0.mk (blk_below (K_ BK111) hb)
          have n1_ := Aside0.mk (blk_below (K_ BK115) hb)
          have n2_ := Aside0.mk (below_step bl_ hb)
          clear BK111
          clear BK115
          clear HB
          have BK111 := n0_
          have BK115 := n1_
          have HB := n2_
          clear n0_ n1_ n2_
          refine hK.out _ _ ⟨(blk_cell BK115.out 0).trans rfl, (blk_cell BK115.out 1).trans rfl, (blk_cell BK115.out 2).trans rfl, (blk_cell BK115.out 3).trans rfl, (blk_cell BK111.out 0).trans rfl, (blk_cell BK111.out 1).trans rfl, (blk_cell BK111.out 2).trans rfl, (blk_cell BK111.out 3).trans rfl, (blk_cell BK111.out 4).trans rfl, (blk_cell BK111.out 5).trans rfl⟩ (fun hHeld => ?_)
          clear hK K
          refine no_ 40 ?_
          refine on_ 4 (some 41) HT_ (fun K hK => ?_)
          refine gs_ Try.func43 #[.int .i64 ((rd_T48 l0_3 x33_3).f0), .int .i64 0, .int .i64 t116] ?_
          with_reducible refine (dataflow_between.calls ((rd_T48 l0_3 x33_3).f0) 0 t116 true _ A24.out).mono ?_
          rintro e w' ⟨rfl, ⟨nd, rfl⟩⟩
          refine ⟨_, rfl, ?_⟩
          refine hK.out _ _ ⟨(blk_cell BK115.out 0).trans rfl, (blk_cell BK115.out 1).trans rfl, (blk_cell BK115.out 2).trans rfl, (blk_cell BK115.out 3).trans rfl, (blk_cell BK111.out 0).trans rfl, (blk_cell BK111.out 1).trans rfl, (blk_cell BK111.out 2).trans rfl, (blk_cell BK111.out 3).trans rfl, (blk_cell BK111.out 4).trans rfl, (blk_cell BK111.out 5).trans rfl⟩ (fun hHeld => ?_)
          clear hK K
          refine no_ 41 ?_
          refine pu_ 5 42 HT_ ?_
          refine pu_ 6 43 HT_ ?_
          refine pu_ 7 44 HT_ ?_
          refine tk_ 8 45 HT_ HW_ hHeld ?_ (hy := by rintro w' ⟨s0, s1, s2, s3, s4, s5, s6, s7, s8, s9⟩; go_simp; with_reducible rfl)
          refine tk_ 9 46 HT_ HW_ hHeld ?_ (hy := by rintro w' ⟨s0, s1, s2, s3, s4, s5, s6, s7, s8, s9⟩; go_simp; with_reducible rfl)
          refine on_ 10 (some 47) HT_ (fun K hK => ?_)
          refine gs_ Try.func45 #[.agg #[.int .i64 a0_0, .int .i64 a0_1, .bool a0_2, .slice (some ad114) l0_3.length c0_3, .slice A0_4 l0_4.length c0_4, .slice A0_5 l0_5.length c0_5]] ?_
          with_reducible refine (dataflow_End.calls a0_0 a0_1 a0_2 _ _ l0_3 _ _ l0_4 _ _ l0_5 t118 _ ?side1 ?side2 ?side3 ?side4 ?side5 ?side6 A26.out).mono ?_
          (case side1 => repeat (first | exact (Kd.C_below HR0_3.out bl_) | (with_reducible refine Kd.C_alloc ?_ _) | (with_reducible refine Kd.C_drewN ?_ _) | (with_reducible refine Kd.C_drew ?_)))
          (case side2 => exact HC0_3.out)
          (case side3 => repeat (first | exact (Kd.C_below HR0_4.out bl_) | (with_reducible refine Kd.C_alloc ?_ _) | (with_reducible refine Kd.C_drewN ?_ _) | (with_reducible refine Kd.C_drew ?_)))
          (case side4 => exact HC0_4.out)
          (case side5 => repeat (first | exact (Kd.C_below HR0_5.out bl_) | (with_reducible refine Kd.C_alloc ?_ _) | (with_reducible refine Kd.C_drewN ?_ _) | (with_reducible refine Kd.C_drew ?_)))
          (case side6 => exact HC0_5.out)
          rintro e w43 ⟨rfl, hb⟩
          refine ⟨_, rfl, ?_⟩
          have n0_ := Aside0.mk (blk_below (K_ BK111) hb)
          have n1_ := Aside0.mk (blk_below (K_ BK115) hb)
          have n2_ := Aside0.mk (below_step bl_ hb)
          clear BK111
          clear BK115
          clear HB
          have BK111 := n0_
          have BK115 := n1_
          have HB := n2_
          clear n0_ n1_ n2_
          refine hK.out _ _ ⟨(blk_cell BK115.out 0).trans rfl, (blk_cell BK115.out 1).trans rfl, (blk_cell BK115.out 2).trans rfl, (blk_cell BK115.out 3).trans rfl, (blk_cell BK111.out 0).trans rfl, (blk_cell BK111.out 1).trans rfl, (blk_cell BK111.out 2).trans rfl, (blk_cell BK111.out 3).trans rfl, (blk_cell BK111.out 4).trans rfl, (blk_cell BK111.out 5).trans rfl⟩ (fun hHeld => ?_)
          clear hK K
          refine no_ 47 ?_
          refine on_ 11 (some 48) HT_ (fun K hK => ?_)
          refine gs_ Try.func43 #[.int .i64 ((rd_T48 l0_3 x33_3).f1), .int .i64 0, .int .i64 t118] ?_
          with_reducible refine (dataflow_between.calls ((rd_T48 l0_3 x33_3).f1) 0 t118 false _ A27.out).mono ?_
          rintro e w' ⟨rfl, ⟨nd, rfl⟩⟩
          refine ⟨_, rfl, ?_⟩
          refine hK.out _ _ ⟨(blk_cell BK115.out 0).trans rfl, (blk_cell BK115.out 1).trans rfl, (blk_cell BK115.out 2).trans rfl, (blk_cell BK115.out 3).trans rfl, (blk_cell BK111.out 0).trans rfl, (blk_cell BK111.out 1).trans rfl, (blk_cell BK111.out 2).trans rfl, (blk_cell BK111.out 3).trans rfl, (blk_cell BK111.out 4).trans rfl, (blk_cell BK111.out 5).trans rfl⟩ (fun hHeld => ?_)
          clear hK K
          refine no_ 48 ?_
          refine pu_ 12 49 HT_ ?_
          refine pu_ 13 50 HT_ ?_
          refine pu_ 14 51 HT_ ?_
          refine pn_ 15 52 HT_ ?_
          refine pn_ 16 53 HT_ ?_
          refine pn_ 17 54 HT_ ?_
          refine pn_ 18 55 HT_ ?_
          refine pu_ 19 56 HT_ ?_
          refine pu_ 20 57 HT_ ?_
          refine pn_ 21 58 HT_ ?_
          refine pn_ 22 59 HT_ ?_
          refine pn_ 23 60 HT_ ?_
          refine pn_ 24 61 HT_ ?_
          refine pn_ 25 62 HT_ ?_
          refine pu_ 26 63 HT_ ?_
          refine done_ (done_of HT_.out (by kernel_rfl)) ?_
          try go_wp2
          go_meet
          case rel => exact ⟨_, (true), (by first | rfl | (simp; done) | (simp [*]; done)), H', ⟨by have := HJ1.out; have := HJ11.out; have := HK3.out; first | omega | exact Nat.le_refl _⟩, ⟨K_ BK111⟩, ⟨K_ BK115⟩, ⟨bl_⟩⟩
        replace c25 := Bool.eq_false_iff.mpr c25
        subst c25
        have H1 : (dataflow_Valid.j3 k3 x3_11 l0_3 (l0_3.length : Int) x33_3 true a0_0 a0_1 a0_2 l0_3 l0_4 l0_5) = some r := by rw [if_neg (show ¬ (false = true) by decide)] at H; exact H
        clear H
        have H := H1
        clear H1
        have H' := Aside0.mk H
        clear H
        try go_wp2
        have n0_ : Aside0 (((((w20.setCell ⟨gb115, 0, none⟩ (.int .i64 ((rd_T48 l0_3 x33_3).f0))).setCell ⟨gb115, 1, none⟩ (.int .i64 ((rd_T48 l0_3 x33_3).f1))).setCell ⟨gb115, 2, none⟩ (.int .i64 ((rd_T48 l0_3 x33_3).f2))).setCell ⟨gb115, 3, none⟩ (.int .i64 ((rd_T48 l0_3 x33_3).f3))).heap[gb111]? = some (.cells #[.int .i64 a0_0, .int .i64 a0_1, .bool a0_2, .slice (some ad114) l0_3.length c0_3, .slice A0_4 l0_4.length c0_4, .slice A0_5 l0_5.length c0_5] 26 (0, 0))) := ⟨by (with_reducible repeat (first | refine blk_drewN ?_ _ | refine blk_drew ?_ | refine blk_alloc ?_ _)); refine blk_far ?_ NB111_115.out _; (with_reducible repeat (first | refine blk_drewN ?_ _ | refine blk_drew ?_ | refine blk_alloc ?_ _)); refine blk_far ?_ NB111_115.out _; (with_reducible repeat (first | refine blk_drewN ?_ _ | refine blk_drew ?_ | refine blk_alloc ?_ _)); refine blk_far ?_ NB111_115.out _; (with_reducible repeat (first | refine blk_drewN ?_ _ | refine blk_drew ?_ | refine blk_alloc ?_ _)); refine blk_far ?_ NB111_115.out _; (with_reducible repeat (first | refine blk_drewN ?_ _ | refine blk_drew ?_ | refine blk_alloc ?_ _)); exact BK111.out⟩
        have n1_ : Aside0 (((((w20.setCell ⟨gb115, 0, none⟩ (.int .i64 ((rd_T48 l0_3 x33_3).f0))).setCell ⟨gb115, 1, none⟩ (.int .i64 ((rd_T48 l0_3 x33_3).f1))).setCell ⟨gb115, 2, none⟩ (.int .i64 ((rd_T48 l0_3 x33_3).f2))).setCell ⟨gb115, 3, none⟩ (.int .i64 ((rd_T48 l0_3 x33_3).f3))).heap[gb115]? = some (.cells #[.int .i64 ((rd_T48 l0_3 x33_3).f0), .int .i64 ((rd_T48 l0_3 x33_3).f1), .int .i64 ((rd_T48 l0_3 x33_3).f2), .int .i64 ((rd_T48 l0_3 x33_3).f3)] 48 (0, 0))) := ⟨by (with_reducible repeat (first | refine blk_drewN ?_ _ | refine blk_drew ?_ | refine blk_alloc ?_ _)); refine blk_put (cs := #[.int .i64 ((rd_T48 l0_3 x33_3).f0), .int .i64 ((rd_T48 l0_3 x33_3).f1), .int .i64 ((rd_T48 l0_3 x33_3).f2), .int .i64 0]) ?_ 3 _ rfl; (with_reducible repeat (first | refine blk_drewN ?_ _ | refine blk_drew ?_ | refine blk_alloc ?_ _)); refine blk_put (cs := #[.int .i64 ((rd_T48 l0_3 x33_3).f0), .int .i64 ((rd_T48 l0_3 x33_3).f1), .int .i64 0, .int .i64 0]) ?_ 2 _ rfl; (with_reducible repeat (first | refine blk_drewN ?_ _ | refine blk_drew ?_ | refine blk_alloc ?_ _)); refine blk_put (cs := #[.int .i64 ((rd_T48 l0_3 x33_3).f0), .int .i64 0, .int .i64 0, .int .i64 0]) ?_ 1 _ rfl; (with_reducible repeat (first | refine blk_drewN ?_ _ | refine blk_drew ?_ | refine blk_alloc ?_ _)); refine blk_put (cs := #[.int .i64 0, .int .i64 0, .int .i64 0, .int .i64 0]) ?_ 0 _ rfl; (with_reducible repeat (first | refine blk_drewN ?_ _ | refine blk_drew ?_ | refine blk_alloc ?_ _)); exact BK115.out⟩
        have n2_ : Aside0 (Below w.heap.size w ((((w20.setCell ⟨gb115, 0, none⟩ (.int .i64 ((rd_T48 l0_3 x33_3).f0))).setCell ⟨gb115, 1, none⟩ (.int .i64 ((rd_T48 l0_3 x33_3).f1))).setCell ⟨gb115, 2, none⟩ (.int .i64 ((rd_T48 l0_3 x33_3).f2))).setCell ⟨gb115, 3, none⟩ (.int .i64 ((rd_T48 l0_3 x33_3).f3)))) := ⟨bl_⟩
        generalize ((((w20.setCell ⟨gb115, 0, none⟩ (.int .i64 ((rd_T48 l0_3 x33_3).f0))).setCell ⟨gb115, 1, none⟩ (.int .i64 ((rd_T48 l0_3 x33_3).f1))).setCell ⟨gb115, 2, none⟩ (.int .i64 ((rd_T48 l0_3 x33_3).f2))).setCell ⟨gb115, 3, none⟩ (.int .i64 ((rd_T48 l0_3 x33_3).f3))) = w44 at n0_ n1_ n2_ ⊢
        have BK111 := n0_
        have BK115 := n1_
        have HB := n2_
        clear n0_ n1_ n2_
        have n0_ := Aside0.mk (blk_drew BK111.out)
        have n1_ := Aside0.mk (blk_drew BK115.out)
        have n2_ := Aside0.mk (below_drew1 HB.out)
        clear BK111
        clear BK115
        clear HB
        have BK111 := n0_
        have BK115 := n1_
        have HB := n2_
        clear n0_ n1_ n2_
        refine start_ (n := 27) (S := fun w' => w'.cell? ⟨gb115, 0, none⟩ = some (.int .i64 ((rd_T48 l0_3 x33_3).f0)) ∧ w'.cell? ⟨gb115, 1, none⟩ = some (.int .i64 ((rd_T48 l0_3 x33_3).f1)) ∧ w'.cell? ⟨gb115, 2, none⟩ = some (.int .i64 ((rd_T48 l0_3 x33_3).f2)) ∧ w'.cell? ⟨gb115, 3, none⟩ = some (.int .i64 ((rd_T48 l0_3 x33_3).f3)) ∧ w'.cell? ⟨gb111, 0, none⟩ = some (.int .i64 a0_0) ∧ w'.cell? ⟨gb111, 1, none⟩ = some (.int .i64 a0_1) ∧ w'.cell? ⟨gb111, 2, none⟩ = some (.bool a0_2) ∧ w'.cell? ⟨gb111, 3, none⟩ = some (.slice (some ad114) l0_3.length c0_3) ∧ w'.cell? ⟨gb111, 4, none⟩ = some (.slice A0_4 l0_4.length c0_4) ∧ w'.cell? ⟨gb111, 5, none⟩ = some (.slice A0_5 l0_5.length c0_5)) (ds := []) (bz 27 0) (by kernel_rfl) rfl rfl ⟨(blk_cell BK115.out 0).trans rfl, (blk_cell BK115.out 1).trans rfl, (blk_cell BK115.out 2).trans rfl, (blk_cell BK115.out 3).trans rfl, (blk_cell BK111.out 0).trans rfl, (blk_cell BK111.out 1).trans rfl, (blk_cell BK111.out 2).trans rfl, (blk_cell BK111.out 3).trans rfl, (blk_cell BK111.out 4).trans rfl, (blk_cell BK111.out 5).trans rfl⟩ (fun hHeld => ?_); refine with_tabW dataflow_Valid.tab9 dataflow_Valid.bits9 (fun HT_ HW_ => ?_)
        generalize w44.drew = w45 at BK111 BK115 HB hHeld ⊢
        refine pu_ 0 37 HT_ ?_
        refine tk_ 1 38 HT_ HW_ hHeld ?_ (hy := by rintro w' ⟨s0, s1, s2, s3, s4, s5, s6, s7, s8, s9⟩; go_simp; with_reducible rfl)
        refine tk_ 2 39 HT_ HW_ hHeld ?_ (hy := by rintro w' ⟨s0, s1, s2, s3, s4, s5, s6, s7, s8, s9⟩; go_simp; with_reducible rfl)
        refine on_ 3 (some 40) HT_ (fun K hK => ?_)
        refine gs_ Try.func44 #[.agg #[.int .i64 a0_0, .int .i64 a0_1, .bool a0_2, .slice (some ad114) l0_3.length c0_3, .slice A0_4 l0_4.length c0_4, .slice A0_5 l0_5.length c0_5]] ?_
        with_reducible refine (dataflow_Source.calls a0_0 a0_1 a0_2 _ _ l0_3 _ _ l0_4 _ _ l0_5 t116 _ ?side1 ?side2 ?side3 ?side4 ?side5 ?side6 A23.out).mono ?_
        (case side1 => exact CB_ HR0_3)
        (case side2 => exact HC0_3.out)
        (case side3 => exact CB_ HR0_4)
        (case side4 => exact HC0_4.out)
        (case side5 => exact CB_ HR0_5)
        (case side6 => exact HC0_5.out)
        rintro e w46 ⟨rfl, hb⟩
        refine ⟨_, rfl, ?_⟩
        have n0_ := Aside0.mk (blk_below (K_ BK111) hb)
        have n1_ := Aside0.mk (blk_below (K_ BK115) hb)
        have n2_ := Aside0.mk (below_step bl_ hb)
        clear BK111
        clear BK115
        clear HB
        have BK111 := n0_
        have BK115 := n1_
        have HB := n2_
        clear n0_ n1_ n2_
        refine hK.out _ _ ⟨(blk_cell BK115.out 0).trans rfl, (blk_cell BK115.out 1).trans rfl, (blk_cell BK115.out 2).trans rfl, (blk_cell BK115.out 3).trans rfl, (blk_cell BK111.out 0).trans rfl, (blk_cell BK111.out 1).trans rfl, (blk_cell BK111.out 2).trans rfl, (blk_cell BK111.out 3).trans rfl, (blk_cell BK111.out 4).trans rfl, (blk_cell BK111.out 5).trans rfl⟩ (fun hHeld => ?_)
        clear hK K
        refine no_ 40 ?_
        refine on_ 4 (some 41) HT_ (fun K hK => ?_)
        refine gs_ Try.func43 #[.int .i64 ((rd_T48 l0_3 x33_3).f0), .int .i64 0, .int .i64 t116] ?_
        with_reducible refine (dataflow_between.calls ((rd_T48 l0_3 x33_3).f0) 0 t116 false _ A24.out).mono ?_
        rintro e w' ⟨rfl, ⟨nd, rfl⟩⟩
        refine ⟨_, rfl, ?_⟩
        refine hK.out _ _ ⟨(blk_cell BK115.out 0).trans rfl, (blk_cell BK115.out 1).trans rfl, (blk_cell BK115.out 2).trans rfl, (blk_cell BK115.out 3).trans rfl, (blk_cell BK111.out 0).trans rfl, (blk_cell BK111.out 1).trans rfl, (blk_cell BK111.out 2).trans rfl, (blk_cell BK111.out 3).trans rfl, (blk_cell BK111.out 4).trans rfl, (blk_cell BK111.out 5).trans rfl⟩ (fun hHeld => ?_)
        clear hK K
        refine no_ 41 ?_
        refine pu_ 5 42 HT_ ?_
        refine pu_ 6 43 HT_ ?_
        refine pn_ 7 44 HT_ ?_
        refine pn_ 8 45 HT_ ?_
        refine pn_ 9 46 HT_ ?_
        refine pn_ 10 47 HT_ ?_
        refine pn_ 11 48 HT_ ?_
        refine pn_ 12 49 HT_ ?_
        refine pu_ 13 50 HT_ ?_
        refine pu_ 14 51 HT_ ?_
        refine pn_ 15 52 HT_ ?_
        refine pn_ 16 53 HT_ ?_
        refine pn_ 17 54 HT_ ?_
        refine pn_ 18 55 HT_ ?_
        refine pu_ 19 56 HT_ ?_
        refine pu_ 20 57 HT_ ?_
        refine pn_ 21 58 HT_ ?_
        refine pn_ 22 59 HT_ ?_
        refine pn_ 23 60 HT_ ?_
        refine pn_ 24 61 HT_ ?_
        refine pn_ 25 62 HT_ ?_
        refine pu_ 26 63 HT_ ?_
        refine done_ (done_of HT_.out (by kernel_rfl)) ?_
        try go_wp2
        go_meet
        case rel => exact ⟨_, (true), (by first | rfl | (simp; done) | (simp [*]; done)), H', ⟨by have := HJ1.out; have := HJ11.out; have := HK3.out; first | omega | exact Nat.le_refl _⟩, ⟨K_ BK111⟩, ⟨K_ BK115⟩, ⟨bl_⟩⟩
       clear HC19
       obtain ⟨kq, x63_18, rfl, HA, HJ18, BK111, BK115, HB⟩ := hcut
       cases kq with
       | zero => exact absurd HA.out (by simp [dataflow_Valid.j3])
       | succ kj18 => ?_
       have H := HA.out
       clear HA
       simp only [dataflow_Valid.j3] at H
       by_cases c47 : x63_18 = true
       · subst c47
         have H1 : (some false) = some r := by rw [if_pos rfl] at H; exact H
         clear H
         have H := H1
         clear H1
         obtain rfl := Option.some.inj H
         go_wp2
         go_ret
         exact ⟨by first | rfl | (simp [errW_none, errW_some] <;> rfl) | (simp [*, errW_none, errW_some] <;> rfl), by repeat (first | (with_reducible first | exact HB.out | apply below_alloc | apply pw_below_drewN | apply below_drew1 | refine below_set ?_ GE111.out | refine below_set ?_ GE115.out) | exact HB.out)⟩
       replace c47 := Bool.eq_false_iff.mpr c47
       subst c47
       have H1 : (dataflow_Valid.l0 kj18 x3_11 l0_3 (l0_3.length : Int) (wrap64 (x33_3 + 1)) a0_0 a0_1 a0_2 l0_3 l0_4 l0_5) = some r := by rw [if_neg (show ¬ (false = true) by decide)] at H; exact H
       clear H
       have H := H1
       clear H1
       have H' := Aside0.mk H
       clear H
       go_wp2
       go_roundg kj18
       case measure => have := HJ1.out; have := HJ11.out; have := HK3.out; have := HJ18.out; omega
       case rel => exact ⟨(wrap64 (x33_3 + 1)), (by first | rfl | (simp; done) | (simp [*]; done)), H', ⟨by have := HJ1.out; have := HJ11.out; have := HK3.out; have := HJ18.out; omega⟩, ⟨K_ BK111⟩, ⟨bl_⟩⟩
     rw [if_neg c18] at H
     exact absurd H (by simp)
   rw [if_neg c17] at H
   exact absurd H (by simp)
 rw [if_neg c16] at H
 have c16b0 : decide (x33_3 < (l0_3.length : Int)) = false := decide_eq_false c16
 clear c16
 have H' := Aside0.mk H
 clear H
 obtain ⟨hcz48_0, hcz48_1, hcz48_2, hcz48_3, hcz48_4, hcz48_5⟩ := cells6 BK111
 obtain ⟨hfz48_0, hfz48_1, hfz48_2, hfz48_3, hfz48_4, hfz48_5⟩ := fz6 BK111
 go_wp2
 go_loopg [68] k3 (fun kq v68 w' => ∃ (x68_4 : Int), v68 = .int .i64 x68_4 ∧ Aside0 (dataflow_Valid.l1 kq l0_4 (l0_4.length : Int) x68_4 a0_0 a0_1 a0_2 l0_3 l0_4 l0_5 = some r) ∧ Aside0 (kq ≤ k3) ∧ Aside0 (w'.heap[gb111]? = some (.cells #[.int .i64 a0_0, .int .i64 a0_1, .bool a0_2, (.slice A0_3 l0_3.length c0_3), (.slice A0_4 l0_4.length c0_4), (.slice A0_5 l0_5.length c0_5)] 26 (0, 0))) ∧ Aside0 (Below w.heap.size w w'))
 case atStart => exact ⟨(0), (by first | rfl | (simp; done) | (simp [*]; done)), H', ⟨Nat.le_refl _⟩, ⟨K_ BK111⟩, ⟨bl_⟩⟩
 clear H'
 obtain ⟨x68_4, rfl, HA, HK4, BK111, HB⟩ := hrel
 cases gk with
 | zero => exact absurd HA.out (by simp [dataflow_Valid.l1])
 | succ k4 => ?_
 have H := HA.out
 clear HA
 simp only [dataflow_Valid.l1] at H
 by_cases c49 : x68_4 < (l0_4.length : Int)
 · rw [if_pos c49] at H
   have c49b0 : decide (x68_4 < (l0_4.length : Int)) = true := decide_eq_true c49
   clear c49
   by_cases c50 : 0 ≤ x68_4
   · rw [if_pos c50] at H
     have c50b0 : decide (0 ≤ x68_4) = true := decide_eq_true c50
     clear c50
     by_cases c51 : x68_4 < (l0_4.length : Int)
     · rw [if_pos c51] at H
       have c51b0 : decide (x68_4 < (l0_4.length : Int)) = true := decide_eq_true c51
       clear c51
       have HC52 := Aside0.mk H
       clear H
       have p122 : 0 ≤ (x68_4 : Int) := of_decide_eq_true (by first | (with_reducible assumption) | assumption)
       have q122 : x68_4 < (l0_4.length : Int) := of_decide_eq_true (by first | (with_reducible assumption) | assumption)
       obtain ⟨ad122, e122, hx122_0, hx122_1, hx122_2, hx122_3⟩ := at_T50 HR0_4.out x68_4 p122 q122
       cases e122
       replace hx122_0 := hc_ HB hx122_0
       replace hx122_1 := hc_ HB hx122_1
       replace hx122_2 := hc_ HB hx122_2
       replace hx122_3 := hc_ HB hx122_3
       replace p122 := eq_true p122
       replace q122 := eq_true q122
       go_upto_region 15 with (first | ((with_reducible refine gate_dst (N := 7) rfl ?_); (try (refine gate_guard (by rfl) ?_; dsimp only)); refine box_event ?hg (N := 7) ?hd (cs := #[.int .i64 0, .int .i64 0, .int .i64 0, .int .i64 0]) (t := 50) ?hr ?_; (case hd => rfl); (case hg => rfl); (case hr => first | (go_simp; done) | (go_simp; rfl)); intro gb123 hg w53 hbox hb; have n0_ := Aside0.mk (blk_below (K_ BK111) hb); have n1_ := Aside0.mk (below_step bl_ hb); have n2_ := Aside0.mk (hbox); have n3_ := Aside0.mk (gl_ (w := w) hg); have n4_ := Aside0.mk (gl_ (w := w) hg); have n5_ := Aside0.mk (nl_ hg (K_ BK111)); have n6_ := Aside0.mk (ng_ hg (K_ BK111)); clear BK111; clear HB; have BK111 := n0_; have HB := n1_; have BK123 := n2_; have GW123 := n3_; have GE123 := n4_; have NB111_123 := n5_; have NB123_111 := n6_; clear n0_ n1_ n2_ n3_ n4_ n5_ n6_; clear hb hbox hg; obtain ⟨hcz55_0, hcz55_1, hcz55_2, hcz55_3⟩ := cells4 BK123; obtain ⟨hfz55_0, hfz55_1, hfz55_2, hfz55_3⟩ := fz4 BK123))
       (try simp only [Act.put, List.setIfInBounds_toArray, List.set_cons_zero, List.set_cons_succ])
       go_cut [81] (fun v81 wc => ∃ (kq : Nat) (x81_51 : Bool), v81 = .bool x81_51 ∧ Aside0 (dataflow_Valid.j5 kq l0_4 (l0_4.length : Int) x68_4 x81_51 a0_0 a0_1 a0_2 l0_3 l0_4 l0_5 = some r) ∧ Aside0 (kq ≤ k4) ∧ Aside0 (wc.heap[gb111]? = some (.cells #[.int .i64 a0_0, .int .i64 a0_1, .bool a0_2, (.slice A0_3 l0_3.length c0_3), (.slice (some ad122) l0_4.length c0_4), (.slice A0_5 l0_5.length c0_5)] 26 (0, 0))) ∧ Aside0 (wc.heap[gb123]? = some (.cells #[.int .i64 ((rd_T50 l0_4 x68_4).f0), .int .i64 ((rd_T50 l0_4 x68_4).f1), .int .i64 ((rd_T50 l0_4 x68_4).f2), .int .i64 ((rd_T50 l0_4 x68_4).f3)] 50 (0, 0))) ∧ Aside0 (Below w.heap.size w wc))
       case first =>
        have H := HC52.out
        clear HC52
        replace H := Option.bind_eq_some_iff.mp H
        obtain ⟨t124, A560, H⟩ := H
        replace H : (if t124 = true then ((dataflow_between.f ((rd_T50 l0_4 x68_4).f3) 1 1024).bind fun t125 => (dataflow_Valid.j5 k4 l0_4 (l0_4.length : Int) x68_4 (!t125) a0_0 a0_1 a0_2 l0_3 l0_4 l0_5)) else (dataflow_Valid.j5 k4 l0_4 (l0_4.length : Int) x68_4 true a0_0 a0_1 a0_2 l0_3 l0_4 l0_5)) = some r := H
        have A56 := Aside0.mk A560
        clear A560
        by_cases c57 : t124 = true
        · subst c57
          have H1 : ((dataflow_between.f ((rd_T50 l0_4 x68_4).f3) 1 1024).bind fun t125 => (dataflow_Valid.j5 k4 l0_4 (l0_4.length : Int) x68_4 (!t125) a0_0 a0_1 a0_2 l0_3 l0_4 l0_5)) = some r := by rw [if_pos rfl] at H; exact H
          clear H
          have H := H1
          clear H1
          replace H := Option.bind_eq_some_iff.mp H
          obtain ⟨t125, A580, H⟩ := H
          replace H : (dataflow_Valid.j5 k4 l0_4 (l0_4.length : Int) x68_4 (!t125) a0_0 a0_1 a0_2 l0_3 l0_4 l0_5) = some r := H
          have A58 := Aside0.mk A580
          clear A580
          have H' := Aside0.mk H
          clear H
          obtain ⟨hcz60_0, hcz60_1, hcz60_2, hcz60_3⟩ := cells4 BK123
          obtain ⟨hfz60_0, hfz60_1, hfz60_2, hfz60_3⟩ := fz4 BK123
          go_wp2_with (first | ((with_reducible refine gate_callee (f := 43) rfl ?_); refine gL_ 74 Try.func43 #[.int .i64 ((rd_T50 l0_4 x68_4).f0), .int .i64 1, .int .i64 4] ?_; (with_reducible refine (dataflow_between.calls ((rd_T50 l0_4 x68_4).f0) 1 4 true _ A56.out).mono ?_); rintro e w' ⟨rfl, ⟨nd, rfl⟩⟩; refine ⟨_, rfl, ?_⟩) | (go_at_call 43; (with_reducible refine (dataflow_between.calls ((rd_T50 l0_4 x68_4).f3) 1 1024 t125 _ A58.out).mono ?_); rintro e w' ⟨rfl, ⟨nd, rfl⟩⟩))
          go_meet
          case rel => exact ⟨_, (!t125), (by first | rfl | (simp; done) | (simp [*]; done)), H', ⟨by have := HJ1.out; have := HJ11.out; have := HK3.out; have := HK4.out; first | omega | exact Nat.le_refl _⟩, ⟨by (with_reducible repeat (first | refine blk_drewN ?_ _ | refine blk_drew ?_ | refine blk_alloc ?_ _)); refine blk_far ?_ NB111_123.out _; (with_reducible repeat (first | refine blk_drewN ?_ _ | refine blk_drew ?_ | refine blk_alloc ?_ _)); refine blk_far ?_ NB111_123.out _; (with_reducible repeat (first | refine blk_drewN ?_ _ | refine blk_drew ?_ | refine blk_alloc ?_ _)); refine blk_far ?_ NB111_123.out _; (with_reducible repeat (first | refine blk_drewN ?_ _ | refine blk_drew ?_ | refine blk_alloc ?_ _)); refine blk_far ?_ NB111_123.out _; (with_reducible repeat (first | refine blk_drewN ?_ _ | refine blk_drew ?_ | refine blk_alloc ?_ _)); exact BK111.out⟩, ⟨by (with_reducible repeat (first | refine blk_drewN ?_ _ | refine blk_drew ?_ | refine blk_alloc ?_ _)); refine blk_put (cs := #[.int .i64 ((rd_T50 l0_4 x68_4).f0), .int .i64 ((rd_T50 l0_4 x68_4).f1), .int .i64 ((rd_T50 l0_4 x68_4).f2), .int .i64 0]) ?_ 3 _ rfl; (with_reducible repeat (first | refine blk_drewN ?_ _ | refine blk_drew ?_ | refine blk_alloc ?_ _)); refine blk_put (cs := #[.int .i64 ((rd_T50 l0_4 x68_4).f0), .int .i64 ((rd_T50 l0_4 x68_4).f1), .int .i64 0, .int .i64 0]) ?_ 2 _ rfl; (with_reducible repeat (first | refine blk_drewN ?_ _ | refine blk_drew ?_ | refine blk_alloc ?_ _)); refine blk_put (cs := #[.int .i64 ((rd_T50 l0_4 x68_4).f0), .int .i64 0, .int .i64 0, .int .i64 0]) ?_ 1 _ rfl; (with_reducible repeat (first | refine blk_drewN ?_ _ | refine blk_drew ?_ | refine blk_alloc ?_ _)); refine blk_put (cs := #[.int .i64 0, .int .i64 0, .int .i64 0, .int .i64 0]) ?_ 0 _ rfl; (with_reducible repeat (first | refine blk_drewN ?_ _ | refine blk_drew ?_ | refine blk_alloc ?_ _)); exact BK123.out⟩, ⟨bl_⟩⟩
        replace c57 := Bool.eq_false_iff.mpr c57
        subst c57
        have H1 : (dataflow_Valid.j5 k4 l0_4 (l0_4.length : Int) x68_4 true a0_0 a0_1 a0_2 l0_3 l0_4 l0_5) = some r := by rw [if_neg (show ¬ (false = true) by decide)] at H; exact H
        clear H
        have H := H1
        clear H1
        have H' := Aside0.mk H
        clear H
        obtain ⟨hcz62_0, hcz62_1, hcz62_2, hcz62_3⟩ := cells4 BK123
        obtain ⟨hfz62_0, hfz62_1, hfz62_2, hfz62_3⟩ := fz4 BK123
        go_wp2_with (first | ((with_reducible refine gate_callee (f := 43) rfl ?_); refine gL_ 74 Try.func43 #[.int .i64 ((rd_T50 l0_4 x68_4).f0), .int .i64 1, .int .i64 4] ?_; (with_reducible refine (dataflow_between.calls ((rd_T50 l0_4 x68_4).f0) 1 4 false _ A56.out).mono ?_); rintro e w' ⟨rfl, ⟨nd, rfl⟩⟩; refine ⟨_, rfl, ?_⟩))
        go_meet
        case rel => exact ⟨_, (true), (by first | rfl | (simp; done) | (simp [*]; done)), H', ⟨by have := HJ1.out; have := HJ11.out; have := HK3.out; have := HK4.out; first | omega | exact Nat.le_refl _⟩, ⟨by (with_reducible repeat (first | refine blk_drewN ?_ _ | refine blk_drew ?_ | refine blk_alloc ?_ _)); refine blk_far ?_ NB111_123.out _; (with_reducible repeat (first | refine blk_drewN ?_ _ | refine blk_drew ?_ | refine blk_alloc ?_ _)); refine blk_far ?_ NB111_123.out _; (with_reducible repeat (first | refine blk_drewN ?_ _ | refine blk_drew ?_ | refine blk_alloc ?_ _)); refine blk_far ?_ NB111_123.out _; (with_reducible repeat (first | refine blk_drewN ?_ _ | refine blk_drew ?_ | refine blk_alloc ?_ _)); refine blk_far ?_ NB111_123.out _; (with_reducible repeat (first | refine blk_drewN ?_ _ | refine blk_drew ?_ | refine blk_alloc ?_ _)); exact BK111.out⟩, ⟨by (with_reducible repeat (first | refine blk_drewN ?_ _ | refine blk_drew ?_ | refine blk_alloc ?_ _)); refine blk_put (cs := #[.int .i64 ((rd_T50 l0_4 x68_4).f0), .int .i64 ((rd_T50 l0_4 x68_4).f1), .int .i64 ((rd_T50 l0_4 x68_4).f2), .int .i64 0]) ?_ 3 _ rfl; (with_reducible repeat (first | refine blk_drewN ?_ _ | refine blk_drew ?_ | refine blk_alloc ?_ _)); refine blk_put (cs := #[.int .i64 ((rd_T50 l0_4 x68_4).f0), .int .i64 ((rd_T50 l0_4 x68_4).f1), .int .i64 0, .int .i64 0]) ?_ 2 _ rfl; (with_reducible repeat (first | refine blk_drewN ?_ _ | refine blk_drew ?_ | refine blk_alloc ?_ _)); refine blk_put (cs := #[.int .i64 ((rd_T50 l0_4 x68_4).f0), .int .i64 0, .int .i64 0, .int .i64 0]) ?_ 1 _ rfl; (with_reducible repeat (first | refine blk_drewN ?_ _ | refine blk_drew ?_ | refine blk_alloc ?_ _)); refine blk_put (cs := #[.int .i64 0, .int .i64 0, .int .i64 0, .int .i64 0]) ?_ 0 _ rfl; (with_reducible repeat (first | refine blk_drewN ?_ _ | refine blk_drew ?_ | refine blk_alloc ?_ _)); exact BK123.out⟩, ⟨bl_⟩⟩
       clear HC52
       obtain ⟨kq, x81_51, rfl, HA, HJ51, BK111, BK123, HB⟩ := hcut
       cases kq with
       | zero => exact absurd HA.out (by simp [dataflow_Valid.j5])
       | succ kj51 => ?_
       have H := HA.out
       clear HA
       simp only [dataflow_Valid.j5] at H
       by_cases c63 : x81_51 = true
       · subst c63
         have H1 : (some false) = some r := by rw [if_pos rfl] at H; exact H
         clear H
         have H := H1
         clear H1
         obtain rfl := Option.some.inj H
         go_wp2
         go_ret
         exact ⟨by first | rfl | (simp [errW_none, errW_some] <;> rfl) | (simp [*, errW_none, errW_some] <;> rfl), by repeat (first | (with_reducible first | exact HB.out | apply below_alloc | apply pw_below_drewN | apply below_drew1 | refine below_set ?_ GE111.out | refine below_set ?_ GE123.out) | exact HB.out)⟩
       replace c63 := Bool.eq_false_iff.mpr c63
       subst c63
       have H1 : (dataflow_Valid.l1 kj51 l0_4 (l0_4.length : Int) (wrap64 (x68_4 + 1)) a0_0 a0_1 a0_2 l0_3 l0_4 l0_5) = some r := by rw [if_neg (show ¬ (false = true) by decide)] at H; exact H
       clear H
       have H := H1
       clear H1
       have H' := Aside0.mk H
       clear H
       go_wp2
       go_roundg kj51
       case measure => have := HJ1.out; have := HJ11.out; have := HK3.out; have := HK4.out; have := HJ51.out; omega
       case rel => exact ⟨(wrap64 (x68_4 + 1)), (by first | rfl | (simp; done) | (simp [*]; done)), H', ⟨by have := HJ1.out; have := HJ11.out; have := HK3.out; have := HK4.out; have := HJ51.out; omega⟩, ⟨K_ BK111⟩, ⟨bl_⟩⟩
     rw [if_neg c51] at H
     exact absurd H (by simp)
   rw [if_neg c50] at H
   exact absurd H (by simp)
 rw [if_neg c49] at H
 have c49b0 : decide (x68_4 < (l0_4.length : Int)) = false := decide_eq_false c49
 clear c49
 have H' := Aside0.mk H
 clear H
 obtain ⟨hcz64_0, hcz64_1, hcz64_2, hcz64_3, hcz64_4, hcz64_5⟩ := cells6 BK111
 obtain ⟨hfz64_0, hfz64_1, hfz64_2, hfz64_3, hfz64_4, hfz64_5⟩ := fz6 BK111
 go_wp2
 go_loopg [86] k4 (fun kq v86 w' => ∃ (x86_5 : Int), v86 = .int .i64 x86_5 ∧ Aside0 (dataflow_Valid.l2 kq l0_5 (l0_5.length : Int) x86_5 a0_0 a0_1 a0_2 l0_3 l0_4 l0_5 = some r) ∧ Aside0 (kq ≤ k4) ∧ Aside0 (w'.heap[gb111]? = some (.cells #[.int .i64 a0_0, .int .i64 a0_1, .bool a0_2, (.slice A0_3 l0_3.length c0_3), (.slice A0_4 l0_4.length c0_4), (.slice A0_5 l0_5.length c0_5)] 26 (0, 0))) ∧ Aside0 (Below w.heap.size w w'))
 case atStart => exact ⟨(0), (by first | rfl | (simp; done) | (simp [*]; done)), H', ⟨Nat.le_refl _⟩, ⟨K_ BK111⟩, ⟨bl_⟩⟩
 clear H'
 obtain ⟨x86_5, rfl, HA, HK5, BK111, HB⟩ := hrel
 cases gk with
 | zero => exact absurd HA.out (by simp [dataflow_Valid.l2])
 | succ k5 => ?_
 have H := HA.out
 clear HA
 simp only [dataflow_Valid.l2] at H
 by_cases c65 : x86_5 < (l0_5.length : Int)
 · rw [if_pos c65] at H
   have c65b0 : decide (x86_5 < (l0_5.length : Int)) = true := decide_eq_true c65
   clear c65
   by_cases c66 : 0 ≤ x86_5
   · rw [if_pos c66] at H
     have c66b0 : decide (0 ≤ x86_5) = true := decide_eq_true c66
     clear c66
     by_cases c67 : x86_5 < (l0_5.length : Int)
     · rw [if_pos c67] at H
       have c67b0 : decide (x86_5 < (l0_5.length : Int)) = true := decide_eq_true c67
       clear c67
       have HC68 := Aside0.mk H
       clear H
       have p126 : 0 ≤ (x86_5 : Int) := of_decide_eq_true (by first | (with_reducible assumption) | assumption)
       have q126 : x86_5 < (l0_5.length : Int) := of_decide_eq_true (by first | (with_reducible assumption) | assumption)
       obtain ⟨ad126, e126, hx126_0, hx126_1⟩ := at_T52 HR0_5.out x86_5 p126 q126
       cases e126
       replace hx126_0 := hc_ HB hx126_0
       replace hx126_1 := hc_ HB hx126_1
       replace p126 := eq_true p126
       replace q126 := eq_true q126
       go_upto_region 21 with (first | ((with_reducible refine gate_dst (N := 9) rfl ?_); (try (refine gate_guard (by rfl) ?_; dsimp only)); refine box_event ?hg (N := 9) ?hd (cs := #[.int .i64 0, .int .i64 0]) (t := 52) ?hr ?_; (case hd => rfl); (case hg => rfl); (case hr => first | (go_simp; done) | (go_simp; rfl)); intro gb127 hg w69 hbox hb; have n0_ := Aside0.mk (blk_below (K_ BK111) hb); have n1_ := Aside0.mk (below_step bl_ hb); have n2_ := Aside0.mk (hbox); have n3_ := Aside0.mk (gl_ (w := w) hg); have n4_ := Aside0.mk (gl_ (w := w) hg); have n5_ := Aside0.mk (nl_ hg (K_ BK111)); have n6_ := Aside0.mk (ng_ hg (K_ BK111)); clear BK111; clear HB; have BK111 := n0_; have HB := n1_; have BK127 := n2_; have GW127 := n3_; have GE127 := n4_; have NB111_127 := n5_; have NB127_111 := n6_; clear n0_ n1_ n2_ n3_ n4_ n5_ n6_; clear hb hbox hg; obtain ⟨hcz71_0, hcz71_1⟩ := cells2 BK127; obtain ⟨hfz71_0, hfz71_1⟩ := fz2 BK127))
       (try simp only [Act.put, List.setIfInBounds_toArray, List.set_cons_zero, List.set_cons_succ])
       go_cut [97] (fun v97 wc => ∃ (kq : Nat) (x97_67 : Bool), v97 = .bool x97_67 ∧ Aside0 (dataflow_Valid.j7 kq l0_5 (l0_5.length : Int) x86_5 x97_67 a0_0 a0_1 a0_2 l0_3 l0_4 l0_5 ((rd_T52 l0_5 x86_5).f0) ((rd_T52 l0_5 x86_5).f1) = some r) ∧ Aside0 (kq ≤ k5) ∧ Aside0 (wc.heap[gb111]? = some (.cells #[.int .i64 a0_0, .int .i64 a0_1, .bool a0_2, (.slice A0_3 l0_3.length c0_3), (.slice A0_4 l0_4.length c0_4), (.slice (some ad126) l0_5.length c0_5)] 26 (0, 0))) ∧ Aside0 (wc.heap[gb127]? = some (.cells #[.int .i64 ((rd_T52 l0_5 x86_5).f0), .int .i64 ((rd_T52 l0_5 x86_5).f1)] 52 (0, 0))) ∧ Aside0 (Below w.heap.size w wc))
       case first =>
        have H := HC68.out
        clear HC68
        by_cases c72 : ((rd_T52 l0_5 x86_5).f0) = (-1)
        · rw [if_pos c72] at H
          have c72b0 : (((rd_T52 l0_5 x86_5).f0) == (-1)) = true := beq_iff_eq.mpr c72
          have c72b1 : (((rd_T52 l0_5 x86_5).f0) != (-1)) = false := bne_eq_false_iff_eq.mpr c72
          clear c72
          (first | rw [c72b0] | (simp only [i64_w, i32_w]; rw [c72b0]) | skip)
          have H' := Aside0.mk H
          clear H
          obtain ⟨hcz74_0, hcz74_1⟩ := cells2 BK127
          obtain ⟨hfz74_0, hfz74_1⟩ := fz2 BK127
          go_wp2
          go_meet
          case rel => exact ⟨_, ((((rd_T52 l0_5 x86_5).f1) == 0)), (by first | rfl | (simp; done) | (simp [*]; done)), H', ⟨by have := HJ1.out; have := HJ11.out; have := HK3.out; have := HK4.out; have := HK5.out; first | omega | exact Nat.le_refl _⟩, ⟨by (with_reducible repeat (first | refine blk_drewN ?_ _ | refine blk_drew ?_ | refine blk_alloc ?_ _)); refine blk_far ?_ NB111_127.out _; (with_reducible repeat (first | refine blk_drewN ?_ _ | refine blk_drew ?_ | refine blk_alloc ?_ _)); refine blk_far ?_ NB111_127.out _; (with_reducible repeat (first | refine blk_drewN ?_ _ | refine blk_drew ?_ | refine blk_alloc ?_ _)); exact BK111.out⟩, ⟨by (with_reducible repeat (first | refine blk_drewN ?_ _ | refine blk_drew ?_ | refine blk_alloc ?_ _)); refine blk_put (cs := #[.int .i64 ((rd_T52 l0_5 x86_5).f0), .int .i64 0]) ?_ 1 _ rfl; (with_reducible repeat (first | refine blk_drewN ?_ _ | refine blk_drew ?_ | refine blk_alloc ?_ _)); refine blk_put (cs := #[.int .i64 0, .int .i64 0]) ?_ 0 _ rfl; (with_reducible repeat (first | refine blk_drewN ?_ _ | refine blk_drew ?_ | refine blk_alloc ?_ _)); exact BK127.out⟩, ⟨bl_⟩⟩
        rw [if_neg c72] at H
        have c72b0 : (((rd_T52 l0_5 x86_5).f0) == (-1)) = false := beq_eq_false_iff_ne.mpr c72
        have c72b1 : (((rd_T52 l0_5 x86_5).f0) != (-1)) = true := bne_iff_ne.mpr c72
        (first | rw [c72b0] | (simp only [i64_w, i32_w]; rw [c72b0]) | skip)
        have H' := Aside0.mk H
        clear H
        obtain ⟨hcz76_0, hcz76_1⟩ := cells2 BK127
        obtain ⟨hfz76_0, hfz76_1⟩ := fz2 BK127
        go_wp2
        go_meet
        case rel => exact ⟨_, (false), (by first | rfl | (simp; done) | (simp [*]; done)), H', ⟨by have := HJ1.out; have := HJ11.out; have := HK3.out; have := HK4.out; have := HK5.out; first | omega | exact Nat.le_refl _⟩, ⟨by (with_reducible repeat (first | refine blk_drewN ?_ _ | refine blk_drew ?_ | refine blk_alloc ?_ _)); refine blk_far ?_ NB111_127.out _; (with_reducible repeat (first | refine blk_drewN ?_ _ | refine blk_drew ?_ | refine blk_alloc ?_ _)); refine blk_far ?_ NB111_127.out _; (with_reducible repeat (first | refine blk_drewN ?_ _ | refine blk_drew ?_ | refine blk_alloc ?_ _)); exact BK111.out⟩, ⟨by (with_reducible repeat (first | refine blk_drewN ?_ _ | refine blk_drew ?_ | refine blk_alloc ?_ _)); refine blk_put (cs := #[.int .i64 ((rd_T52 l0_5 x86_5).f0), .int .i64 0]) ?_ 1 _ rfl; (with_reducible repeat (first | refine blk_drewN ?_ _ | refine blk_drew ?_ | refine blk_alloc ?_ _)); refine blk_put (cs := #[.int .i64 0, .int .i64 0]) ?_ 0 _ rfl; (with_reducible repeat (first | refine blk_drewN ?_ _ | refine blk_drew ?_ | refine blk_alloc ?_ _)); exact BK127.out⟩, ⟨bl_⟩⟩
       clear HC68
       obtain ⟨kq, x97_67, rfl, HA, HJ67, BK111, BK127, HB⟩ := hcut
       cases kq with
       | zero => exact absurd HA.out (by simp [dataflow_Valid.j7])
       | succ kj67 => ?_
       have H := HA.out
       clear HA
       simp only [dataflow_Valid.j7] at H
       by_cases c77 : x97_67 = true
       · subst c77
         have H1 : (dataflow_Valid.l2 kj67 l0_5 (l0_5.length : Int) (wrap64 (x86_5 + 1)) a0_0 a0_1 a0_2 l0_3 l0_4 l0_5) = some r := by rw [if_pos rfl] at H; exact H
         clear H
         have H := H1
         clear H1
         have H' := Aside0.mk H
         clear H
         go_wp2
         go_roundg kj67
         case measure => have := HJ1.out; have := HJ11.out; have := HK3.out; have := HK4.out; have := HK5.out; have := HJ67.out; omega
         case rel => exact ⟨(wrap64 (x86_5 + 1)), (by first | rfl | (simp; done) | (simp [*]; done)), H', ⟨by have := HJ1.out; have := HJ11.out; have := HK3.out; have := HK4.out; have := HK5.out; have := HJ67.out; omega⟩, ⟨K_ BK111⟩, ⟨bl_⟩⟩
       replace c77 := Bool.eq_false_iff.mpr c77
       subst c77
       have H1 : ((dataflow_between.f ((rd_T52 l0_5 x86_5).f0) 0 (wrap64 ((l0_4.length : Int) - 1))).bind fun t128 => (if t128 = true then ((dataflow_between.f ((rd_T52 l0_5 x86_5).f1) 1 256).bind fun t129 => (dataflow_Valid.j8 kj67 l0_5 (l0_5.length : Int) x86_5 (!t129) a0_0 a0_1 a0_2 l0_3 l0_4 l0_5)) else (dataflow_Valid.j8 kj67 l0_5 (l0_5.length : Int) x86_5 true a0_0 a0_1 a0_2 l0_3 l0_4 l0_5))) = some r := by rw [if_neg (show ¬ (false = true) by decide)] at H; exact H
       clear H
       have H := H1
       clear H1
       have HC78 := Aside0.mk H
       clear H
       go_upto_region 22 with (fail)
       go_cut [111] (fun v111 wc => ∃ (kq : Nat) (x111_77 : Bool), v111 = .bool x111_77 ∧ Aside0 (dataflow_Valid.j8 kq l0_5 (l0_5.length : Int) x86_5 x111_77 a0_0 a0_1 a0_2 l0_3 l0_4 l0_5 = some r) ∧ Aside0 (kq ≤ kj67) ∧ Aside0 (wc.heap[gb111]? = some (.cells #[.int .i64 a0_0, .int .i64 a0_1, .bool a0_2, (.slice A0_3 l0_3.length c0_3), (.slice A0_4 l0_4.length c0_4), (.slice (some ad126) l0_5.length c0_5)] 26 (0, 0))) ∧ Aside0 (wc.heap[gb127]? = some (.cells #[.int .i64 ((rd_T52 l0_5 x86_5).f0), .int .i64 ((rd_T52 l0_5 x86_5).f1)] 52 (0, 0))) ∧ Aside0 (Below w.heap.size w wc))
       case first =>
        have H := HC78.out
        clear HC78
        replace H := Option.bind_eq_some_iff.mp H
        obtain ⟨t128, A790, H⟩ := H
        replace H : (if t128 = true then ((dataflow_between.f ((rd_T52 l0_5 x86_5).f1) 1 256).bind fun t129 => (dataflow_Valid.j8 kj67 l0_5 (l0_5.length : Int) x86_5 (!t129) a0_0 a0_1 a0_2 l0_3 l0_4 l0_5)) else (dataflow_Valid.j8 kj67 l0_5 (l0_5.length : Int) x86_5 true a0_0 a0_1 a0_2 l0_3 l0_4 l0_5)) = some r := H
        have A79 := Aside0.mk A790
        clear A790
        by_cases c80 : t128 = true
        · subst c80
          have H1 : ((dataflow_between.f ((rd_T52 l0_5 x86_5).f1) 1 256).bind fun t129 => (dataflow_Valid.j8 kj67 l0_5 (l0_5.length : Int) x86_5 (!t129) a0_0 a0_1 a0_2 l0_3 l0_4 l0_5)) = some r := by rw [if_pos rfl] at H; exact H
          clear H
          have H := H1
          clear H1
          replace H := Option.bind_eq_some_iff.mp H
          obtain ⟨t129, A810, H⟩ := H
          replace H : (dataflow_Valid.j8 kj67 l0_5 (l0_5.length : Int) x86_5 (!t129) a0_0 a0_1 a0_2 l0_3 l0_4 l0_5) = some r := H
          have A81 := Aside0.mk A810
          clear A810
          have H' := Aside0.mk H
          clear H
          obtain ⟨hcz83_0, hcz83_1⟩ := cells2 BK127
          obtain ⟨hfz83_0, hfz83_1⟩ := fz2 BK127
          obtain ⟨hcz84_0, hcz84_1, hcz84_2, hcz84_3, hcz84_4, hcz84_5⟩ := cells6 BK111
          obtain ⟨hfz84_0, hfz84_1, hfz84_2, hfz84_3, hfz84_4, hfz84_5⟩ := fz6 BK111
          go_wp2_with (first | ((with_reducible refine gate_callee (f := 43) rfl ?_); refine gL_ 104 Try.func43 #[.int .i64 ((rd_T52 l0_5 x86_5).f0), .int .i64 0, .int .i64 (wrap64 ((l0_4.length : Int) - 1))] ?_; (with_reducible refine (dataflow_between.calls ((rd_T52 l0_5 x86_5).f0) 0 (wrap64 ((l0_4.length : Int) - 1)) true _ A79.out).mono ?_); rintro e w' ⟨rfl, ⟨nd, rfl⟩⟩; refine ⟨_, rfl, ?_⟩) | (go_at_call 43; (with_reducible refine (dataflow_between.calls ((rd_T52 l0_5 x86_5).f1) 1 256 t129 _ A81.out).mono ?_); rintro e w' ⟨rfl, ⟨nd, rfl⟩⟩))
          go_meet
          case rel => exact ⟨_, (!t129), (by first | rfl | (simp; done) | (simp [*]; done)), H', ⟨by have := HJ1.out; have := HJ11.out; have := HK3.out; have := HK4.out; have := HK5.out; have := HJ67.out; first | omega | exact Nat.le_refl _⟩, ⟨K_ BK111⟩, ⟨K_ BK127⟩, ⟨bl_⟩⟩
        replace c80 := Bool.eq_false_iff.mpr c80
        subst c80
        have H1 : (dataflow_Valid.j8 kj67 l0_5 (l0_5.length : Int) x86_5 true a0_0 a0_1 a0_2 l0_3 l0_4 l0_5) = some r := by rw [if_neg (show ¬ (false = true) by decide)] at H; exact H
        clear H
        have H := H1
        clear H1
        have H' := Aside0.mk H
        clear H
        obtain ⟨hcz86_0, hcz86_1⟩ := cells2 BK127
        obtain ⟨hfz86_0, hfz86_1⟩ := fz2 BK127
        obtain ⟨hcz87_0, hcz87_1, hcz87_2, hcz87_3, hcz87_4, hcz87_5⟩ := cells6 BK111
        obtain ⟨hfz87_0, hfz87_1, hfz87_2, hfz87_3, hfz87_4, hfz87_5⟩ := fz6 BK111
        go_wp2_with (first | ((with_reducible refine gate_callee (f := 43) rfl ?_); refine gL_ 104 Try.func43 #[.int .i64 ((rd_T52 l0_5 x86_5).f0), .int .i64 0, .int .i64 (wrap64 ((l0_4.length : Int) - 1))] ?_; (with_reducible refine (dataflow_between.calls ((rd_T52 l0_5 x86_5).f0) 0 (wrap64 ((l0_4.length : Int) - 1)) false _ A79.out).mono ?_); rintro e w' ⟨rfl, ⟨nd, rfl⟩⟩; refine ⟨_, rfl, ?_⟩))
        go_meet
        case rel => exact ⟨_, (true), (by first | rfl | (simp; done) | (simp [*]; done)), H', ⟨by have := HJ1.out; have := HJ11.out; have := HK3.out; have := HK4.out; have := HK5.out; have := HJ67.out; first | omega | exact Nat.le_refl _⟩, ⟨K_ BK111⟩, ⟨K_ BK127⟩, ⟨bl_⟩⟩
       clear HC78
       obtain ⟨kq, x111_77, rfl, HA, HJ77, BK111, BK127, HB⟩ := hcut
       cases kq with
       | zero => exact absurd HA.out (by simp [dataflow_Valid.j8])
       | succ kj77 => ?_
       have H := HA.out
       clear HA
       simp only [dataflow_Valid.j8] at H
       by_cases c88 : x111_77 = true
       · subst c88
         have H1 : (some false) = some r := by rw [if_pos rfl] at H; exact H
         clear H
         have H := H1
         clear H1
         obtain rfl := Option.some.inj H
         go_wp2
         go_ret
         exact ⟨by first | rfl | (simp [errW_none, errW_some] <;> rfl) | (simp [*, errW_none, errW_some] <;> rfl), by repeat (first | (with_reducible first | exact HB.out | apply below_alloc | apply pw_below_drewN | apply below_drew1 | refine below_set ?_ GE111.out | refine below_set ?_ GE127.out) | exact HB.out)⟩
       replace c88 := Bool.eq_false_iff.mpr c88
       subst c88
       have H1 : (dataflow_Valid.l2 kj77 l0_5 (l0_5.length : Int) (wrap64 (x86_5 + 1)) a0_0 a0_1 a0_2 l0_3 l0_4 l0_5) = some r := by rw [if_neg (show ¬ (false = true) by decide)] at H; exact H
       clear H
       have H := H1
       clear H1
       have H' := Aside0.mk H
       clear H
       go_wp2
       go_roundg kj77
       case measure => have := HJ1.out; have := HJ11.out; have := HK3.out; have := HK4.out; have := HK5.out; have := HJ67.out; have := HJ77.out; omega
       case rel => exact ⟨(wrap64 (x86_5 + 1)), (by first | rfl | (simp; done) | (simp [*]; done)), H', ⟨by have := HJ1.out; have := HJ11.out; have := HK3.out; have := HK4.out; have := HK5.out; have := HJ67.out; have := HJ77.out; omega⟩, ⟨K_ BK111⟩, ⟨bl_⟩⟩
     rw [if_neg c67] at H
     exact absurd H (by simp)
   rw [if_neg c66] at H
   exact absurd H (by simp)
 rw [if_neg c65] at H
 have c65b0 : decide (x86_5 < (l0_5.length : Int)) = false := decide_eq_false c65
 clear c65
 replace H := Option.bind_eq_some_iff.mp H
 obtain ⟨t130, A890, H⟩ := H
 replace H : (some t130) = some r := H
 have A89 := Aside0.mk A890
 clear A890
 obtain rfl := Option.some.inj H
 obtain ⟨hcz90_0, hcz90_1, hcz90_2, hcz90_3, hcz90_4, hcz90_5⟩ := cells6 BK111
 obtain ⟨hfz90_0, hfz90_1, hfz90_2, hfz90_3, hfz90_4, hfz90_5⟩ := fz6 BK111
 go_wp2_with (first | ((with_reducible refine gate_callee (f := 46) rfl ?_); refine gL_ 114 Try.func46 #[.agg #[.int .i64 a0_0, .int .i64 a0_1, .bool a0_2, .slice A0_3 l0_3.length c0_3, .slice A0_4 l0_4.length c0_4, .slice A0_5 l0_5.length c0_5]] ?_; (with_reducible refine (dataflow_framed.calls k5 a0_0 a0_1 a0_2 _ _ l0_3 _ _ l0_4 _ _ l0_5 t130 _ ?side1 ?side2 ?side3 ?side4 ?side5 ?side6 A89.out).mono ?_); (case side1 => exact CB_ HR0_3); (case side2 => exact HC0_3.out); (case side3 => exact CB_ HR0_4); (case side4 => exact HC0_4.out); (case side5 => exact CB_ HR0_5); (case side6 => exact HC0_5.out); rintro e w91 ⟨rfl, hb⟩; refine ⟨_, rfl, ?_⟩; have n0_ := Aside0.mk (blk_below (K_ BK111) hb); have n1_ := Aside0.mk (below_step bl_ hb); clear BK111; clear HB; have BK111 := n0_; have HB := n1_; clear n0_ n1_; (try clear hb); (try clear hb2); (try clear hk); (try clear hi)))
 go_ret
 exact ⟨by first | rfl | (simp [errW_none, errW_some] <;> rfl) | (simp [*, errW_none, errW_some] <;> rfl), by repeat (first | (with_reducible first | exact HB.out | apply below_alloc | apply pw_below_drewN | apply below_drew1 | refine below_set ?_ GE111.out) | exact HB.out)⟩
end Go.Proofs.Ytpmlbbglekaidaa.PAll
