-- Written for this claim by programs of this session (wip/print2 in its repo: a changed printer, a shortener, a packer). Lean checks it.
import Derived.Test.YtmefaegcoogmiaaP0
import Derived.Test.YtmefaegcoogmiaaF16
import Derived.Test.YtmefaegcoogmiaaF30
namespace Go.Proofs.Ytmefaegcoogmiaa.PAll
open Go.RowKit Go.Proofs.YtmefaegcoogmiaaW.PrintWords Go.Proofs.YtmefaegcoogmiaaW.PrintLast Go.Proofs.YtmefaegcoogmiaaW.PrintMore
attribute [local go_sem] max2_int min2_int max_two min_two max_three min_three max_four min_four   -- for this text's walks alone
set_option linter.unusedVariables false
set_option linter.unusedSimpArgs false

/-! ### cycles_Issues: function 22 -/
mutual
def cycles_Issues.l0 : Nat → List (S49) → List Int → Int → List (S46) → Int → Int → ByteArray → List Int → List (S75) → List (S77) → List Int → List (S66) → Option (List Int × Int)
  | 0, _, _, _, _, _, _, _, _, _, _, _, _ => none
  | k + 1, x1, x10, x11, x25, x26, x27, x273000, x273001, x273002, x273003, x273004, x273005 => if x27 < x26 then (if 0 ≤ x27 then (if x27 < (x25.length : Int) then (cycles_Issues.l1 k x1 x10 x11 x25 x26 x27 ((rd_T46 x25 x27).f1) 0 x273000 x273001 x273002 x273003 x273004 x273005 ((rd_T46 x25 x27).f0) ((rd_T46 x25 x27).f1)) else (none)) else (none)) else (some (x10, 0))
def cycles_Issues.l1 : Nat → List (S49) → List Int → Int → List (S46) → Int → Int → Int → Int → ByteArray → List Int → List (S75) → List (S77) → List Int → List (S66) → Int → Int → Option (List Int × Int)
  | 0, _, _, _, _, _, _, _, _, _, _, _, _, _, _, _, _ => none
  | k + 1, x1, x10, x11, x25, x26, x27, x32, x33, x273000, x273001, x273002, x273003, x273004, x273005, x279000, x279001 => if x33 < x32 then (if 0 ≤ x279000 then (if x279000 < (x1.length : Int) then (if x10.length < 17592186044416 then (cycles_Issues.l1 k x1 (x10 ++ [wrap64 (x11 + (wrap64 (x33 * ((rd_T49 x1 x279000).f0))))]) x11 x25 x26 x27 x32 (wrap64 (x33 + 1)) x273000 x273001 x273002 x273003 x273004 x273005 x279000 x279001) else (none)) else (none)) else (none)) else ((cycles_length.f k x273000 x273001 x273002 x273003 x273004 x273005 x1 x279000 x279001).bind fun t283 => (cycles_Issues.l0 k x1 x10 (wrap64 (x11 + t283)) x25 x26 (wrap64 (x27 + 1)) x273000 x273001 x273002 x273003 x273004 x273005))
end
def cycles_Issues.f (k : Nat) (a0_0 : ByteArray) (l0_1 : List Int) (l0_2 : List (S75)) (l0_3 : List (S77)) (l0_4 : List Int) (l0_5 : List (S66)) (l1 : List (S49)) (l2 : List Int) : Option (List Int × Int) := (cycles_Split.f k a0_0 l0_1 l0_2 l0_3 l0_4 l0_5 l1 l2).bind fun bt273 => (if bt273.2 = 0 then (cycles_Issues.l0 k l1 ([] : List Int) 1 bt273.1 (bt273.1.length : Int) 0 a0_0 l0_1 l0_2 l0_3 l0_4 l0_5) else (some (([] : List Int), bt273.2)))
theorem cycles_Issues.mono_l : ∀ k, (∀ y0 y1 y2 y3 y4 y5 y6 y7 y8 y9 y10 y11, LeO (cycles_Issues.l0 k y0 y1 y2 y3 y4 y5 y6 y7 y8 y9 y10 y11) (cycles_Issues.l0 (k + 1) y0 y1 y2 y3 y4 y5 y6 y7 y8 y9 y10 y11)) ∧ (∀ y0 y1 y2 y3 y4 y5 y6 y7 y8 y9 y10 y11 y12 y13 y14 y15, LeO (cycles_Issues.l1 k y0 y1 y2 y3 y4 y5 y6 y7 y8 y9 y10 y11 y12 y13 y14 y15) (cycles_Issues.l1 (k + 1) y0 y1 y2 y3 y4 y5 y6 y7 y8 y9 y10 y11 y12 y13 y14 y15))
  | 0 => ⟨fun _ _ _ _ _ _ _ _ _ _ _ _ r h => by simp [cycles_Issues.l0] at h, fun _ _ _ _ _ _ _ _ _ _ _ _ _ _ _ _ r h => by simp [cycles_Issues.l1] at h⟩
  | k + 1 => by
    obtain ⟨ih0, ih1⟩ := cycles_Issues.mono_l k
    refine ⟨?_, ?_⟩
    · intro y0 y1 y2 y3 y4 y5 y6 y7 y8 y9 y10 y11
      unfold cycles_Issues.l0
      repeat' first
      | (with_reducible exact ih0 _ _ _ _ _ _ _ _ _ _ _ _)
      | (with_reducible exact ih1 _ _ _ _ _ _ _ _ _ _ _ _ _ _ _ _)
      | (with_reducible exact cycles_Split.mono _ _ _ _ _ _ _ _ _)
      | (with_reducible exact cycles_length.mono _ _ _ _ _ _ _ _ _ _)
      | (with_reducible exact LeO.refl _)
      | (with_reducible exact LeO.none _)
      | (with_reducible refine LeO.ite ?_ ?_)
      | (with_reducible refine LeO.bind ?_ (fun _ => ?_))
      | exact ih0 _ _ _ _ _ _ _ _ _ _ _ _
      | exact ih1 _ _ _ _ _ _ _ _ _ _ _ _ _ _ _ _
      | exact cycles_Split.mono _ _ _ _ _ _ _ _ _
      | exact cycles_length.mono _ _ _ _ _ _ _ _ _ _
      | exact LeO.none _
      | refine LeO.ite ?_ ?_
      | refine LeO.bind ?_ (fun _ => ?_)
    · intro y0 y1 y2 y3 y4 y5 y6 y7 y8 y9 y10 y11 y12 y13 y14 y15
      unfold cycles_Issues.l1
      repeat' first
      | (with_reducible exact ih0 _ _ _ _ _ _ _ _ _ _ _ _)
      | (with_reducible exact ih1 _ _ _ _ _ _ _ _ _ _ _ _ _ _ _ _)
      | (with_reducible exact cycles_Split.mono _ _ _ _ _ _ _ _ _)
      | (with_reducible exact cycles_length.mono _ _ _ _ _ _ _ _ _ _)
      | (with_reducible exact LeO.refl _)
      | (with_reducible exact LeO.none _)
      | (with_reducible refine LeO.ite ?_ ?_)
      | (with_reducible refine LeO.bind ?_ (fun _ => ?_))
      | exact ih0 _ _ _ _ _ _ _ _ _ _ _ _
      | exact ih1 _ _ _ _ _ _ _ _ _ _ _ _ _ _ _ _
      | exact cycles_Split.mono _ _ _ _ _ _ _ _ _
      | exact cycles_length.mono _ _ _ _ _ _ _ _ _ _
      | exact LeO.none _
      | refine LeO.ite ?_ ?_
      | refine LeO.bind ?_ (fun _ => ?_)
theorem cycles_Issues.mono : ∀ a0 a1 a2 a3 a4 a5 a6 a7 k, LeO (cycles_Issues.f k a0 a1 a2 a3 a4 a5 a6 a7) (cycles_Issues.f (k + 1) a0 a1 a2 a3 a4 a5 a6 a7) := by
 intro a0 a1 a2 a3 a4 a5 a6 a7 k
 obtain ⟨ih0, ih1⟩ := cycles_Issues.mono_l k
 unfold cycles_Issues.f
 repeat' first
     | (with_reducible exact ih0 _ _ _ _ _ _ _ _ _ _ _ _)
     | (with_reducible exact ih1 _ _ _ _ _ _ _ _ _ _ _ _ _ _ _ _)
     | (with_reducible exact cycles_Split.mono _ _ _ _ _ _ _ _ _)
     | (with_reducible exact cycles_length.mono _ _ _ _ _ _ _ _ _ _)
     | (with_reducible exact LeO.refl _)
     | (with_reducible exact LeO.none _)
     | (with_reducible refine LeO.ite ?_ ?_)
     | (with_reducible refine LeO.bind ?_ (fun _ => ?_))
     | exact ih0 _ _ _ _ _ _ _ _ _ _ _ _
     | exact ih1 _ _ _ _ _ _ _ _ _ _ _ _ _ _ _ _
     | exact cycles_Split.mono _ _ _ _ _ _ _ _ _
     | exact cycles_length.mono _ _ _ _ _ _ _ _ _ _
     | exact LeO.none _
     | refine LeO.ite ?_ ?_
     | refine LeO.bind ?_ (fun _ => ?_)
set_option maxHeartbeats 8000000 in
set_option maxRecDepth 100000 in
theorem cycles_Issues.calls (k : Nat) (a0_0 : ByteArray) (A0_1 : Option Addr) (c0_1 : Nat) (l0_1 : List Int) (A0_2 : Option Addr) (c0_2 : Nat) (l0_2 : List (S75)) (A0_3 : Option Addr) (c0_3 : Nat) (l0_3 : List (S77)) (A0_4 : Option Addr) (c0_4 : Nat) (l0_4 : List Int) (A0_5 : Option Addr) (c0_5 : Nat) (l0_5 : List (S66)) (A1 : Option Addr) (c1 : Nat) (l1 : List (S49)) (A2 : Option Addr) (c2 : Nat) (l2 : List Int) (r1 : List Int) (r2 : Int) (w : World) (hr0_1 : Kd.C (Kd.int .i64) w A0_1 l0_1.length l0_1) (hc0_1 : l0_1.length ≤ c0_1) (hr0_2 : Kd.C k75 w A0_2 l0_2.length l0_2) (hc0_2 : l0_2.length ≤ c0_2) (hr0_3 : Kd.C k77 w A0_3 l0_3.length l0_3) (hc0_3 : l0_3.length ≤ c0_3) (hr0_4 : Kd.C (Kd.int .i64) w A0_4 l0_4.length l0_4) (hc0_4 : l0_4.length ≤ c0_4) (hr0_5 : Kd.C k66 w A0_5 l0_5.length l0_5) (hc0_5 : l0_5.length ≤ c0_5) (hr1 : Kd.C k49 w A1 l1.length l1) (hc1 : l1.length ≤ c1) (hr2 : Kd.C (Kd.int .i64) w A2 l2.length l2) (hc2 : l2.length ≤ c2) (h : cycles_Issues.f k a0_0 l0_1 l0_2 l0_3 l0_4 l0_5 l1 l2 = some (r1, r2)) :
    Calls Try.prog 22 #[.agg #[.string a0_0, .slice A0_1 l0_1.length c0_1, .slice A0_2 l0_2.length c0_2, .slice A0_3 l0_3.length c0_3, .slice A0_4 l0_4.length c0_4, .slice A0_5 l0_5.length c0_5], .slice A1 l1.length c1, .slice A2 l2.length c2] w fun e w' => ∃ v0_ : Value, e = .returned (.tuple #[v0_, .int .i64 r2]) ∧ Kd.R (Kd.int .i64) 3 w' w.heap.size (fun _ => True) v0_ r1 ∧ Below w.heap.size w w' := by
 have hu27 := Try.underlying27
 have hu46 := Try.underlying46
 have HR0_1 := Aside0.mk hr0_1
 have HC0_1 := Aside0.mk hc0_1
 clear hr0_1 hc0_1
 have HR0_2 := Aside0.mk hr0_2
 have HC0_2 := Aside0.mk hc0_2
 clear hr0_2 hc0_2
 have HR0_3 := Aside0.mk hr0_3
 have HC0_3 := Aside0.mk hc0_3
 clear hr0_3 hc0_3
 have HR0_4 := Aside0.mk hr0_4
 have HC0_4 := Aside0.mk hc0_4
 clear hr0_4 hc0_4
 have HR0_5 := Aside0.mk hr0_5
 have HC0_5 := Aside0.mk hc0_5
 clear hr0_5 hc0_5
 have HR1 := Aside0.mk hr1
 have HC1 := Aside0.mk hc1
 clear hr1 hc1
 have HR2 := Aside0.mk hr2
 have HC2 := Aside0.mk hc2
 clear hr2 hc2
 have HB := Aside0.mk (Below.refl w.heap.size w)
 have H : ((cycles_Split.f k a0_0 l0_1 l0_2 l0_3 l0_4 l0_5 l1 l2).bind fun bt273 => (if bt273.2 = 0 then (cycles_Issues.l0 k l1 ([] : List Int) 1 bt273.1 (bt273.1.length : Int) 0 a0_0 l0_1 l0_2 l0_3 l0_4 l0_5) else (some (([] : List Int), bt273.2)))) = some (r1, r2) := h
 clear h
 replace H := Option.bind_eq_some_iff.mp H
 obtain ⟨⟨t273, t276⟩, A40, H⟩ := H
 replace H : (if t276 = 0 then (cycles_Issues.l0 k l1 ([] : List Int) 1 t273 (t273.length : Int) 0 a0_0 l0_1 l0_2 l0_3 l0_4 l0_5) else (some (([] : List Int), t276))) = some (r1, r2) := H
 have A4 := Aside0.mk A40
 clear A40
 by_cases c5 : t276 = 0
 · rw [if_pos c5] at H
   have c5b0 : (t276 == 0) = true := beq_iff_eq.mpr c5
   have c5b1 : (t276 != 0) = false := bne_eq_false_iff_eq.mpr c5
   clear c5
   have H' := Aside0.mk H
   clear H
   go_enter Try.func22, Try.ntmps22
   go_wp2_with (first | ((with_reducible refine gate_dst (N := 3) rfl ?_); refine box_event ?hg (N := 3) ?hd (cs := #[.string a0_0, .slice A0_1 l0_1.length c0_1, .slice A0_2 l0_2.length c0_2, .slice A0_3 l0_3.length c0_3, .slice A0_4 l0_4.length c0_4, .slice A0_5 l0_5.length c0_5]) (t := 27) ?hr ?_; (case hd => rfl); (case hg => rfl); (case hr => first | (go_simp; done) | (go_simp; rfl)); intro gb272 hg w6 hbox hb; have n0_ := Aside0.mk (below_step bl_ hb); have n1_ := Aside0.mk (hbox); have n2_ := Aside0.mk (gl_ (w := w) hg); have n3_ := Aside0.mk (gl_ (w := w) hg); clear HB; have HB := n0_; have BK272 := n1_; have GW272 := n2_; have GE272 := n3_; clear n0_ n1_ n2_ n3_; clear hb hbox hg; obtain ⟨hcz7_0, hcz7_1, hcz7_2, hcz7_3, hcz7_4, hcz7_5⟩ := cells6 BK272; obtain ⟨hfz7_0, hfz7_1, hfz7_2, hfz7_3, hfz7_4, hfz7_5⟩ := fz6 BK272) | ((with_reducible refine gate_callee (f := 16) rfl ?_); refine gL_ 19 Try.func16 #[.agg #[.string a0_0, .slice A0_1 l0_1.length c0_1, .slice A0_2 l0_2.length c0_2, .slice A0_3 l0_3.length c0_3, .slice A0_4 l0_4.length c0_4, .slice A0_5 l0_5.length c0_5], .slice A1 l1.length c1, .slice A2 l2.length c2] ?_; (with_reducible refine (cycles_Split.calls k a0_0 _ _ l0_1 _ _ l0_2 _ _ l0_3 _ _ l0_4 _ _ l0_5 _ _ l1 _ _ l2 t273 t276 _ ?side1 ?side2 ?side3 ?side4 ?side5 ?side6 ?side7 ?side8 ?side9 ?side10 ?side11 ?side12 ?side13 ?side14 A4.out).mono ?_); (case side1 => exact CB_ HR0_1); (case side2 => exact HC0_1.out); (case side3 => exact CB_ HR0_2); (case side4 => exact HC0_2.out); (case side5 => exact CB_ HR0_3); (case side6 => exact HC0_3.out); (case side7 => exact CB_ HR0_4); (case side8 => exact HC0_4.out); (case side9 => exact CB_ HR0_5); (case side10 => exact HC0_5.out); (case side11 => exact CB_ HR1); (case side12 => exact HC1.out); (case side13 => exact CB_ HR2); (case side14 => exact HC2.out); rintro e w8 ⟨v274, rfl, ho0, hb⟩; refine ⟨_, rfl, ?_⟩; have n0_ := Aside0.mk (Kd.R_lower ho0 (below_size bl_)); have n1_ := Aside0.mk (blk_below (K_ BK272) hb); have n2_ := Aside0.mk (below_step bl_ hb); clear BK272; clear HB; have HO275 := n0_; have BK272 := n1_; have HB := n2_; clear n0_ n1_ n2_; (try clear hb); (try clear hb2); (try clear hk); (try clear hi); (try clear ho0); obtain ⟨Ao9, co9, eo9⟩ := Kd.R_slice HO275.out; subst eo9))
   go_loopg [10, 11, 27] k (fun kq v10 v11 v27 w' => ∃ (x10_1 : List Int) (x11_1 : Int) (x27_1 : Int), v11 = .int .i64 x11_1 ∧ v27 = .int .i64 x27_1 ∧ Aside0 (cycles_Issues.l0 kq l1 x10_1 x11_1 t273 (t273.length : Int) x27_1 a0_0 l0_1 l0_2 l0_3 l0_4 l0_5 = some (r1, r2)) ∧ Aside0 (kq ≤ k) ∧ Aside0 (Kd.R (Kd.int .i64) 3 w' w.heap.size (fun _ => True) v10 x10_1) ∧ Aside0 (Kd.R k46 46 w' w.heap.size (fun _ => True) (.slice Ao9 t273.length co9) t273) ∧ Aside0 (w'.heap[gb272]? = some (.cells #[.string a0_0, (.slice A0_1 l0_1.length c0_1), (.slice A0_2 l0_2.length c0_2), (.slice A0_3 l0_3.length c0_3), (.slice A0_4 l0_4.length c0_4), (.slice A0_5 l0_5.length c0_5)] 27 (0, 0))) ∧ Aside0 (Below w.heap.size w w'))
   case atStart => exact ⟨(([] : List Int)), (1), (0), (by first | rfl | (simp; done) | (simp [*]; done)), (by first | rfl | (simp; done) | (simp [*]; done)), H', ⟨Nat.le_refl _⟩, ⟨by first | exact Kd.R_nil _ _ _ _ _ | exact Kd.N_nil _ _ _ _ _ | exact Kd.V_nil _ _ _ _ _ | exact Kd.Q_nil _ _ _ _ _ | exact Kd.S_nil _ _ _ _ _⟩, ⟨R_ HO275⟩, ⟨K_ BK272⟩, ⟨bl_⟩⟩
   clear H'
   (try clear c1); (try clear c2); (try clear p2); (try clear c5); (try clear c5b0); (try clear c5b1); (try clear hcz7_0); (try clear hcz7_1); (try clear hcz7_2); (try clear hcz7_3); (try clear hcz7_4); (try clear hcz7_5); (try clear hfz7_0); (try clear hfz7_1); (try clear hfz7_2); (try clear hfz7_3); (try clear hfz7_4); (try clear hfz7_5)
   obtain ⟨x10_1, x11_1, x27_1, rfl, rfl, HA, HK1, HO_10, HO_25, BK272, HB⟩ := hrel
   cases gk with
   | zero => exact absurd HA.out (by simp [cycles_Issues.l0])
   | succ k1 => ?_
   have H := HA.out
   clear HA
   simp only [cycles_Issues.l0] at H
   by_cases c10 : x27_1 < (t273.length : Int)
   · rw [if_pos c10] at H
     have c10b0 : decide (x27_1 < (t273.length : Int)) = true := decide_eq_true c10
     clear c10
     by_cases c11 : 0 ≤ x27_1
     · rw [if_pos c11] at H
       have c11b0 : decide (0 ≤ x27_1) = true := decide_eq_true c11
       clear c11
       by_cases c12 : x27_1 < (t273.length : Int)
       · rw [if_pos c12] at H
         have c12b0 : decide (x27_1 < (t273.length : Int)) = true := decide_eq_true c12
         clear c12
         have H' := Aside0.mk H
         clear H
         have p277 : 0 ≤ (x27_1 : Int) := of_decide_eq_true (by first | (with_reducible assumption) | assumption)
         have q277 : x27_1 < (t273.length : Int) := of_decide_eq_true (by first | (with_reducible assumption) | assumption)
         obtain ⟨ad277, e277, hx277_0, hx277_1⟩ := at_T46 (Kd.R_reads' HO_25.out).2.2 x27_1 p277 q277
         cases e277
         replace p277 := eq_true p277
         replace q277 := eq_true q277
         go_wp2_with (first | ((with_reducible refine gate_dst (N := 13) rfl ?_); refine box_event ?hg (N := 13) ?hd (cs := #[.int .i64 0, .int .i64 0]) (t := 46) ?hr ?_; (case hd => rfl); (case hg => rfl); (case hr => first | (go_simp; done) | (go_simp; rfl)); intro gb278 hg w13 hbox hb; have n0_ := Aside0.mk (Kd.R_below (R_ HO_10) hb); have n1_ := Aside0.mk (Kd.R_below (Kd.R_elderB (R_ HO_25) gb278 (Nat.le_of_eq hg.symm)) hb); have n2_ := Aside0.mk (blk_below (K_ BK272) hb); have n3_ := Aside0.mk (below_step bl_ hb); have n4_ := Aside0.mk (hbox); have n5_ := Aside0.mk (gl_ (w := w) hg); have n6_ := Aside0.mk (gl_ (w := w) hg); have n7_ := Aside0.mk (nl_ hg (K_ BK272)); have n8_ := Aside0.mk (ng_ hg (K_ BK272)); clear HO_10; clear HO_25; clear BK272; clear HB; have HO_10 := n0_; have HO_25 := n1_; have BK272 := n2_; have HB := n3_; have BK278 := n4_; have GW278 := n5_; have GE278 := n6_; have NB272_278 := n7_; have NB278_272 := n8_; clear n0_ n1_ n2_ n3_ n4_ n5_ n6_ n7_ n8_; clear hb hbox hg; have hnb14 := NB278_272.out; have hnc14 := NB272_278.out; obtain ⟨hcz15_0, hcz15_1⟩ := cells2 BK278; obtain ⟨hfz15_0, hfz15_1⟩ := fz2 BK278))
         go_loopg [10, 33] k1 (fun kq v10 v33 w' => ∃ (x10_2 : List Int) (x33_2 : Int), v33 = .int .i64 x33_2 ∧ Aside0 (cycles_Issues.l1 kq l1 x10_2 x11_1 t273 (t273.length : Int) x27_1 ((rd_T46 t273 x27_1).f1) x33_2 a0_0 l0_1 l0_2 l0_3 l0_4 l0_5 ((rd_T46 t273 x27_1).f0) ((rd_T46 t273 x27_1).f1) = some (r1, r2)) ∧ Aside0 (kq ≤ k1) ∧ Aside0 (Kd.R (Kd.int .i64) 3 w' w.heap.size (fun _ => True) v10 x10_2) ∧ Aside0 (Kd.R k46 46 w' w.heap.size (fun k_ => k_ ≠ gb278) (.slice (some ad277) t273.length co9) t273) ∧ Aside0 (w'.heap[gb272]? = some (.cells #[.string a0_0, (.slice A0_1 l0_1.length c0_1), (.slice A0_2 l0_2.length c0_2), (.slice A0_3 l0_3.length c0_3), (.slice A0_4 l0_4.length c0_4), (.slice A0_5 l0_5.length c0_5)] 27 (0, 0))) ∧ Aside0 (w'.heap[gb278]? = some (.cells #[.int .i64 ((rd_T46 t273 x27_1).f0), .int .i64 ((rd_T46 t273 x27_1).f1)] 46 (0, 0))) ∧ Aside0 (Below w.heap.size w w'))
         case atStart => exact ⟨(x10_1), (0), (by first | rfl | (simp; done) | (simp [*]; done)), H', ⟨Nat.le_refl _⟩, ⟨by (with_reducible repeat (first | apply Kd.R_alloc | apply Kd.R_drewN | apply Kd.R_drew)); exact Kd.R_mono (Kd.R_far (p := ⟨gb278, 1, none⟩) (Kd.R_far (p := ⟨gb278, 0, none⟩) (Kd.R_types HO_10.out BK278.out (by decide)) (fun _ hk => hk.2) (.int .i64 ((rd_T46 t273 x27_1).f0))) (fun _ hk => hk.2) (.int .i64 ((rd_T46 t273 x27_1).f1))) (fun _ hk => trivial)⟩, ⟨by (with_reducible repeat (first | apply Kd.R_alloc | apply Kd.R_drewN | apply Kd.R_drew)); exact Kd.R_mono (Kd.R_far (p := ⟨gb278, 1, none⟩) (Kd.R_far (p := ⟨gb278, 0, none⟩) (Kd.R_mono HO_25.out (fun k_ hk => (⟨hk, hk.2⟩ : _ ∧ k_ ≠ gb278))) (fun _ hk => hk.2) (.int .i64 ((rd_T46 t273 x27_1).f0))) (fun _ hk => hk.2) (.int .i64 ((rd_T46 t273 x27_1).f1))) (fun _ hk => hk.1.2)⟩, ⟨by (with_reducible repeat (first | refine blk_drewN ?_ _ | refine blk_drew ?_ | refine blk_alloc ?_ _)); refine blk_far ?_ NB272_278.out _; (with_reducible repeat (first | refine blk_drewN ?_ _ | refine blk_drew ?_ | refine blk_alloc ?_ _)); refine blk_far ?_ NB272_278.out _; (with_reducible repeat (first | refine blk_drewN ?_ _ | refine blk_drew ?_ | refine blk_alloc ?_ _)); exact BK272.out⟩, ⟨by (with_reducible repeat (first | refine blk_drewN ?_ _ | refine blk_drew ?_ | refine blk_alloc ?_ _)); refine blk_put (cs := #[.int .i64 ((rd_T46 t273 x27_1).f0), .int .i64 0]) ?_ 1 _ rfl; (with_reducible repeat (first | refine blk_drewN ?_ _ | refine blk_drew ?_ | refine blk_alloc ?_ _)); refine blk_put (cs := #[.int .i64 0, .int .i64 0]) ?_ 0 _ rfl; (with_reducible repeat (first | refine blk_drewN ?_ _ | refine blk_drew ?_ | refine blk_alloc ?_ _)); exact BK278.out⟩, ⟨bl_⟩⟩
         clear H'
         (try clear c1); (try clear c2); (try clear p2); (try clear q2); (try clear hx2); (try clear c5); (try clear c5b0); (try clear c5b1); (try clear c10); (try clear c10b0); (try clear c11); (try clear c11b0); (try clear c12); (try clear c12b0); (try clear c14); (try clear hcz15_0); (try clear hcz15_1); (try clear hcz7_0); (try clear hcz7_1); (try clear hcz7_2); (try clear hcz7_3); (try clear hcz7_4); (try clear hcz7_5); (try clear hfz15_0); (try clear hfz15_1); (try clear hfz7_0); (try clear hfz7_1); (try clear hfz7_2); (try clear hfz7_3); (try clear hfz7_4); (try clear hfz7_5); (try clear hx277_0); (try clear hx277_1); (try clear p2); (try clear p277); (try clear q277)
         obtain ⟨x10_2, x33_2, rfl, HA, HK2, HO_10, HO_25, BK272, BK278, HB⟩ := hrel
         cases gk with
         | zero => exact absurd HA.out (by simp [cycles_Issues.l1])
         | succ k2 => ?_
         have H := HA.out
         clear HA
         simp only [cycles_Issues.l1] at H
         by_cases c16 : x33_2 < ((rd_T46 t273 x27_1).f1)
         · rw [if_pos c16] at H
           have c16b0 : decide (x33_2 < ((rd_T46 t273 x27_1).f1)) = true := decide_eq_true c16
           clear c16
           by_cases c17 : 0 ≤ ((rd_T46 t273 x27_1).f0)
           · rw [if_pos c17] at H
             have c17b0 : decide (0 ≤ ((rd_T46 t273 x27_1).f0)) = true := decide_eq_true c17
             clear c17
             by_cases c18 : ((rd_T46 t273 x27_1).f0) < (l1.length : Int)
             · rw [if_pos c18] at H
               have c18b0 : decide (((rd_T46 t273 x27_1).f0) < (l1.length : Int)) = true := decide_eq_true c18
               clear c18
               by_cases c19 : x10_2.length < 17592186044416
               · rw [if_pos c19] at H
                 have LMc19 := Aside0.mk c19
                 clear c19
                 obtain ⟨y280, hy280⟩ : ∃ y_ : List Int, y_ = (x10_2 ++ [wrap64 (x11_1 + (wrap64 (x33_2 * ((rd_T49 l1 ((rd_T46 t273 x27_1).f0)).f0))))]) := ⟨_, rfl⟩
                 replace H : (cycles_Issues.l1 k2 l1 y280 x11_1 t273 (t273.length : Int) x27_1 ((rd_T46 t273 x27_1).f1) (wrap64 (x33_2 + 1)) a0_0 l0_1 l0_2 l0_3 l0_4 l0_5 ((rd_T46 t273 x27_1).f0) ((rd_T46 t273 x27_1).f1)) = some (r1, r2) := by first | (rw [hy280]; with_reducible exact H) | (have H2_ := (Option.bind_some _ _).symm.trans H; rw [hy280]; with_reducible exact H2_) | (have H2_ := (Option.bind_some _ _).symm.trans H; with_reducible exact H2_) | with_reducible exact H | (rw [hy280]; exact H) | exact H
                 have Ny280 := Aside0.mk hy280
                 clear hy280
                 have H' := Aside0.mk H
                 clear H
                 have hnb20 := NB278_272.out
                 have hnc20 := NB272_278.out
                 obtain ⟨hcz21_0, hcz21_1⟩ := cells2 BK278
                 obtain ⟨hfz21_0, hfz21_1⟩ := fz2 BK278
                 have p279 : 0 ≤ (((rd_T46 t273 x27_1).f0) : Int) := of_decide_eq_true (by first | (with_reducible assumption) | assumption)
                 have q279 : ((rd_T46 t273 x27_1).f0) < (l1.length : Int) := of_decide_eq_true (by first | (with_reducible assumption) | assumption)
                 obtain ⟨ad279, A279_2, c279_2, A279_3, c279_3, A279_4, c279_4, e279, hx279_0, hx279_1, hx279_2, hx279_3, hx279_4, hl279_2, hi279_2, hl279_3, hi279_3, hl279_4, hi279_4⟩ := at_T49 HR1.out ((rd_T46 t273 x27_1).f0) p279 q279
                 cases e279
                 replace hx279_0 := hc_ HB hx279_0
                 replace hx279_1 := hc_ HB hx279_1
                 replace hx279_2 := hc_ HB hx279_2
                 replace hx279_3 := hc_ HB hx279_3
                 replace hx279_4 := hc_ HB hx279_4
                 have HR279_2 := Aside0.mk hi279_2
                 have HC279_2 := Aside0.mk hl279_2
                 clear hi279_2 hl279_2
                 have HR279_3 := Aside0.mk hi279_3
                 have HC279_3 := Aside0.mk hl279_3
                 clear hi279_3 hl279_3
                 have HR279_4 := Aside0.mk hi279_4
                 have HC279_4 := Aside0.mk hl279_4
                 clear hi279_4 hl279_4
                 replace p279 := eq_true p279
                 replace q279 := eq_true q279
                 go_wp2_with (first | ((with_reducible refine gate_builtin (b := .append) (xs := #[.tmp 36, .tmp 47]) rfl ?_); at_builtin; refine Kd.R_append (Kd.int .i64) (w0 := w) w.heap.size rfl (.tmp 36) (.tmp 47) 22 3 (.int .i64 0) 8 rfl Try.underlying22 info3 rfl (by decide) (by omega) u10 x10_2 (wrap64 (x11_1 + (wrap64 (x33_2 * ((rd_T49 l1 ((rd_T46 t273 x27_1).f0)).f0))))) [.int .i64 (wrap64 (x11_1 + (wrap64 (x33_2 * ((rd_T49 l1 ((rd_T46 t273 x27_1).f0)).f0)))))] (fun _ => True) (fun _ => False) rfl rfl ?aP (fun _ hk => hk.elim) ?aF ?aO ?aB ?aS ?aL ?_; (case aP => exact rfl); (case aB => exact bl_); (case aF => exact (fun _ _ => trivial)); (case aO => exact (R_ HO_10)); (case aS => exact (below_size bl_)); (case aL => have := LMc19.out; omega); intro v281 w22 ho hb hg hat; rw [← Ny280.out] at ho; have n0_ := Aside0.mk (Kd.R_over' (R_ HO_25) (Kd.R_typed (R_ HO_10)) (by decide) hg); have n1_ := Aside0.mk (blk_grown (K_ BK272) hg (Kd.R_ne HO_10.out BK272.out (by decide))); have n2_ := Aside0.mk (blk_grown (K_ BK278) hg (Kd.R_ne HO_10.out BK278.out (by decide))); have n3_ := Aside0.mk (hb); have n4_ := Aside0.mk (ho); clear HO_25; clear BK272; clear BK278; clear HB; clear HO_10; have HO_25 := n0_; have BK272 := n1_; have BK278 := n2_; have HB := n3_; have HO282 := n4_; clear n0_ n1_ n2_ n3_ n4_; clear ho hb hg hat))
                 go_roundg k2
                 case measure => have := HK1.out; have := HK2.out; omega
                 case rel => exact ⟨(y280), (wrap64 (x33_2 + 1)), (by first | rfl | (simp; done) | (simp [*]; done)), H', ⟨by have := HK1.out; have := HK2.out; omega⟩, ⟨R_ HO282⟩, ⟨R_ HO_25⟩, ⟨K_ BK272⟩, ⟨K_ BK278⟩, ⟨bl_⟩⟩
               rw [if_neg c19] at H
               exact absurd H (by simp)
             rw [if_neg c18] at H
             exact absurd H (by simp)
           rw [if_neg c17] at H
           exact absurd H (by simp)
         rw [if_neg c16] at H
         have c16b0 : decide (x33_2 < ((rd_T46 t273 x27_1).f1)) = false := decide_eq_false c16
         clear c16
         replace H := Option.bind_eq_some_iff.mp H
         obtain ⟨t283, A230, H⟩ := H
         replace H : (cycles_Issues.l0 k2 l1 x10_2 (wrap64 (x11_1 + t283)) t273 (t273.length : Int) (wrap64 (x27_1 + 1)) a0_0 l0_1 l0_2 l0_3 l0_4 l0_5) = some (r1, r2) := H
         have A23 := Aside0.mk A230
         clear A230
         have H' := Aside0.mk H
         clear H
         have hnb24 := NB272_278.out
         have hnc24 := NB278_272.out
         obtain ⟨hcz25_0, hcz25_1, hcz25_2, hcz25_3, hcz25_4, hcz25_5⟩ := cells6 BK272
         obtain ⟨hfz25_0, hfz25_1, hfz25_2, hfz25_3, hfz25_4, hfz25_5⟩ := fz6 BK272
         obtain ⟨hcz26_0, hcz26_1⟩ := cells2 BK278
         obtain ⟨hfz26_0, hfz26_1⟩ := fz2 BK278
         go_wp2_with (first | ((with_reducible refine gate_callee (f := 30) rfl ?_); refine gL_ 54 Try.func30 #[.agg #[.string a0_0, .slice A0_1 l0_1.length c0_1, .slice A0_2 l0_2.length c0_2, .slice A0_3 l0_3.length c0_3, .slice A0_4 l0_4.length c0_4, .slice A0_5 l0_5.length c0_5], .slice A1 l1.length c1, .agg #[.int .i64 ((rd_T46 t273 x27_1).f0), .int .i64 ((rd_T46 t273 x27_1).f1)]] ?_; (with_reducible refine (cycles_length.calls k2 a0_0 _ _ l0_1 _ _ l0_2 _ _ l0_3 _ _ l0_4 _ _ l0_5 _ _ l1 ((rd_T46 t273 x27_1).f0) ((rd_T46 t273 x27_1).f1) t283 _ ?side1 ?side2 ?side3 ?side4 ?side5 ?side6 ?side7 ?side8 ?side9 ?side10 ?side11 ?side12 A23.out).mono ?_); (case side1 => exact CB_ HR0_1); (case side2 => exact HC0_1.out); (case side3 => exact CB_ HR0_2); (case side4 => exact HC0_2.out); (case side5 => exact CB_ HR0_3); (case side6 => exact HC0_3.out); (case side7 => exact CB_ HR0_4); (case side8 => exact HC0_4.out); (case side9 => exact CB_ HR0_5); (case side10 => exact HC0_5.out); (case side11 => exact CB_ HR1); (case side12 => exact HC1.out); rintro e w27 ⟨rfl, hb⟩; refine ⟨_, rfl, ?_⟩; have n0_ := Aside0.mk (Kd.R_below (R_ HO_10) hb); have n1_ := Aside0.mk (Kd.R_below (R_ HO_25) hb); have n2_ := Aside0.mk (blk_below (K_ BK272) hb); have n3_ := Aside0.mk (blk_below (K_ BK278) hb); have n4_ := Aside0.mk (below_step bl_ hb); clear HO_10; clear HO_25; clear BK272; clear BK278; clear HB; have HO_10 := n0_; have HO_25 := n1_; have BK272 := n2_; have BK278 := n3_; have HB := n4_; clear n0_ n1_ n2_ n3_ n4_; (try clear hb); (try clear hb2); (try clear hk); (try clear hi)))
         go_roundg k2
         case measure => have := HK1.out; have := HK2.out; omega
         case rel => exact ⟨(x10_2), (wrap64 (x11_1 + t283)), (wrap64 (x27_1 + 1)), (by first | rfl | (simp; done) | (simp [*]; done)), (by first | rfl | (simp; done) | (simp [*]; done)), H', ⟨by have := HK1.out; have := HK2.out; omega⟩, ⟨R_ HO_10⟩, ⟨by (with_reducible repeat (first | apply Kd.R_alloc | apply Kd.R_drewN | apply Kd.R_drew)); exact Kd.R_mono HO_25.out (fun _ hk => trivial)⟩, ⟨K_ BK272⟩, ⟨bl_⟩⟩
       rw [if_neg c12] at H
       exact absurd H (by simp)
     rw [if_neg c11] at H
     exact absurd H (by simp)
   rw [if_neg c10] at H
   have c10b0 : decide (x27_1 < (t273.length : Int)) = false := decide_eq_false c10
   clear c10
   simp only [Option.some.injEq, Prod.mk.injEq] at H
   obtain ⟨rfl, rfl⟩ := H
   go_wp2
   go_ret2
   exact ⟨_, by first | rfl | (simp [errW_none, errW_some] <;> rfl) | (simp [*, errW_none, errW_some] <;> rfl), by (with_reducible repeat (first | apply Kd.R_alloc | apply Kd.R_drewN | apply Kd.R_drew)); exact HO_10.out, by repeat (first | (with_reducible first | exact HB.out | apply below_alloc | apply pw_below_drewN | apply below_drew1 | refine below_set ?_ GE272.out) | exact HB.out)⟩
 rw [if_neg c5] at H
 have c5b0 : (t276 == 0) = false := beq_eq_false_iff_ne.mpr c5
 have c5b1 : (t276 != 0) = true := bne_iff_ne.mpr c5
 simp only [Option.some.injEq, Prod.mk.injEq] at H
 obtain ⟨rfl, rfl⟩ := H
 go_enter Try.func22, Try.ntmps22
 go_wp2_with (first | ((with_reducible refine gate_dst (N := 3) rfl ?_); refine box_event ?hg (N := 3) ?hd (cs := #[.string a0_0, .slice A0_1 l0_1.length c0_1, .slice A0_2 l0_2.length c0_2, .slice A0_3 l0_3.length c0_3, .slice A0_4 l0_4.length c0_4, .slice A0_5 l0_5.length c0_5]) (t := 27) ?hr ?_; (case hd => rfl); (case hg => rfl); (case hr => first | (go_simp; done) | (go_simp; rfl)); intro gb272 hg w28 hbox hb; have n0_ := Aside0.mk (below_step bl_ hb); have n1_ := Aside0.mk (hbox); have n2_ := Aside0.mk (gl_ (w := w) hg); have n3_ := Aside0.mk (gl_ (w := w) hg); clear HB; have HB := n0_; have BK272 := n1_; have GW272 := n2_; have GE272 := n3_; clear n0_ n1_ n2_ n3_; clear hb hbox hg; obtain ⟨hcz29_0, hcz29_1, hcz29_2, hcz29_3, hcz29_4, hcz29_5⟩ := cells6 BK272; obtain ⟨hfz29_0, hfz29_1, hfz29_2, hfz29_3, hfz29_4, hfz29_5⟩ := fz6 BK272) | ((with_reducible refine gate_callee (f := 16) rfl ?_); refine gL_ 19 Try.func16 #[.agg #[.string a0_0, .slice A0_1 l0_1.length c0_1, .slice A0_2 l0_2.length c0_2, .slice A0_3 l0_3.length c0_3, .slice A0_4 l0_4.length c0_4, .slice A0_5 l0_5.length c0_5], .slice A1 l1.length c1, .slice A2 l2.length c2] ?_; (with_reducible refine (cycles_Split.calls k a0_0 _ _ l0_1 _ _ l0_2 _ _ l0_3 _ _ l0_4 _ _ l0_5 _ _ l1 _ _ l2 t273 t276 _ ?side1 ?side2 ?side3 ?side4 ?side5 ?side6 ?side7 ?side8 ?side9 ?side10 ?side11 ?side12 ?side13 ?side14 A4.out).mono ?_); (case side1 => exact CB_ HR0_1); (case side2 => exact HC0_1.out); (case side3 => exact CB_ HR0_2); (case side4 => exact HC0_2.out); (case side5 => exact CB_ HR0_3); (case side6 => exact HC0_3.out); (case side7 => exact CB_ HR0_4); (case side8 => exact HC0_4.out); (case side9 => exact CB_ HR0_5); (case side10 => exact HC0_5.out); (case side11 => exact CB_ HR1); (case side12 => exact HC1.out); (case side13 => exact CB_ HR2); (case side14 => exact HC2.out); rintro e w30 ⟨v274, rfl, ho0, hb⟩; refine ⟨_, rfl, ?_⟩; have n0_ := Aside0.mk (Kd.R_lower ho0 (below_size bl_)); have n1_ := Aside0.mk (blk_below (K_ BK272) hb); have n2_ := Aside0.mk (below_step bl_ hb); clear BK272; clear HB; have HO275 := n0_; have BK272 := n1_; have HB := n2_; clear n0_ n1_ n2_; (try clear hb); (try clear hb2); (try clear hk); (try clear hi); (try clear ho0)))
 go_ret2
 exact ⟨_, by first | rfl | (simp [errW_none, errW_some] <;> rfl) | (simp [*, errW_none, errW_some] <;> rfl), by first | exact Kd.R_nil _ _ _ _ _ | exact Kd.N_nil _ _ _ _ _ | exact Kd.V_nil _ _ _ _ _ | exact Kd.Q_nil _ _ _ _ _ | exact Kd.S_nil _ _ _ _ _, by repeat (first | (with_reducible first | exact HB.out | apply below_alloc | apply pw_below_drewN | apply below_drew1 | refine below_set ?_ GE272.out) | exact HB.out)⟩
end Go.Proofs.Ytmefaegcoogmiaa.PAll
