-- Written for this claim by programs of this session (wip/print2 in its repo: a changed printer, a shortener, a packer). Lean checks it.
import Derived.Test.YtmefaegcoogmiaaP0
import Derived.Test.YtmefaegcoogmiaaF10
import Derived.Test.YtmefaegcoogmiaaF17
namespace Go.Proofs.Ytmefaegcoogmiaa.PAll
open Go.RowKit Go.Proofs.YtmefaegcoogmiaaW.PrintWords Go.Proofs.YtmefaegcoogmiaaW.PrintLast Go.Proofs.YtmefaegcoogmiaaW.PrintMore
attribute [local go_sem] max2_int min2_int max_two min_two max_three min_three max_four min_four   -- for this text's walks alone
set_option linter.unusedVariables false
set_option linter.unusedSimpArgs false

/-! ### cycles_length: function 30 -/
def cycles_length.f (k : Nat) (a0_0 : ByteArray) (l0_1 : List Int) (l0_2 : List (S75)) (l0_3 : List (S77)) (l0_4 : List Int) (l0_5 : List (S66)) (l1 : List (S49)) (a2_0 : Int) (a2_1 : Int) : Option (Int) := (cycles_Self.f k a0_0 l0_1 l0_2 l0_3 l0_4 l0_5 l1 a2_0).bind fun t131 => (if t131 < 0 then (if 0 ≤ a2_0 then (if a2_0 < (l1.length : Int) then (some (wrap64 (a2_1 * ((rd_T49 l1 a2_0).f1)))) else (none)) else (none)) else (if 0 ≤ a2_0 then (if a2_0 < (l1.length : Int) then ((cycles_Visit.f ((rd_T49 l1 a2_0).f0) ((rd_T49 l1 a2_0).f1) ((rd_T49 l1 a2_0).f2) ((rd_T49 l1 a2_0).f3) ((rd_T49 l1 a2_0).f4) a2_1).bind fun t134 => (some t134)) else (none)) else (none)))
theorem cycles_length.mono : ∀ a0 a1 a2 a3 a4 a5 a6 a7 a8 k, LeO (cycles_length.f k a0 a1 a2 a3 a4 a5 a6 a7 a8) (cycles_length.f (k + 1) a0 a1 a2 a3 a4 a5 a6 a7 a8) := by
 intro a0 a1 a2 a3 a4 a5 a6 a7 a8 k
 unfold cycles_length.f
 repeat' first
     | (with_reducible exact cycles_Self.mono _ _ _ _ _ _ _ _ _)
     | (with_reducible exact LeO.refl _)
     | (with_reducible exact LeO.none _)
     | (with_reducible refine LeO.ite ?_ ?_)
     | (with_reducible refine LeO.bind ?_ (fun _ => ?_))
     | exact cycles_Self.mono _ _ _ _ _ _ _ _ _
     | exact LeO.none _
     | refine LeO.ite ?_ ?_
     | refine LeO.bind ?_ (fun _ => ?_)
def cycles_length.T2 : Bool × List (List Nat × List Nat) := (true, [([], []), ([0], [0]), ([], []), ([], []), ([3], [3]), ([2, 4], [2, 4]), ([5], [5]), ([6], [6]), ([1, 7], [1, 7]), ([8, 0, 1, 2, 3, 4, 5, 6, 7, 8], [8])])
def cycles_length.B2 : List Nat := [0, 1, 0, 0, 8, 28, 60, 124, 255, 511]
theorem cycles_length.tab2 : rtab .any (opsOf Try.f30 2) = cycles_length.T2 := by kernel_rfl
theorem cycles_length.bits2 : waitsOk cycles_length.T2.2 cycles_length.B2 = true := by kernel_rfl
def cycles_length.T3 : Bool × List (List Nat × List Nat) := (true, [([], []), ([], []), ([1], [1]), ([0, 2], [0, 2]), ([3], [3]), ([], []), ([5], [5]), ([4, 6], [4, 6]), ([7, 7, 0, 1, 2, 3, 4, 5, 6, 7], [7])])
def cycles_length.B3 : List Nat := [0, 0, 2, 7, 15, 0, 32, 127, 255]
theorem cycles_length.tab3 : rtab .any (opsOf Try.f30 3) = cycles_length.T3 := by kernel_rfl
theorem cycles_length.bits3 : waitsOk cycles_length.T3.2 cycles_length.B3 = true := by kernel_rfl
set_option maxHeartbeats 8000000 in
set_option maxRecDepth 100000 in
theorem cycles_length.calls (k : Nat) (a0_0 : ByteArray) (A0_1 : Option Addr) (c0_1 : Nat) (l0_1 : List Int) (A0_2 : Option Addr) (c0_2 : Nat) (l0_2 : List (S75)) (A0_3 : Option Addr) (c0_3 : Nat) (l0_3 : List (S77)) (A0_4 : Option Addr) (c0_4 : Nat) (l0_4 : List Int) (A0_5 : Option Addr) (c0_5 : Nat) (l0_5 : List (S66)) (A1 : Option Addr) (c1 : Nat) (l1 : List (S49)) (a2_0 : Int) (a2_1 : Int) (r : Int) (w : World) (hr0_1 : Kd.C (Kd.int .i64) w A0_1 l0_1.length l0_1) (hc0_1 : l0_1.length ≤ c0_1) (hr0_2 : Kd.C k75 w A0_2 l0_2.length l0_2) (hc0_2 : l0_2.length ≤ c0_2) (hr0_3 : Kd.C k77 w A0_3 l0_3.length l0_3) (hc0_3 : l0_3.length ≤ c0_3) (hr0_4 : Kd.C (Kd.int .i64) w A0_4 l0_4.length l0_4) (hc0_4 : l0_4.length ≤ c0_4) (hr0_5 : Kd.C k66 w A0_5 l0_5.length l0_5) (hc0_5 : l0_5.length ≤ c0_5) (hr1 : Kd.C k49 w A1 l1.length l1) (hc1 : l1.length ≤ c1) (h : cycles_length.f k a0_0 l0_1 l0_2 l0_3 l0_4 l0_5 l1 a2_0 a2_1 = some r) :
    Calls Try.prog 30 #[.agg #[.string a0_0, .slice A0_1 l0_1.length c0_1, .slice A0_2 l0_2.length c0_2, .slice A0_3 l0_3.length c0_3, .slice A0_4 l0_4.length c0_4, .slice A0_5 l0_5.length c0_5], .slice A1 l1.length c1, .agg #[.int .i64 a2_0, .int .i64 a2_1]] w fun e w' => e = .returned (.int .i64 r) ∧ Below w.heap.size w w' := by
 have hu27 := Try.underlying27
 have hu46 := Try.underlying46
 have hu49 := Try.underlying49
 have HR0_1 := Aside0.mk hr0_1
 have HC0_1 := Aside0.mk hc0_1
 clear hr0_1 hc0_1
 have HR0_2 := Aside0.mk hr0_2
 have HC0_2 := Aside0.mk hc0_2
 clear hr0_2 hc0_2
 have HR0_3 := Aside0.mk hr0_3
 have HC0_3 := Aside0.mk hc0_3
 clear hr0_3 hc0_3
 have HR0_4 := Aside0.mk hr0_4
 have HC0_4 := Aside0.mk hc0_4
 clear hr0_4 hc0_4
 have HR0_5 := Aside0.mk hr0_5
 have HC0_5 := Aside0.mk hc0_5
 clear hr0_5 hc0_5
 have HR1 := Aside0.mk hr1
 have HC1 := Aside0.mk hc1
 clear hr1 hc1
 have HB := Aside0.mk (Below.refl w.heap.size w)
 have H : ((cycles_Self.f k a0_0 l0_1 l0_2 l0_3 l0_4 l0_5 l1 a2_0).bind fun t131 => (if t131 < 0 then (if 0 ≤ a2_0 then (if a2_0 < (l1.length : Int) then (some (wrap64 (a2_1 * ((rd_T49 l1 a2_0).f1)))) else (none)) else (none)) else (if 0 ≤ a2_0 then (if a2_0 < (l1.length : Int) then ((cycles_Visit.f ((rd_T49 l1 a2_0).f0) ((rd_T49 l1 a2_0).f1) ((rd_T49 l1 a2_0).f2) ((rd_T49 l1 a2_0).f3) ((rd_T49 l1 a2_0).f4) a2_1).bind fun t134 => (some t134)) else (none)) else (none)))) = some r := h
 clear h
 replace H := Option.bind_eq_some_iff.mp H
 obtain ⟨t131, A40, H⟩ := H
 replace H : (if t131 < 0 then (if 0 ≤ a2_0 then (if a2_0 < (l1.length : Int) then (some (wrap64 (a2_1 * ((rd_T49 l1 a2_0).f1)))) else (none)) else (none)) else (if 0 ≤ a2_0 then (if a2_0 < (l1.length : Int) then ((cycles_Visit.f ((rd_T49 l1 a2_0).f0) ((rd_T49 l1 a2_0).f1) ((rd_T49 l1 a2_0).f2) ((rd_T49 l1 a2_0).f3) ((rd_T49 l1 a2_0).f4) a2_1).bind fun t134 => (some t134)) else (none)) else (none))) = some r := H
 have A4 := Aside0.mk A40
 clear A40
 by_cases c5 : t131 < 0
 · rw [if_pos c5] at H
   have c5b0 : decide (t131 < 0) = true := decide_eq_true c5
   clear c5
   by_cases c6 : 0 ≤ a2_0
   · rw [if_pos c6] at H
     have c6b0 : decide (0 ≤ a2_0) = true := decide_eq_true c6
     clear c6
     by_cases c7 : a2_0 < (l1.length : Int)
     · rw [if_pos c7] at H
       have c7b0 : decide (a2_0 < (l1.length : Int)) = true := decide_eq_true c7
       clear c7
       obtain rfl := Option.some.inj H
       go_enter Try.func30, Try.ntmps30
       try go_wp2_with (first | ((with_reducible refine gate_dst (N := 3) rfl ?_); refine box_event ?hg (N := 3) ?hd (cs := #[.string a0_0, .slice A0_1 l0_1.length c0_1, .slice A0_2 l0_2.length c0_2, .slice A0_3 l0_3.length c0_3, .slice A0_4 l0_4.length c0_4, .slice A0_5 l0_5.length c0_5]) (t := 27) ?hr ?_; (case hd => rfl); (case hg => rfl); (case hr => first | (go_simp; done) | (go_simp; rfl)); intro gb129 hg w8 hbox hb; have n0_ := Aside0.mk (below_step bl_ hb); have n1_ := Aside0.mk (hbox); have n2_ := Aside0.mk (gl_ (w := w) hg); have n3_ := Aside0.mk (gl_ (w := w) hg); clear HB; have HB := n0_; have BK129 := n1_; have GW129 := n2_; have GE129 := n3_; clear n0_ n1_ n2_ n3_; clear hb hbox hg) | ((with_reducible refine gate_dst (N := 5) rfl ?_); refine box_event ?hg (N := 5) ?hd (cs := #[.int .i64 a2_0, .int .i64 a2_1]) (t := 46) ?hr ?_; (case hd => rfl); (case hg => rfl); (case hr => first | (go_simp; done) | (go_simp; rfl)); intro gb130 hg w9 hbox hb; have n0_ := Aside0.mk (blk_below (K_ BK129) hb); have n1_ := Aside0.mk (below_step bl_ hb); have n2_ := Aside0.mk (hbox); have n3_ := Aside0.mk (gl_ (w := w) hg); have n4_ := Aside0.mk (gl_ (w := w) hg); have n5_ := Aside0.mk (nl_ hg (K_ BK129)); have n6_ := Aside0.mk (ng_ hg (K_ BK129)); clear BK129; clear HB; have BK129 := n0_; have HB := n1_; have BK130 := n2_; have GW130 := n3_; have GE130 := n4_; have NB129_130 := n5_; have NB130_129 := n6_; clear n0_ n1_ n2_ n3_ n4_ n5_ n6_; clear hb hbox hg; have hnb10 := NB129_130.out; have hnc10 := NB130_129.out; obtain ⟨hcz11_0, hcz11_1, hcz11_2, hcz11_3, hcz11_4, hcz11_5⟩ := cells6 BK129; obtain ⟨hfz11_0, hfz11_1, hfz11_2, hfz11_3, hfz11_4, hfz11_5⟩ := fz6 BK129; obtain ⟨hcz12_0, hcz12_1⟩ := cells2 BK130; obtain ⟨hfz12_0, hfz12_1⟩ := fz2 BK130) | ((with_reducible refine gate_callee (f := 10) rfl ?_); refine gL_ 11 Try.func10 #[.agg #[.string a0_0, .slice A0_1 l0_1.length c0_1, .slice A0_2 l0_2.length c0_2, .slice A0_3 l0_3.length c0_3, .slice A0_4 l0_4.length c0_4, .slice A0_5 l0_5.length c0_5], .slice A1 l1.length c1, .int .i64 a2_0] ?_; (with_reducible refine (cycles_Self.calls k a0_0 _ _ l0_1 _ _ l0_2 _ _ l0_3 _ _ l0_4 _ _ l0_5 _ _ l1 a2_0 t131 _ ?side1 ?side2 ?side3 ?side4 ?side5 ?side6 ?side7 ?side8 ?side9 ?side10 ?side11 ?side12 A4.out).mono ?_); (case side1 => exact CB_ HR0_1); (case side2 => exact HC0_1.out); (case side3 => exact CB_ HR0_2); (case side4 => exact HC0_2.out); (case side5 => exact CB_ HR0_3); (case side6 => exact HC0_3.out); (case side7 => exact CB_ HR0_4); (case side8 => exact HC0_4.out); (case side9 => exact CB_ HR0_5); (case side10 => exact HC0_5.out); (case side11 => exact CB_ HR1); (case side12 => exact HC1.out); rintro e w13 ⟨rfl, hb⟩; refine ⟨_, rfl, ?_⟩; have n0_ := Aside0.mk (blk_below (K_ BK129) hb); have n1_ := Aside0.mk (blk_below (K_ BK130) hb); have n2_ := Aside0.mk (below_step bl_ hb); clear BK129; clear BK130; clear HB; have BK129 := n0_; have BK130 := n1_; have HB := n2_; clear n0_ n1_ n2_; (try clear hb); (try clear hb2); (try clear hk); (try clear hi)))
       have n0_ := Aside0.mk (blk_drew BK129.out)
       have n1_ := Aside0.mk (blk_drew BK130.out)
       have n2_ := Aside0.mk (below_drew1 HB.out)
       clear BK129
       clear BK130
       clear HB
       have BK129 := n0_
       have BK130 := n1_
       have HB := n2_
       clear n0_ n1_ n2_
       have p132 : 0 ≤ (a2_0 : Int) := of_decide_eq_true (by first | (with_reducible assumption) | assumption)
       have q132 : a2_0 < (l1.length : Int) := of_decide_eq_true (by first | (with_reducible assumption) | assumption)
       obtain ⟨ad132, A132_2, c132_2, A132_3, c132_3, A132_4, c132_4, e132, hx132_0, hx132_1, hx132_2, hx132_3, hx132_4, hl132_2, hi132_2, hl132_3, hi132_3, hl132_4, hi132_4⟩ := at_T49 HR1.out a2_0 p132 q132
       have hw132_4 := hx132_4
       have hw132_3 := hx132_3
       have hw132_2 := hx132_2
       have hw132_1 := hx132_1
       have hw132_0 := hx132_0
       cases e132
       replace hx132_0 := hc_ HB hx132_0
       replace hx132_1 := hc_ HB hx132_1
       replace hx132_2 := hc_ HB hx132_2
       replace hx132_3 := hc_ HB hx132_3
       replace hx132_4 := hc_ HB hx132_4
       have HR132_2 := Aside0.mk hi132_2
       have HC132_2 := Aside0.mk hl132_2
       clear hi132_2 hl132_2
       have HR132_3 := Aside0.mk hi132_3
       have HC132_3 := Aside0.mk hl132_3
       clear hi132_3 hl132_3
       have HR132_4 := Aside0.mk hi132_4
       have HC132_4 := Aside0.mk hl132_4
       clear hi132_4 hl132_4
       replace p132 := eq_true p132
       replace q132 := eq_true q132
       refine start_ (n := 10) (S := fun w' => w'.cell? ⟨gb130, 0, none⟩ = some (.int .i64 a2_0) ∧ w'.cell? ⟨gb130, 1, none⟩ = some (.int .i64 a2_1) ∧ w'.cell? (ad132.add ((a2_0).toNat * 5)) = some (.int .i64 ((rd_T49 l1 a2_0).f0)) ∧ w'.cell? ⟨(ad132.add ((a2_0).toNat * 5)).block, (ad132.add ((a2_0).toNat * 5)).off + 1, none⟩ = some (.int .i64 ((rd_T49 l1 a2_0).f1)) ∧ w'.cell? ⟨(ad132.add ((a2_0).toNat * 5)).block, (ad132.add ((a2_0).toNat * 5)).off + 2, none⟩ = some (.slice A132_2 ((rd_T49 l1 a2_0).f2).length c132_2) ∧ w'.cell? ⟨(ad132.add ((a2_0).toNat * 5)).block, (ad132.add ((a2_0).toNat * 5)).off + 3, none⟩ = some (.slice A132_3 ((rd_T49 l1 a2_0).f3).length c132_3) ∧ w'.cell? ⟨(ad132.add ((a2_0).toNat * 5)).block, (ad132.add ((a2_0).toNat * 5)).off + 4, none⟩ = some (.slice A132_4 ((rd_T49 l1 a2_0).f4).length c132_4)) (ds := []) (bz 10 0) (by kernel_rfl) rfl rfl ⟨(blk_cell BK130.out 0).trans rfl, (blk_cell BK130.out 1).trans rfl, (hc_ HB hw132_0), (hc_ HB hw132_1), (hc_ HB hw132_2), (hc_ HB hw132_3), (hc_ HB hw132_4)⟩ (fun hHeld => ?_); refine with_tabW cycles_length.tab2 cycles_length.bits2 (fun HT_ HW_ => ?_)
       generalize w13.drew = w14 at BK129 BK130 HB HR132_2 HR132_3 HR132_4 hx132_0 hx132_1 hx132_2 hx132_3 hx132_4 hHeld ⊢
       refine pu_ 0 13 HT_ ?_
       refine pu_ 2 15 HT_ ?_
       refine pu_ 3 16 HT_ ?_
       refine tk_ 1 14 HT_ HW_ hHeld ?_ (hy := by rintro w' ⟨s0, s1, s2, s3, s4, s5, s6⟩; go_simp; with_reducible rfl)
       refine tk_ 4 17 HT_ HW_ hHeld ?_ (hy := by rintro w' ⟨s0, s1, s2, s3, s4, s5, s6⟩; go_simp; with_reducible rfl)
       refine pu_ 5 18 HT_ ?_
       refine pu_ 6 19 HT_ ?_
       refine tk_ 7 20 HT_ HW_ hHeld ?_ (hy := by rintro w' ⟨s0, s1, s2, s3, s4, s5, s6⟩; go_simp; with_reducible rfl)
       refine pu_ 8 21 HT_ ?_
       refine pu_ 9 6 HT_ ?_
       refine done_ (done_of HT_.out (by kernel_rfl)) ?_
       try go_wp2
       go_ret
       exact ⟨by first | rfl | (simp [errW_none, errW_some] <;> rfl) | (simp [*, errW_none, errW_some] <;> rfl), by repeat (first | (with_reducible first | exact HB.out | apply below_alloc | apply pw_below_drewN | apply below_drew1 | refine below_set ?_ GE129.out | refine below_set ?_ GE130.out) | exact HB.out)⟩
     rw [if_neg c7] at H
     exact absurd H (by simp)
   rw [if_neg c6] at H
   exact absurd H (by simp)
 rw [if_neg c5] at H
 have c5b0 : decide (t131 < 0) = false := decide_eq_false c5
 clear c5
 by_cases c15 : 0 ≤ a2_0
 · rw [if_pos c15] at H
   have c15b0 : decide (0 ≤ a2_0) = true := decide_eq_true c15
   clear c15
   by_cases c16 : a2_0 < (l1.length : Int)
   · rw [if_pos c16] at H
     have c16b0 : decide (a2_0 < (l1.length : Int)) = true := decide_eq_true c16
     clear c16
     replace H := Option.bind_eq_some_iff.mp H
     obtain ⟨t134, A170, H⟩ := H
     replace H : (some t134) = some r := H
     have A17 := Aside0.mk A170
     clear A170
     obtain rfl := Option.some.inj H
     go_enter Try.func30, Try.ntmps30
     try go_wp2_with (first | ((with_reducible refine gate_dst (N := 3) rfl ?_); refine box_event ?hg (N := 3) ?hd (cs := #[.string a0_0, .slice A0_1 l0_1.length c0_1, .slice A0_2 l0_2.length c0_2, .slice A0_3 l0_3.length c0_3, .slice A0_4 l0_4.length c0_4, .slice A0_5 l0_5.length c0_5]) (t := 27) ?hr ?_; (case hd => rfl); (case hg => rfl); (case hr => first | (go_simp; done) | (go_simp; rfl)); intro gb129 hg w18 hbox hb; have n0_ := Aside0.mk (below_step bl_ hb); have n1_ := Aside0.mk (hbox); have n2_ := Aside0.mk (gl_ (w := w) hg); have n3_ := Aside0.mk (gl_ (w := w) hg); clear HB; have HB := n0_; have BK129 := n1_; have GW129 := n2_; have GE129 := n3_; clear n0_ n1_ n2_ n3_; clear hb hbox hg) | ((with_reducible refine gate_dst (N := 5) rfl ?_); refine box_event ?hg (N := 5) ?hd (cs := #[.int .i64 a2_0, .int .i64 a2_1]) (t := 46) ?hr ?_; (case hd => rfl); (case hg => rfl); (case hr => first | (go_simp; done) | (go_simp; rfl)); intro gb130 hg w19 hbox hb; have n0_ := Aside0.mk (blk_below (K_ BK129) hb); have n1_ := Aside0.mk (below_step bl_ hb); have n2_ := Aside0.mk (hbox); have n3_ := Aside0.mk (gl_ (w := w) hg); have n4_ := Aside0.mk (gl_ (w := w) hg); have n5_ := Aside0.mk (nl_ hg (K_ BK129)); have n6_ := Aside0.mk (ng_ hg (K_ BK129)); clear BK129; clear HB; have BK129 := n0_; have HB := n1_; have BK130 := n2_; have GW130 := n3_; have GE130 := n4_; have NB129_130 := n5_; have NB130_129 := n6_; clear n0_ n1_ n2_ n3_ n4_ n5_ n6_; clear hb hbox hg; have hnb20 := NB129_130.out; have hnc20 := NB130_129.out; obtain ⟨hcz21_0, hcz21_1, hcz21_2, hcz21_3, hcz21_4, hcz21_5⟩ := cells6 BK129; obtain ⟨hfz21_0, hfz21_1, hfz21_2, hfz21_3, hfz21_4, hfz21_5⟩ := fz6 BK129; obtain ⟨hcz22_0, hcz22_1⟩ := cells2 BK130; obtain ⟨hfz22_0, hfz22_1⟩ := fz2 BK130) | ((with_reducible refine gate_callee (f := 10) rfl ?_); refine gL_ 11 Try.func10 #[.agg #[.string a0_0, .slice A0_1 l0_1.length c0_1, .slice A0_2 l0_2.length c0_2, .slice A0_3 l0_3.length c0_3, .slice A0_4 l0_4.length c0_4, .slice A0_5 l0_5.length c0_5], .slice A1 l1.length c1, .int .i64 a2_0] ?_; (with_reducible refine (cycles_Self.calls k a0_0 _ _ l0_1 _ _ l0_2 _ _ l0_3 _ _ l0_4 _ _ l0_5 _ _ l1 a2_0 t131 _ ?side1 ?side2 ?side3 ?side4 ?side5 ?side6 ?side7 ?side8 ?side9 ?side10 ?side11 ?side12 A4.out).mono ?_); (case side1 => exact CB_ HR0_1); (case side2 => exact HC0_1.out); (case side3 => exact CB_ HR0_2); (case side4 => exact HC0_2.out); (case side5 => exact CB_ HR0_3); (case side6 => exact HC0_3.out); (case side7 => exact CB_ HR0_4); (case side8 => exact HC0_4.out); (case side9 => exact CB_ HR0_5); (case side10 => exact HC0_5.out); (case side11 => exact CB_ HR1); (case side12 => exact HC1.out); rintro e w23 ⟨rfl, hb⟩; refine ⟨_, rfl, ?_⟩; have n0_ := Aside0.mk (blk_below (K_ BK129) hb); have n1_ := Aside0.mk (blk_below (K_ BK130) hb); have n2_ := Aside0.mk (below_step bl_ hb); clear BK129; clear BK130; clear HB; have BK129 := n0_; have BK130 := n1_; have HB := n2_; clear n0_ n1_ n2_; (try clear hb); (try clear hb2); (try clear hk); (try clear hi)))
     have n0_ := Aside0.mk (blk_drew BK129.out)
     have n1_ := Aside0.mk (blk_drew BK130.out)
     have n2_ := Aside0.mk (below_drew1 HB.out)
     clear BK129
     clear BK130
     clear HB
     have BK129 := n0_
     have BK130 := n1_
     have HB := n2_
     clear n0_ n1_ n2_
     have p133 : 0 ≤ (a2_0 : Int) := of_decide_eq_true (by first | (with_reducible assumption) | assumption)
     have q133 : a2_0 < (l1.length : Int) := of_decide_eq_true (by first | (with_reducible assumption) | assumption)
     obtain ⟨ad133, A133_2, c133_2, A133_3, c133_3, A133_4, c133_4, e133, hx133_0, hx133_1, hx133_2, hx133_3, hx133_4, hl133_2, hi133_2, hl133_3, hi133_3, hl133_4, hi133_4⟩ := at_T49 HR1.out a2_0 p133 q133
     have hw133_4 := hx133_4
     have hw133_3 := hx133_3
     have hw133_2 := hx133_2
     have hw133_1 := hx133_1
     have hw133_0 := hx133_0
     cases e133
     replace hx133_0 := hc_ HB hx133_0
     replace hx133_1 := hc_ HB hx133_1
     replace hx133_2 := hc_ HB hx133_2
     replace hx133_3 := hc_ HB hx133_3
     replace hx133_4 := hc_ HB hx133_4
     have HR133_2 := Aside0.mk hi133_2
     have HC133_2 := Aside0.mk hl133_2
     clear hi133_2 hl133_2
     have HR133_3 := Aside0.mk hi133_3
     have HC133_3 := Aside0.mk hl133_3
     clear hi133_3 hl133_3
     have HR133_4 := Aside0.mk hi133_4
     have HC133_4 := Aside0.mk hl133_4
     clear hi133_4 hl133_4
     replace p133 := eq_true p133
     replace q133 := eq_true q133
     refine start_ (n := 9) (S := fun w' => w'.cell? ⟨gb130, 0, none⟩ = some (.int .i64 a2_0) ∧ w'.cell? ⟨gb130, 1, none⟩ = some (.int .i64 a2_1) ∧ w'.cell? (ad133.add ((a2_0).toNat * 5)) = some (.int .i64 ((rd_T49 l1 a2_0).f0)) ∧ w'.cell? ⟨(ad133.add ((a2_0).toNat * 5)).block, (ad133.add ((a2_0).toNat * 5)).off + 1, none⟩ = some (.int .i64 ((rd_T49 l1 a2_0).f1)) ∧ w'.cell? ⟨(ad133.add ((a2_0).toNat * 5)).block, (ad133.add ((a2_0).toNat * 5)).off + 2, none⟩ = some (.slice A133_2 ((rd_T49 l1 a2_0).f2).length c133_2) ∧ w'.cell? ⟨(ad133.add ((a2_0).toNat * 5)).block, (ad133.add ((a2_0).toNat * 5)).off + 3, none⟩ = some (.slice A133_3 ((rd_T49 l1 a2_0).f3).length c133_3) ∧ w'.cell? ⟨(ad133.add ((a2_0).toNat * 5)).block, (ad133.add ((a2_0).toNat * 5)).off + 4, none⟩ = some (.slice A133_4 ((rd_T49 l1 a2_0).f4).length c133_4)) (ds := []) (bz 9 0) (by kernel_rfl) rfl rfl ⟨(blk_cell BK130.out 0).trans rfl, (blk_cell BK130.out 1).trans rfl, (hc_ HB hw133_0), (hc_ HB hw133_1), (hc_ HB hw133_2), (hc_ HB hw133_3), (hc_ HB hw133_4)⟩ (fun hHeld => ?_); refine with_tabW cycles_length.tab3 cycles_length.bits3 (fun HT_ HW_ => ?_)
     generalize w23.drew = w24 at BK129 BK130 HB HR133_2 HR133_3 HR133_4 hx133_0 hx133_1 hx133_2 hx133_3 hx133_4 hHeld ⊢
     refine pu_ 0 22 HT_ ?_
     refine pu_ 1 23 HT_ ?_
     refine pu_ 5 27 HT_ ?_
     refine tk_ 2 24 HT_ HW_ hHeld ?_ (hy := by rintro w' ⟨s0, s1, s2, s3, s4, s5, s6⟩; go_simp; with_reducible rfl)
     refine pu_ 3 25 HT_ ?_
     refine tk_ 4 26 HT_ HW_ hHeld ?_ (hy := by rintro w' ⟨s0, s1, s2, s3, s4, s5, s6⟩; go_simp; with_reducible rfl)
     refine tk_ 6 28 HT_ HW_ hHeld ?_ (hy := by rintro w' ⟨s0, s1, s2, s3, s4, s5, s6⟩; go_simp; with_reducible rfl)
     refine on_ 7 (some 29) HT_ (fun K hK => ?_)
     refine gs_ Try.func17 #[.agg #[.int .i64 ((rd_T49 l1 a2_0).f0), .int .i64 ((rd_T49 l1 a2_0).f1), .slice A133_2 ((rd_T49 l1 a2_0).f2).length c133_2, .slice A133_3 ((rd_T49 l1 a2_0).f3).length c133_3, .slice A133_4 ((rd_T49 l1 a2_0).f4).length c133_4], .int .i64 a2_1] ?_
     with_reducible refine (cycles_Visit.calls ((rd_T49 l1 a2_0).f0) ((rd_T49 l1 a2_0).f1) _ _ ((rd_T49 l1 a2_0).f2) _ _ ((rd_T49 l1 a2_0).f3) _ _ ((rd_T49 l1 a2_0).f4) a2_1 t134 _ ?side1 ?side2 ?side3 ?side4 ?side5 ?side6 A17.out).mono ?_
     (case side1 => exact CB_ HR133_2)
     (case side2 => exact HC133_2.out)
     (case side3 => exact CB_ HR133_3)
     (case side4 => exact HC133_3.out)
     (case side5 => exact CB_ HR133_4)
     (case side6 => exact HC133_4.out)
     rintro e w25 ⟨rfl, hb⟩
     refine ⟨_, rfl, ?_⟩
     have n0_ := Aside0.mk (blk_below (K_ BK129) hb)
     have n1_ := Aside0.mk (blk_below (K_ BK130) hb)
     have n2_ := Aside0.mk (below_step bl_ hb)
     clear BK129
     clear BK130
     clear HB
     have BK129 := n0_
     have BK130 := n1_
     have HB := n2_
     clear n0_ n1_ n2_
     (try clear hb)
     (try clear hb2)
     (try clear hk)
     (try clear hi)
     refine hK.out _ _ ⟨(blk_cell BK130.out 0).trans rfl, (blk_cell BK130.out 1).trans rfl, (hc_ HB hw133_0), (hc_ HB hw133_1), (hc_ HB hw133_2), (hc_ HB hw133_3), (hc_ HB hw133_4)⟩ (fun hHeld => ?_)
     clear hK K
     refine no_ 29 ?_
     refine pu_ 8 6 HT_ ?_
     refine done_ (done_of HT_.out (by kernel_rfl)) ?_
     try go_wp2
     go_ret
     exact ⟨by first | rfl | (simp [errW_none, errW_some] <;> rfl) | (simp [*, errW_none, errW_some] <;> rfl), by repeat (first | (with_reducible first | exact HB.out | apply below_alloc | apply pw_below_drewN | apply below_drew1 | refine below_set ?_ GE129.out | refine below_set ?_ GE130.out) | exact HB.out)⟩
   rw [if_neg c16] at H
   exact absurd H (by simp)
 rw [if_neg c15] at H
 exact absurd H (by simp)
end Go.Proofs.Ytmefaegcoogmiaa.PAll
