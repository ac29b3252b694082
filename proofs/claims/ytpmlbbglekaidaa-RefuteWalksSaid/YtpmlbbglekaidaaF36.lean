-- Written for this claim by programs of this session (wip/print2 in its repo: a changed printer, a shortener, a packer). Lean checks it.
import Derived.Test.YtpmlbbglekaidaaP0
namespace Go.Proofs.Ytpmlbbglekaidaa.PAll
open Go.RowKit Go.Proofs.YtpmlbbglekaidaaW.PrintWords Go.Proofs.YtpmlbbglekaidaaW.PrintLast Go.Proofs.YtpmlbbglekaidaaW.PrintMore
attribute [local go_sem] max2_int min2_int max_two min_two max_three min_three max_four min_four   -- for this text's walks alone
set_option linter.unusedVariables false
set_option linter.unusedSimpArgs false

/-! ### refute_choices: function 36 -/
mutual
def refute_choices.l0 : Nat → Int → Int → List (S52) → Int → Int → Int → Int → Bool → List (S48) → List (S50) → List (S52) → List Int → List Int → Option (Int)
  | 0, _, _, _, _, _, _, _, _, _, _, _, _, _ => none
  | k + 1, x7, x8, x18, x19, x20, x182000, x182001, x182002, x182003, x182004, x182005, x183000, x183001 => if x20 < x19 then (if 0 ≤ x20 then (if x20 < (x18.length : Int) then (if ((rd_T52 x18 x20).f0) = x7 then (if x20 < (x183000.length : Int) then (refute_choices.j1 k x7 x8 x20 x18 x19 x20 (decide ((rd x183000 x20) ≥ 0)) x182000 x182001 x182002 x182003 x182004 x182005 x183000 x183001) else (none)) else (refute_choices.j1 k x7 x8 x20 x18 x19 x20 false x182000 x182001 x182002 x182003 x182004 x182005 x183000 x183001)) else (none)) else (none)) else (if 0 ≤ x7 then (if x7 < (x182004.length : Int) then (some (mn ((rd_T50 x182004 x7).f3) (wrap64 (x8 + 1)))) else (none)) else (none))
def refute_choices.j1 : Nat → Int → Int → Int → List (S52) → Int → Int → Bool → Int → Int → Bool → List (S48) → List (S50) → List (S52) → List Int → List Int → Option (Int)
  | 0, _, _, _, _, _, _, _, _, _, _, _, _, _, _, _ => none
  | k + 1, x7, x8, x9, x18, x19, x20, x36, x182000, x182001, x182002, x182003, x182004, x182005, x183000, x183001 => if x36 = true then (if 0 ≤ x9 then (if x9 < (x183001.length : Int) then (refute_choices.l0 k x7 (mx x8 (wrap64 ((rd x183001 x9) + 1))) x18 x19 (wrap64 (x20 + 1)) x182000 x182001 x182002 x182003 x182004 x182005 x183000 x183001) else (none)) else (none)) else (refute_choices.l0 k x7 x8 x18 x19 (wrap64 (x20 + 1)) x182000 x182001 x182002 x182003 x182004 x182005 x183000 x183001)
end
def refute_choices.f (k : Nat) (a0_0 : Int) (a0_1 : Int) (a0_2 : Bool) (l0_3 : List (S48)) (l0_4 : List (S50)) (l0_5 : List (S52)) (l1_0 : List Int) (l1_1 : List Int) (a2 : Int) : Option (Int) := if 0 ≤ a2 then (if a2 < (l0_5.length : Int) then (refute_choices.l0 k ((rd_T52 l0_5 a2).f0) 0 l0_5 (l0_5.length : Int) 0 a0_0 a0_1 a0_2 l0_3 l0_4 l0_5 l1_0 l1_1) else (none)) else (none)
theorem refute_choices.mono_l : ∀ k, (∀ y0 y1 y2 y3 y4 y5 y6 y7 y8 y9 y10 y11 y12, LeO (refute_choices.l0 k y0 y1 y2 y3 y4 y5 y6 y7 y8 y9 y10 y11 y12) (refute_choices.l0 (k + 1) y0 y1 y2 y3 y4 y5 y6 y7 y8 y9 y10 y11 y12)) ∧ (∀ y0 y1 y2 y3 y4 y5 y6 y7 y8 y9 y10 y11 y12 y13 y14, LeO (refute_choices.j1 k y0 y1 y2 y3 y4 y5 y6 y7 y8 y9 y10 y11 y12 y13 y14) (refute_choices.j1 (k + 1) y0 y1 y2 y3 y4 y5 y6 y7 y8 y9 y10 y11 y12 y13 y14))
  | 0 => by refine ⟨?_, ?_⟩ <;> intros <;> intro r h <;> simp [refute_choices.l0, refute_choices.j1] at h
  | k + 1 => by
    obtain ⟨ih0, ih1⟩ := refute_choices.mono_l k
    refine ⟨?_, ?_⟩ <;> intros <;> (first | unfold refute_choices.l0 | unfold refute_choices.j1) <;> repeat' first | (with_reducible first | apply ih0 | apply ih1 | exact LeO.refl _ | exact LeO.none _ | refine LeO.ite ?_ ?_ | refine LeO.bind ?_ (fun _ => ?_)) | apply ih0 | apply ih1 | exact LeO.none _ | refine LeO.ite ?_ ?_ | refine LeO.bind ?_ (fun _ => ?_)
theorem refute_choices.mono : ∀ a0 a1 a2 a3 a4 a5 a6 a7 a8 k, LeO (refute_choices.f k a0 a1 a2 a3 a4 a5 a6 a7 a8) (refute_choices.f (k + 1) a0 a1 a2 a3 a4 a5 a6 a7 a8) := by
 intro a0 a1 a2 a3 a4 a5 a6 a7 a8 k
 obtain ⟨ih0, ih1⟩ := refute_choices.mono_l k
 unfold refute_choices.f
 repeat' first | (with_reducible first | apply ih0 | apply ih1 | exact LeO.refl _ | exact LeO.none _ | refine LeO.ite ?_ ?_ | refine LeO.bind ?_ (fun _ => ?_)) | apply ih0 | apply ih1 | exact LeO.none _ | refine LeO.ite ?_ ?_ | refine LeO.bind ?_ (fun _ => ?_)
set_option maxHeartbeats 8000000 in
set_option maxRecDepth 100000 in
theorem refute_choices.calls (k : Nat) (a0_0 : Int) (a0_1 : Int) (a0_2 : Bool) (A0_3 : Option Addr) (c0_3 : Nat) (l0_3 : List (S48)) (A0_4 : Option Addr) (c0_4 : Nat) (l0_4 : List (S50)) (A0_5 : Option Addr) (c0_5 : Nat) (l0_5 : List (S52)) (A1_0 : Option Addr) (c1_0 : Nat) (l1_0 : List Int) (A1_1 : Option Addr) (c1_1 : Nat) (l1_1 : List Int) (a2 : Int) (r : Int) (w : World) (hr0_3 : Kd.C k48 w A0_3 l0_3.length l0_3) (hc0_3 : l0_3.length ≤ c0_3) (hr0_4 : Kd.C k50 w A0_4 l0_4.length l0_4) (hc0_4 : l0_4.length ≤ c0_4) (hr0_5 : Kd.C k52 w A0_5 l0_5.length l0_5) (hc0_5 : l0_5.length ≤ c0_5) (hr1_0 : Kd.C (Kd.int .i64) w A1_0 l1_0.length l1_0) (hc1_0 : l1_0.length ≤ c1_0) (hr1_1 : Kd.C (Kd.int .i64) w A1_1 l1_1.length l1_1) (hc1_1 : l1_1.length ≤ c1_1) (h : refute_choices.f k a0_0 a0_1 a0_2 l0_3 l0_4 l0_5 l1_0 l1_1 a2 = some r) :
    Calls Try.prog 36 #[.agg #[.int .i64 a0_0, .int .i64 a0_1, .bool a0_2, .slice A0_3 l0_3.length c0_3, .slice A0_4 l0_4.length c0_4, .slice A0_5 l0_5.length c0_5], .agg #[.slice A1_0 l1_0.length c1_0, .slice A1_1 l1_1.length c1_1], .int .i64 a2] w fun e w' => e = .returned (.int .i64 r) ∧ Below w.heap.size w w' := by
 have hu26 := Try.underlying26
 have hu61 := Try.underlying61
 have hu52 := Try.underlying52
 have HR0_3 := Aside0.mk hr0_3
 have HC0_3 := Aside0.mk hc0_3
 clear hr0_3 hc0_3
 have HR0_4 := Aside0.mk hr0_4
 have HC0_4 := Aside0.mk hc0_4
 clear hr0_4 hc0_4
 have HR0_5 := Aside0.mk hr0_5
 have HC0_5 := Aside0.mk hc0_5
 clear hr0_5 hc0_5
 have HR1_0 := Aside0.mk hr1_0
 have HC1_0 := Aside0.mk hc1_0
 clear hr1_0 hc1_0
 have HR1_1 := Aside0.mk hr1_1
 have HC1_1 := Aside0.mk hc1_1
 clear hr1_1 hc1_1
 have HB := Aside0.mk (Below.refl w.heap.size w)
 have H : (if 0 ≤ a2 then (if a2 < (l0_5.length : Int) then (refute_choices.l0 k ((rd_T52 l0_5 a2).f0) 0 l0_5 (l0_5.length : Int) 0 a0_0 a0_1 a0_2 l0_3 l0_4 l0_5 l1_0 l1_1) else (none)) else (none)) = some r := h
 clear h
 by_cases c4 : 0 ≤ a2
 · rw [if_pos c4] at H
   have c4b0 : decide (0 ≤ a2) = true := decide_eq_true c4
   clear c4
   by_cases c5 : a2 < (l0_5.length : Int)
   · rw [if_pos c5] at H
     have c5b0 : decide (a2 < (l0_5.length : Int)) = true := decide_eq_true c5
     clear c5
     have H' := Aside0.mk H
     clear H
     go_enter Try.func36, Try.ntmps36
     go_wp2_with (first | ((with_reducible refine gate_dst (N := 3) rfl ?_); refine box_event ?hg (N := 3) ?hd (cs := #[.int .i64 a0_0, .int .i64 a0_1, .bool a0_2, .slice A0_3 l0_3.length c0_3, .slice A0_4 l0_4.length c0_4, .slice A0_5 l0_5.length c0_5]) (t := 26) ?hr ?_; (case hd => rfl); (case hg => rfl); (case hr => first | (go_simp; done) | (go_simp; rfl)); intro gb181 hg w6 hbox hb; have n0_ := Aside0.mk (below_step bl_ hb); have n1_ := Aside0.mk (hbox); have n2_ := Aside0.mk (gl_ (w := w) hg); have n3_ := Aside0.mk (gl_ (w := w) hg); clear HB; have HB := n0_; have BK181 := n1_; have GW181 := n2_; have GE181 := n3_; clear n0_ n1_ n2_ n3_; clear hb hbox hg) | ((with_reducible refine gate_dst (N := 4) rfl ?_); refine box_event ?hg (N := 4) ?hd (cs := #[.slice A1_0 l1_0.length c1_0, .slice A1_1 l1_1.length c1_1]) (t := 61) ?hr ?_; (case hd => rfl); (case hg => rfl); (case hr => first | (go_simp; done) | (go_simp; rfl)); intro gb182 hg w7 hbox hb; have n0_ := Aside0.mk (blk_below (K_ BK181) hb); have n1_ := Aside0.mk (below_step bl_ hb); have n2_ := Aside0.mk (hbox); have n3_ := Aside0.mk (gl_ (w := w) hg); have n4_ := Aside0.mk (gl_ (w := w) hg); have n5_ := Aside0.mk (nl_ hg (K_ BK181)); have n6_ := Aside0.mk (ng_ hg (K_ BK181)); clear BK181; clear HB; have BK181 := n0_; have HB := n1_; have BK182 := n2_; have GW182 := n3_; have GE182 := n4_; have NB181_182 := n5_; have NB182_181 := n6_; clear n0_ n1_ n2_ n3_ n4_ n5_ n6_; clear hb hbox hg; have hnb8 := NB181_182.out; have hnc8 := NB182_181.out; obtain ⟨hcz9_0, hcz9_1, hcz9_2, hcz9_3, hcz9_4, hcz9_5⟩ := cells6 BK181; obtain ⟨hfz9_0, hfz9_1, hfz9_2, hfz9_3, hfz9_4, hfz9_5⟩ := fz6 BK181; have p183 : 0 ≤ (a2 : Int) := of_decide_eq_true (by first | (with_reducible assumption) | assumption); have q183 : a2 < (l0_5.length : Int) := of_decide_eq_true (by first | (with_reducible assumption) | assumption); obtain ⟨ad183, e183, hx183_0, hx183_1⟩ := at_T52 HR0_5.out a2 p183 q183; cases e183; replace hx183_0 := hc_ HB hx183_0; replace hx183_1 := hc_ HB hx183_1; replace p183 := eq_true p183; replace q183 := eq_true q183))
     go_loopg [8, 20] k (fun kq v8 v20 w' => ∃ (x8_1 : Int) (x20_1 : Int), v8 = .int .i64 x8_1 ∧ v20 = .int .i64 x20_1 ∧ Aside0 (refute_choices.l0 kq ((rd_T52 l0_5 a2).f0) x8_1 l0_5 (l0_5.length : Int) x20_1 a0_0 a0_1 a0_2 l0_3 l0_4 l0_5 l1_0 l1_1 = some r) ∧ Aside0 (kq ≤ k) ∧ Aside0 (w'.heap[gb181]? = some (.cells #[.int .i64 a0_0, .int .i64 a0_1, .bool a0_2, (.slice A0_3 l0_3.length c0_3), (.slice A0_4 l0_4.length c0_4), (.slice (some ad183) l0_5.length c0_5)] 26 (0, 0))) ∧ Aside0 (w'.heap[gb182]? = some (.cells #[(.slice A1_0 l1_0.length c1_0), (.slice A1_1 l1_1.length c1_1)] 61 (0, 0))) ∧ Aside0 (Below w.heap.size w w'))
     case atStart => exact ⟨(0), (0), (by first | rfl | (simp; done) | (simp [*]; done)), (by first | rfl | (simp; done) | (simp [*]; done)), H', ⟨Nat.le_refl _⟩, ⟨K_ BK181⟩, ⟨K_ BK182⟩, ⟨bl_⟩⟩
     clear H'
     obtain ⟨x8_1, x20_1, rfl, rfl, HA, HK1, BK181, BK182, HB⟩ := hrel
     cases gk with
     | zero => exact absurd HA.out (by simp [refute_choices.l0])
     | succ k1 => ?_
     have H := HA.out
     clear HA
     simp only [refute_choices.l0] at H
     by_cases c10 : x20_1 < (l0_5.length : Int)
     · rw [if_pos c10] at H
       have c10b0 : decide (x20_1 < (l0_5.length : Int)) = true := decide_eq_true c10
       clear c10
       by_cases c11 : 0 ≤ x20_1
       · rw [if_pos c11] at H
         have c11b0 : decide (0 ≤ x20_1) = true := decide_eq_true c11
         clear c11
         by_cases c12 : x20_1 < (l0_5.length : Int)
         · rw [if_pos c12] at H
           have c12b0 : decide (x20_1 < (l0_5.length : Int)) = true := decide_eq_true c12
           clear c12
           have HC13 := Aside0.mk H
           clear H
           have p185 : 0 ≤ (x20_1 : Int) := of_decide_eq_true (by first | (with_reducible assumption) | assumption)
           have q185 : x20_1 < (l0_5.length : Int) := of_decide_eq_true (by first | (with_reducible assumption) | assumption)
           obtain ⟨ad185, e185, hx185_0, hx185_1⟩ := at_T52 HR0_5.out x20_1 p185 q185
           obtain rfl : ad183 = ad185 := (by injection e185)
           replace hx185_0 := hc_ HB hx185_0
           replace hx185_1 := hc_ HB hx185_1
           replace p185 := eq_true p185
           replace q185 := eq_true q185
           go_upto_region 6 with (first | ((with_reducible refine gate_dst (N := 10) rfl ?_); refine box_event ?hg (N := 10) ?hd (cs := #[.int .i64 0, .int .i64 0]) (t := 52) ?hr ?_; (case hd => rfl); (case hg => rfl); (case hr => first | (go_simp; done) | (go_simp; rfl)); intro gb186 hg w14 hbox hb; have n0_ := Aside0.mk (blk_below (K_ BK181) hb); have n1_ := Aside0.mk (blk_below (K_ BK182) hb); have n2_ := Aside0.mk (below_step bl_ hb); have n3_ := Aside0.mk (hbox); have n4_ := Aside0.mk (gl_ (w := w) hg); have n5_ := Aside0.mk (gl_ (w := w) hg); have n6_ := Aside0.mk (nl_ hg (K_ BK181)); have n7_ := Aside0.mk (ng_ hg (K_ BK181)); have n8_ := Aside0.mk (nl_ hg (K_ BK182)); have n9_ := Aside0.mk (ng_ hg (K_ BK182)); clear BK181; clear BK182; clear HB; have BK181 := n0_; have BK182 := n1_; have HB := n2_; have BK186 := n3_; have GW186 := n4_; have GE186 := n5_; have NB181_186 := n6_; have NB186_181 := n7_; have NB182_186 := n8_; have NB186_182 := n9_; clear n0_ n1_ n2_ n3_ n4_ n5_ n6_ n7_ n8_ n9_; clear hb hbox hg; have hnb15 := NB186_181.out; have hnc15 := NB181_186.out; have hnb16 := NB186_182.out; have hnc16 := NB182_186.out; obtain ⟨hcz17_0, hcz17_1⟩ := cells2 BK186; obtain ⟨hfz17_0, hfz17_1⟩ := fz2 BK186))
           (try simp only [Act.put, List.setIfInBounds_toArray, List.set_cons_zero, List.set_cons_succ])
           go_cut [36] (fun v36 wc => ∃ (kq : Nat) (x36_12 : Bool), v36 = .bool x36_12 ∧ Aside0 (refute_choices.j1 kq ((rd_T52 l0_5 a2).f0) x8_1 x20_1 l0_5 (l0_5.length : Int) x20_1 x36_12 a0_0 a0_1 a0_2 l0_3 l0_4 l0_5 l1_0 l1_1 = some r) ∧ Aside0 (kq ≤ k1) ∧ Aside0 (wc.heap[gb181]? = some (.cells #[.int .i64 a0_0, .int .i64 a0_1, .bool a0_2, (.slice A0_3 l0_3.length c0_3), (.slice A0_4 l0_4.length c0_4), (.slice (some ad183) l0_5.length c0_5)] 26 (0, 0))) ∧ Aside0 (wc.heap[gb182]? = some (.cells #[(.slice A1_0 l1_0.length c1_0), (.slice A1_1 l1_1.length c1_1)] 61 (0, 0))) ∧ Aside0 (wc.heap[gb186]? = some (.cells #[.int .i64 ((rd_T52 l0_5 x20_1).f0), .int .i64 ((rd_T52 l0_5 x20_1).f1)] 52 (0, 0))) ∧ Aside0 (Below w.heap.size w wc))
           case first =>
            have H := HC13.out
            clear HC13
            by_cases c18 : ((rd_T52 l0_5 x20_1).f0) = ((rd_T52 l0_5 a2).f0)
            · rw [if_pos c18] at H
              have c18b0 : (((rd_T52 l0_5 x20_1).f0) == ((rd_T52 l0_5 a2).f0)) = true := beq_iff_eq.mpr c18
              have c18b1 : (((rd_T52 l0_5 x20_1).f0) != ((rd_T52 l0_5 a2).f0)) = false := bne_eq_false_iff_eq.mpr c18
              clear c18
              (first | rw [c18b0] | (simp only [i64_w, i32_w]; rw [c18b0]) | skip)
              by_cases c19 : x20_1 < (l1_0.length : Int)
              · rw [if_pos c19] at H
                have c19b0 : decide (x20_1 < (l1_0.length : Int)) = true := decide_eq_true c19
                clear c19
                have H' := Aside0.mk H
                clear H
                have hnb20 := NB186_181.out
                have hnc20 := NB181_186.out
                have hnb21 := NB186_182.out
                have hnc21 := NB182_186.out
                obtain ⟨hcz22_0, hcz22_1⟩ := cells2 BK186
                obtain ⟨hfz22_0, hfz22_1⟩ := fz2 BK186
                have hnb23 := NB182_181.out
                have hnc23 := NB181_182.out
                obtain ⟨hcz24_0, hcz24_1⟩ := cells2 BK182
                obtain ⟨hfz24_0, hfz24_1⟩ := fz2 BK182
                have p187 : 0 ≤ (x20_1 : Int) := of_decide_eq_true (by first | (with_reducible assumption) | assumption)
                have q187 : x20_1 < (l1_0.length : Int) := of_decide_eq_true (by first | (with_reducible assumption) | assumption)
                obtain ⟨ad187, e187, hx187_0⟩ := Kd.at_int HR1_0.out x20_1 p187 q187
                cases e187
                have hn187_0 : ad187.block ≠ gb186 := Nat.ne_of_lt (Nat.lt_of_lt_of_le (by have := World.block_lt_of_cell? _ _ hx187_0; first | rwa [add_block] at this | exact this) GW186.out)
                have hn187_1 : ad187.block ≠ gb186 := Nat.ne_of_lt (Nat.lt_of_lt_of_le (by have := World.block_lt_of_cell? _ _ hx187_0; first | rwa [add_block] at this | exact this) GW186.out)
                replace hx187_0 := hc_ HB hx187_0
                replace hx187_0 := (cell_far (p := ⟨gb186, 0, none⟩) (ab_ hn187_0) (.int .i64 ((rd_T52 l0_5 x20_1).f0))).trans hx187_0
                replace hx187_0 := (cell_far (p := ⟨gb186, 1, none⟩) (ab_ hn187_1) (.int .i64 ((rd_T52 l0_5 x20_1).f1))).trans hx187_0
                replace p187 := eq_true p187
                replace q187 := eq_true q187
                go_wp2
                go_meet
                case rel => exact ⟨_, (decide ((rd l1_0 x20_1) ≥ 0)), (by first | rfl | (simp; done) | (simp [*]; done)), H', ⟨by have := HK1.out; first | omega | exact Nat.le_refl _⟩, ⟨by (with_reducible repeat (first | refine blk_drewN ?_ _ | refine blk_drew ?_ | refine blk_alloc ?_ _)); refine blk_far ?_ NB181_186.out _; (with_reducible repeat (first | refine blk_drewN ?_ _ | refine blk_drew ?_ | refine blk_alloc ?_ _)); refine blk_far ?_ NB181_186.out _; (with_reducible repeat (first | refine blk_drewN ?_ _ | refine blk_drew ?_ | refine blk_alloc ?_ _)); exact BK181.out⟩, ⟨by (with_reducible repeat (first | refine blk_drewN ?_ _ | refine blk_drew ?_ | refine blk_alloc ?_ _)); refine blk_far ?_ NB182_186.out _; (with_reducible repeat (first | refine blk_drewN ?_ _ | refine blk_drew ?_ | refine blk_alloc ?_ _)); refine blk_far ?_ NB182_186.out _; (with_reducible repeat (first | refine blk_drewN ?_ _ | refine blk_drew ?_ | refine blk_alloc ?_ _)); exact BK182.out⟩, ⟨by (with_reducible repeat (first | refine blk_drewN ?_ _ | refine blk_drew ?_ | refine blk_alloc ?_ _)); refine blk_put (cs := #[.int .i64 ((rd_T52 l0_5 x20_1).f0), .int .i64 0]) ?_ 1 _ rfl; (with_reducible repeat (first | refine blk_drewN ?_ _ | refine blk_drew ?_ | refine blk_alloc ?_ _)); refine blk_put (cs := #[.int .i64 0, .int .i64 0]) ?_ 0 _ rfl; (with_reducible repeat (first | refine blk_drewN ?_ _ | refine blk_drew ?_ | refine blk_alloc ?_ _)); exact BK186.out⟩, ⟨bl_⟩⟩
              rw [if_neg c19] at H
              exact absurd H (by simp)
            rw [if_neg c18] at H
            have c18b0 : (((rd_T52 l0_5 x20_1).f0) == ((rd_T52 l0_5 a2).f0)) = false := beq_eq_false_iff_ne.mpr c18
            have c18b1 : (((rd_T52 l0_5 x20_1).f0) != ((rd_T52 l0_5 a2).f0)) = true := bne_iff_ne.mpr c18
            (first | rw [c18b0] | (simp only [i64_w, i32_w]; rw [c18b0]) | skip)
            have H' := Aside0.mk H
            clear H
            have hnb25 := NB186_181.out
            have hnc25 := NB181_186.out
            have hnb26 := NB186_182.out
            have hnc26 := NB182_186.out
            obtain ⟨hcz27_0, hcz27_1⟩ := cells2 BK186
            obtain ⟨hfz27_0, hfz27_1⟩ := fz2 BK186
            go_wp2
            go_meet
            case rel => exact ⟨_, (false), (by first | rfl | (simp; done) | (simp [*]; done)), H', ⟨by have := HK1.out; first | omega | exact Nat.le_refl _⟩, ⟨by (with_reducible repeat (first | refine blk_drewN ?_ _ | refine blk_drew ?_ | refine blk_alloc ?_ _)); refine blk_far ?_ NB181_186.out _; (with_reducible repeat (first | refine blk_drewN ?_ _ | refine blk_drew ?_ | refine blk_alloc ?_ _)); refine blk_far ?_ NB181_186.out _; (with_reducible repeat (first | refine blk_drewN ?_ _ | refine blk_drew ?_ | refine blk_alloc ?_ _)); exact BK181.out⟩, ⟨by (with_reducible repeat (first | refine blk_drewN ?_ _ | refine blk_drew ?_ | refine blk_alloc ?_ _)); refine blk_far ?_ NB182_186.out _; (with_reducible repeat (first | refine blk_drewN ?_ _ | refine blk_drew ?_ | refine blk_alloc ?_ _)); refine blk_far ?_ NB182_186.out _; (with_reducible repeat (first | refine blk_drewN ?_ _ | refine blk_drew ?_ | refine blk_alloc ?_ _)); exact BK182.out⟩, ⟨by (with_reducible repeat (first | refine blk_drewN ?_ _ | refine blk_drew ?_ | refine blk_alloc ?_ _)); refine blk_put (cs := #[.int .i64 ((rd_T52 l0_5 x20_1).f0), .int .i64 0]) ?_ 1 _ rfl; (with_reducible repeat (first | refine blk_drewN ?_ _ | refine blk_drew ?_ | refine blk_alloc ?_ _)); refine blk_put (cs := #[.int .i64 0, .int .i64 0]) ?_ 0 _ rfl; (with_reducible repeat (first | refine blk_drewN ?_ _ | refine blk_drew ?_ | refine blk_alloc ?_ _)); exact BK186.out⟩, ⟨bl_⟩⟩
           clear HC13
           obtain ⟨kq, x36_12, rfl, HA, HJ12, BK181, BK182, BK186, HB⟩ := hcut
           cases kq with
           | zero => exact absurd HA.out (by simp [refute_choices.j1])
           | succ kj12 => ?_
           have H := HA.out
           clear HA
           simp only [refute_choices.j1] at H
           by_cases c28 : x36_12 = true
           · subst c28
             have H1 : (if 0 ≤ x20_1 then (if x20_1 < (l1_1.length : Int) then (refute_choices.l0 kj12 ((rd_T52 l0_5 a2).f0) (mx x8_1 (wrap64 ((rd l1_1 x20_1) + 1))) l0_5 (l0_5.length : Int) (wrap64 (x20_1 + 1)) a0_0 a0_1 a0_2 l0_3 l0_4 l0_5 l1_0 l1_1) else (none)) else (none)) = some r := by rw [if_pos rfl] at H; exact H
             clear H
             have H := H1
             clear H1
             by_cases c29 : 0 ≤ x20_1
             · rw [if_pos c29] at H
               have c29b0 : decide (0 ≤ x20_1) = true := decide_eq_true c29
               clear c29
               by_cases c30 : x20_1 < (l1_1.length : Int)
               · rw [if_pos c30] at H
                 have c30b0 : decide (x20_1 < (l1_1.length : Int)) = true := decide_eq_true c30
                 clear c30
                 obtain ⟨ji31, hji31⟩ : ∃ j_ : Int, (mx x8_1 (wrap64 ((rd l1_1 x20_1) + 1))) = j_ := ⟨_, rfl⟩
                 replace H : (refute_choices.l0 kj12 ((rd_T52 l0_5 a2).f0) ji31 l0_5 (l0_5.length : Int) (wrap64 (x20_1 + 1)) a0_0 a0_1 a0_2 l0_3 l0_4 l0_5 l1_0 l1_1) = some r := by first | (rw [hji31] at H; exact H) | (simp only [hji31] at H ⊢; exact H)
                 have hji31_ : (if x8_1 < (wrap64 ((rd l1_1 x20_1) + 1)) then (wrap64 ((rd l1_1 x20_1) + 1)) else x8_1) = ji31 := hji31
                 have H' := Aside0.mk H
                 clear H
                 have hnb32 := NB182_181.out
                 have hnc32 := NB181_182.out
                 have hnb33 := NB182_186.out
                 have hnc33 := NB186_182.out
                 obtain ⟨hcz34_0, hcz34_1⟩ := cells2 BK182
                 obtain ⟨hfz34_0, hfz34_1⟩ := fz2 BK182
                 have p188 : 0 ≤ (x20_1 : Int) := of_decide_eq_true (by first | (with_reducible assumption) | assumption)
                 have q188 : x20_1 < (l1_1.length : Int) := of_decide_eq_true (by first | (with_reducible assumption) | assumption)
                 obtain ⟨ad188, e188, hx188_0⟩ := Kd.at_int HR1_1.out x20_1 p188 q188
                 cases e188
                 replace hx188_0 := hc_ HB hx188_0
                 replace p188 := eq_true p188
                 replace q188 := eq_true q188
                 go_wp2
                 go_roundg kj12
                 case measure => have := HK1.out; have := HJ12.out; omega
                 case rel => exact ⟨(ji31), (wrap64 (x20_1 + 1)), (by first | rfl | (simp; done) | (simp only [← hji31] <;> (first | rfl | simp)) | (simp [*]; done)), (by first | rfl | (simp; done) | (simp [*]; done)), H', ⟨by have := HK1.out; have := HJ12.out; omega⟩, ⟨K_ BK181⟩, ⟨K_ BK182⟩, ⟨bl_⟩⟩
               rw [if_neg c30] at H
               exact absurd H (by simp)
             rw [if_neg c29] at H
             exact absurd H (by simp)
           replace c28 := Bool.eq_false_iff.mpr c28
           subst c28
           have H1 : (refute_choices.l0 kj12 ((rd_T52 l0_5 a2).f0) x8_1 l0_5 (l0_5.length : Int) (wrap64 (x20_1 + 1)) a0_0 a0_1 a0_2 l0_3 l0_4 l0_5 l1_0 l1_1) = some r := by rw [if_neg (show ¬ (false = true) by decide)] at H; exact H
           clear H
           have H := H1
           clear H1
           have H' := Aside0.mk H
           clear H
           go_wp2
           go_roundg kj12
           case measure => have := HK1.out; have := HJ12.out; omega
           case rel => exact ⟨(x8_1), (wrap64 (x20_1 + 1)), (by first | rfl | (simp; done) | (simp [*]; done)), (by first | rfl | (simp; done) | (simp [*]; done)), H', ⟨by have := HK1.out; have := HJ12.out; omega⟩, ⟨K_ BK181⟩, ⟨K_ BK182⟩, ⟨bl_⟩⟩
         rw [if_neg c12] at H
         exact absurd H (by simp)
       rw [if_neg c11] at H
       exact absurd H (by simp)
     rw [if_neg c10] at H
     have c10b0 : decide (x20_1 < (l0_5.length : Int)) = false := decide_eq_false c10
     clear c10
     by_cases c35 : 0 ≤ ((rd_T52 l0_5 a2).f0)
     · rw [if_pos c35] at H
       have c35b0 : decide (0 ≤ ((rd_T52 l0_5 a2).f0)) = true := decide_eq_true c35
       clear c35
       by_cases c36 : ((rd_T52 l0_5 a2).f0) < (l0_4.length : Int)
       · rw [if_pos c36] at H
         have c36b0 : decide (((rd_T52 l0_5 a2).f0) < (l0_4.length : Int)) = true := decide_eq_true c36
         clear c36
         obtain ⟨ji37, hji37⟩ : ∃ j_ : Int, (mn ((rd_T50 l0_4 ((rd_T52 l0_5 a2).f0)).f3) (wrap64 (x8_1 + 1))) = j_ := ⟨_, rfl⟩
         replace H : (some ji37) = some r := by first | (rw [hji37] at H; exact H) | (simp only [hji37] at H ⊢; exact H)
         have hji37_ : (if (wrap64 (x8_1 + 1)) < ((rd_T50 l0_4 ((rd_T52 l0_5 a2).f0)).f3) then (wrap64 (x8_1 + 1)) else ((rd_T50 l0_4 ((rd_T52 l0_5 a2).f0)).f3)) = ji37 := hji37
         obtain rfl := Option.some.inj H
         have hnb38 := NB181_182.out
         have hnc38 := NB182_181.out
         obtain ⟨hcz39_0, hcz39_1, hcz39_2, hcz39_3, hcz39_4, hcz39_5⟩ := cells6 BK181
         obtain ⟨hfz39_0, hfz39_1, hfz39_2, hfz39_3, hfz39_4, hfz39_5⟩ := fz6 BK181
         have p184 : 0 ≤ (((rd_T52 l0_5 a2).f0) : Int) := of_decide_eq_true (by first | (with_reducible assumption) | assumption)
         have q184 : ((rd_T52 l0_5 a2).f0) < (l0_4.length : Int) := of_decide_eq_true (by first | (with_reducible assumption) | assumption)
         obtain ⟨ad184, e184, hx184_0, hx184_1, hx184_2, hx184_3⟩ := at_T50 HR0_4.out ((rd_T52 l0_5 a2).f0) p184 q184
         cases e184
         replace hx184_0 := hc_ HB hx184_0
         replace hx184_1 := hc_ HB hx184_1
         replace hx184_2 := hc_ HB hx184_2
         replace hx184_3 := hc_ HB hx184_3
         replace p184 := eq_true p184
         replace q184 := eq_true q184
         go_wp2
         go_ret
         exact ⟨by first | rfl | (simp [errW_none, errW_some] <;> rfl) | (simp only [← hji37]; first | rfl | (simp [errW_none, errW_some] <;> rfl)) | (simp [*, errW_none, errW_some] <;> rfl), by repeat (first | (with_reducible first | exact HB.out | apply below_alloc | apply pw_below_drewN | apply below_drew1 | refine below_set ?_ GE181.out | refine below_set ?_ GE182.out) | exact HB.out)⟩
       rw [if_neg c36] at H
       exact absurd H (by simp)
     rw [if_neg c35] at H
     exact absurd H (by simp)
   rw [if_neg c5] at H
   exact absurd H (by simp)
 rw [if_neg c4] at H
 exact absurd H (by simp)
end Go.Proofs.Ytpmlbbglekaidaa.PAll
