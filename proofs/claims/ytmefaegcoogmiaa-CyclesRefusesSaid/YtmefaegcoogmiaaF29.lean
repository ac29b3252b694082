-- Written for this claim by programs of this session (wip/print2 in its repo: a changed printer, a shortener, a packer). Lean checks it.
import Derived.Test.YtmefaegcoogmiaaP0
namespace Go.Proofs.Ytmefaegcoogmiaa.PAll
open Go.RowKit Go.Proofs.YtmefaegcoogmiaaW.PrintWords Go.Proofs.YtmefaegcoogmiaaW.PrintLast Go.Proofs.YtmefaegcoogmiaaW.PrintMore
attribute [local go_sem] max2_int min2_int max_two min_two max_three min_three max_four min_four   -- for this text's walks alone
set_option linter.unusedVariables false
set_option linter.unusedSimpArgs false

/-! ### cycles_leads: function 29 -/
def cycles_leads.l0 : Nat → Int → List (S71) → Int → Int → Option (Bool)
  | 0, _, _, _, _ => none
  | k + 1, x2, x15, x16, x17 => if x17 < x16 then (if 0 ≤ x17 then (if x17 < (x15.length : Int) then (if ((rd_T71 x15 x17).f0) = x2 then (some true) else (cycles_leads.l0 k x2 x15 x16 (wrap64 (x17 + 1)))) else (none)) else (none)) else (some false)
def cycles_leads.f (k : Nat) (a0_0 : ByteArray) (l0_1 : List Int) (l0_2 : List (S75)) (l0_3 : List (S77)) (l0_4 : List Int) (l0_5 : List (S66)) (a1 : Int) (a2 : Int) : Option (Bool) := if 0 ≤ a1 then (if a1 < (l0_5.length : Int) then (cycles_leads.l0 k a2 ((rd_T66 l0_5 a1).f2.f2) (((rd_T66 l0_5 a1).f2.f2).length : Int) 0) else (none)) else (none)
theorem cycles_leads.mono_l : ∀ k, (∀ y0 y1 y2 y3, LeO (cycles_leads.l0 k y0 y1 y2 y3) (cycles_leads.l0 (k + 1) y0 y1 y2 y3))
  | 0 => fun _ _ _ _ r h => by simp [cycles_leads.l0] at h
  | k + 1 => by
    have ih0 := cycles_leads.mono_l k
    · intro y0 y1 y2 y3
      unfold cycles_leads.l0
      repeat' first
      | (with_reducible exact ih0 _ _ _ _)
      | (with_reducible exact LeO.refl _)
      | (with_reducible exact LeO.none _)
      | (with_reducible refine LeO.ite ?_ ?_)
      | (with_reducible refine LeO.bind ?_ (fun _ => ?_))
      | exact ih0 _ _ _ _
      | exact LeO.none _
      | refine LeO.ite ?_ ?_
      | refine LeO.bind ?_ (fun _ => ?_)
theorem cycles_leads.mono : ∀ a0 a1 a2 a3 a4 a5 a6 a7 k, LeO (cycles_leads.f k a0 a1 a2 a3 a4 a5 a6 a7) (cycles_leads.f (k + 1) a0 a1 a2 a3 a4 a5 a6 a7) := by
 intro a0 a1 a2 a3 a4 a5 a6 a7 k
 have ih0 := cycles_leads.mono_l k
 unfold cycles_leads.f
 repeat' first
     | (with_reducible exact ih0 _ _ _ _)
     | (with_reducible exact LeO.refl _)
     | (with_reducible exact LeO.none _)
     | (with_reducible refine LeO.ite ?_ ?_)
     | (with_reducible refine LeO.bind ?_ (fun _ => ?_))
     | exact ih0 _ _ _ _
     | exact LeO.none _
     | refine LeO.ite ?_ ?_
     | refine LeO.bind ?_ (fun _ => ?_)
set_option maxHeartbeats 8000000 in
set_option maxRecDepth 100000 in
theorem cycles_leads.calls (k : Nat) (a0_0 : ByteArray) (A0_1 : Option Addr) (c0_1 : Nat) (l0_1 : List Int) (A0_2 : Option Addr) (c0_2 : Nat) (l0_2 : List (S75)) (A0_3 : Option Addr) (c0_3 : Nat) (l0_3 : List (S77)) (A0_4 : Option Addr) (c0_4 : Nat) (l0_4 : List Int) (A0_5 : Option Addr) (c0_5 : Nat) (l0_5 : List (S66)) (a1 : Int) (a2 : Int) (r : Bool) (w : World) (hr0_1 : Kd.C (Kd.int .i64) w A0_1 l0_1.length l0_1) (hc0_1 : l0_1.length ≤ c0_1) (hr0_2 : Kd.C k75 w A0_2 l0_2.length l0_2) (hc0_2 : l0_2.length ≤ c0_2) (hr0_3 : Kd.C k77 w A0_3 l0_3.length l0_3) (hc0_3 : l0_3.length ≤ c0_3) (hr0_4 : Kd.C (Kd.int .i64) w A0_4 l0_4.length l0_4) (hc0_4 : l0_4.length ≤ c0_4) (hr0_5 : Kd.C k66 w A0_5 l0_5.length l0_5) (hc0_5 : l0_5.length ≤ c0_5) (h : cycles_leads.f k a0_0 l0_1 l0_2 l0_3 l0_4 l0_5 a1 a2 = some r) :
    Calls Try.prog 29 #[.agg #[.string a0_0, .slice A0_1 l0_1.length c0_1, .slice A0_2 l0_2.length c0_2, .slice A0_3 l0_3.length c0_3, .slice A0_4 l0_4.length c0_4, .slice A0_5 l0_5.length c0_5], .int .i64 a1, .int .i64 a2] w fun e w' => e = .returned (.bool r) ∧ Below w.heap.size w w' := by
 have hu27 := Try.underlying27
 have hu71 := Try.underlying71
 have HR0_1 := Aside0.mk hr0_1
 have HC0_1 := Aside0.mk hc0_1
 clear hr0_1 hc0_1
 have HR0_2 := Aside0.mk hr0_2
 have HC0_2 := Aside0.mk hc0_2
 clear hr0_2 hc0_2
 have HR0_3 := Aside0.mk hr0_3
 have HC0_3 := Aside0.mk hc0_3
 clear hr0_3 hc0_3
 have HR0_4 := Aside0.mk hr0_4
 have HC0_4 := Aside0.mk hc0_4
 clear hr0_4 hc0_4
 have HR0_5 := Aside0.mk hr0_5
 have HC0_5 := Aside0.mk hc0_5
 clear hr0_5 hc0_5
 have HB := Aside0.mk (Below.refl w.heap.size w)
 have H : (if 0 ≤ a1 then (if a1 < (l0_5.length : Int) then (cycles_leads.l0 k a2 ((rd_T66 l0_5 a1).f2.f2) (((rd_T66 l0_5 a1).f2.f2).length : Int) 0) else (none)) else (none)) = some r := h
 clear h
 by_cases c4 : 0 ≤ a1
 · rw [if_pos c4] at H
   have c4b0 : decide (0 ≤ a1) = true := decide_eq_true c4
   clear c4
   by_cases c5 : a1 < (l0_5.length : Int)
   · rw [if_pos c5] at H
     have c5b0 : decide (a1 < (l0_5.length : Int)) = true := decide_eq_true c5
     clear c5
     have H' := Aside0.mk H
     clear H
     go_enter Try.func29, Try.ntmps29
     go_wp2_with (first | ((with_reducible refine gate_dst (N := 3) rfl ?_); refine box_event ?hg (N := 3) ?hd (cs := #[.string a0_0, .slice A0_1 l0_1.length c0_1, .slice A0_2 l0_2.length c0_2, .slice A0_3 l0_3.length c0_3, .slice A0_4 l0_4.length c0_4, .slice A0_5 l0_5.length c0_5]) (t := 27) ?hr ?_; (case hd => rfl); (case hg => rfl); (case hr => first | (go_simp; done) | (go_simp; rfl)); intro gb107 hg w6 hbox hb; have n0_ := Aside0.mk (below_step bl_ hb); have n1_ := Aside0.mk (hbox); have n2_ := Aside0.mk (gl_ (w := w) hg); have n3_ := Aside0.mk (gl_ (w := w) hg); clear HB; have HB := n0_; have BK107 := n1_; have GW107 := n2_; have GE107 := n3_; clear n0_ n1_ n2_ n3_; clear hb hbox hg; obtain ⟨hcz7_0, hcz7_1, hcz7_2, hcz7_3, hcz7_4, hcz7_5⟩ := cells6 BK107; obtain ⟨hfz7_0, hfz7_1, hfz7_2, hfz7_3, hfz7_4, hfz7_5⟩ := fz6 BK107; have p108 : 0 ≤ (a1 : Int) := of_decide_eq_true (by first | (with_reducible assumption) | assumption); have q108 : a1 < (l0_5.length : Int) := of_decide_eq_true (by first | (with_reducible assumption) | assumption); obtain ⟨ad108, A108_0, c108_0, A108_1, c108_1, A108_4, c108_4, A108_5, c108_5, e108, hx108_0, hx108_1, hx108_2, hx108_3, hx108_4, hx108_5, hx108_6, hx108_7, hx108_8, hl108_0, hi108_0, hl108_1, hi108_1, hl108_4, hi108_4, hl108_5, hi108_5⟩ := at_T66 HR0_5.out a1 p108 q108; cases e108; replace hx108_0 := hc_ HB hx108_0; replace hx108_1 := hc_ HB hx108_1; replace hx108_2 := hc_ HB hx108_2; replace hx108_3 := hc_ HB hx108_3; replace hx108_4 := hc_ HB hx108_4; replace hx108_5 := hc_ HB hx108_5; replace hx108_6 := hc_ HB hx108_6; replace hx108_7 := hc_ HB hx108_7; replace hx108_8 := hc_ HB hx108_8; have HR108_0 := Aside0.mk hi108_0; have HC108_0 := Aside0.mk hl108_0; clear hi108_0 hl108_0; have HR108_1 := Aside0.mk hi108_1; have HC108_1 := Aside0.mk hl108_1; clear hi108_1 hl108_1; have HR108_4 := Aside0.mk hi108_4; have HC108_4 := Aside0.mk hl108_4; clear hi108_4 hl108_4; have HR108_5 := Aside0.mk hi108_5; have HC108_5 := Aside0.mk hl108_5; clear hi108_5 hl108_5; replace p108 := eq_true p108; replace q108 := eq_true q108))
     go_loopg [17] k (fun kq v17 w' => ∃ (x17_1 : Int), v17 = .int .i64 x17_1 ∧ Aside0 (cycles_leads.l0 kq a2 ((rd_T66 l0_5 a1).f2.f2) (((rd_T66 l0_5 a1).f2.f2).length : Int) x17_1 = some r) ∧ Aside0 (kq ≤ k) ∧ Aside0 (w'.heap[gb107]? = some (.cells #[.string a0_0, (.slice A0_1 l0_1.length c0_1), (.slice A0_2 l0_2.length c0_2), (.slice A0_3 l0_3.length c0_3), (.slice A0_4 l0_4.length c0_4), (.slice (some ad108) l0_5.length c0_5)] 27 (0, 0))) ∧ Aside0 (Below w.heap.size w w'))
     case atStart => exact ⟨(0), (by first | rfl | (simp; done) | (simp [*]; done)), H', ⟨Nat.le_refl _⟩, ⟨K_ BK107⟩, ⟨bl_⟩⟩
     clear H'
     (try clear c1); (try clear p1); (try clear q1); (try clear hx1); (try clear c2); (try clear p2); (try clear c4); (try clear c4b0); (try clear c5); (try clear c5b0); (try clear hcz7_0); (try clear hcz7_1); (try clear hcz7_2); (try clear hcz7_3); (try clear hcz7_4); (try clear hcz7_5); (try clear hfz7_0); (try clear hfz7_1); (try clear hfz7_2); (try clear hfz7_3); (try clear hfz7_4); (try clear hfz7_5); (try clear hx108_0); (try clear hx108_1); (try clear hx108_2); (try clear hx108_3); (try clear hx108_4); (try clear hx108_5); (try clear hx108_6); (try clear hx108_7); (try clear hx108_8); (try clear p108); (try clear q108)
     obtain ⟨x17_1, rfl, HA, HK1, BK107, HB⟩ := hrel
     cases gk with
     | zero => exact absurd HA.out (by simp [cycles_leads.l0])
     | succ k1 => ?_
     have H := HA.out
     clear HA
     simp only [cycles_leads.l0] at H
     by_cases c8 : x17_1 < (((rd_T66 l0_5 a1).f2.f2).length : Int)
     · rw [if_pos c8] at H
       have c8b0 : decide (x17_1 < (((rd_T66 l0_5 a1).f2.f2).length : Int)) = true := decide_eq_true c8
       clear c8
       by_cases c9 : 0 ≤ x17_1
       · rw [if_pos c9] at H
         have c9b0 : decide (0 ≤ x17_1) = true := decide_eq_true c9
         clear c9
         by_cases c10 : x17_1 < (((rd_T66 l0_5 a1).f2.f2).length : Int)
         · rw [if_pos c10] at H
           have c10b0 : decide (x17_1 < (((rd_T66 l0_5 a1).f2.f2).length : Int)) = true := decide_eq_true c10
           clear c10
           by_cases c11 : ((rd_T71 ((rd_T66 l0_5 a1).f2.f2) x17_1).f0) = a2
           · rw [if_pos c11] at H
             have c11b0 : (((rd_T71 ((rd_T66 l0_5 a1).f2.f2) x17_1).f0) == a2) = true := beq_iff_eq.mpr c11
             have c11b1 : (((rd_T71 ((rd_T66 l0_5 a1).f2.f2) x17_1).f0) != a2) = false := bne_eq_false_iff_eq.mpr c11
             clear c11
             obtain rfl := Option.some.inj H
             have p109 : 0 ≤ (x17_1 : Int) := of_decide_eq_true (by first | (with_reducible assumption) | assumption)
             have q109 : x17_1 < (((rd_T66 l0_5 a1).f2.f2).length : Int) := of_decide_eq_true (by first | (with_reducible assumption) | assumption)
             obtain ⟨ad109, A109_1, c109_1, e109, hx109_0, hx109_1, hl109_1, hi109_1⟩ := at_T71 HR108_4.out x17_1 p109 q109
             cases e109
             replace hx109_0 := hc_ HB hx109_0
             replace hx109_1 := hc_ HB hx109_1
             have HR109_1 := Aside0.mk hi109_1
             have HC109_1 := Aside0.mk hl109_1
             clear hi109_1 hl109_1
             replace p109 := eq_true p109
             replace q109 := eq_true q109
             go_wp2_with (first | ((with_reducible refine gate_dst (N := 8) rfl ?_); refine box_event ?hg (N := 8) ?hd (cs := #[.int .i64 0, .slice none 0 0]) (t := 71) ?hr ?_; (case hd => rfl); (case hg => rfl); (case hr => first | (go_simp; done) | (go_simp; rfl)); intro gb110 hg w12 hbox hb; have n0_ := Aside0.mk (blk_below (K_ BK107) hb); have n1_ := Aside0.mk (below_step bl_ hb); have n2_ := Aside0.mk (hbox); have n3_ := Aside0.mk (gl_ (w := w) hg); have n4_ := Aside0.mk (gl_ (w := w) hg); have n5_ := Aside0.mk (nl_ hg (K_ BK107)); have n6_ := Aside0.mk (ng_ hg (K_ BK107)); clear BK107; clear HB; have BK107 := n0_; have HB := n1_; have BK110 := n2_; have GW110 := n3_; have GE110 := n4_; have NB107_110 := n5_; have NB110_107 := n6_; clear n0_ n1_ n2_ n3_ n4_ n5_ n6_; clear hb hbox hg; have hnb13 := NB110_107.out; have hnc13 := NB107_110.out; obtain ⟨hcz14_0, hcz14_1⟩ := cells2 BK110; obtain ⟨hfz14_0, hfz14_1⟩ := fz2 BK110))
             go_ret
             exact ⟨by first | rfl | (simp [errW_none, errW_some] <;> rfl) | (simp [*, errW_none, errW_some] <;> rfl), by repeat (first | (with_reducible first | exact HB.out | apply below_alloc | apply pw_below_drewN | apply below_drew1 | refine below_set ?_ GE107.out | refine below_set ?_ GE110.out) | exact HB.out)⟩
           rw [if_neg c11] at H
           have c11b0 : (((rd_T71 ((rd_T66 l0_5 a1).f2.f2) x17_1).f0) == a2) = false := beq_eq_false_iff_ne.mpr c11
           have c11b1 : (((rd_T71 ((rd_T66 l0_5 a1).f2.f2) x17_1).f0) != a2) = true := bne_iff_ne.mpr c11
           have H' := Aside0.mk H
           clear H
           have p109 : 0 ≤ (x17_1 : Int) := of_decide_eq_true (by first | (with_reducible assumption) | assumption)
           have q109 : x17_1 < (((rd_T66 l0_5 a1).f2.f2).length : Int) := of_decide_eq_true (by first | (with_reducible assumption) | assumption)
           obtain ⟨ad109, A109_1, c109_1, e109, hx109_0, hx109_1, hl109_1, hi109_1⟩ := at_T71 HR108_4.out x17_1 p109 q109
           cases e109
           replace hx109_0 := hc_ HB hx109_0
           replace hx109_1 := hc_ HB hx109_1
           have HR109_1 := Aside0.mk hi109_1
           have HC109_1 := Aside0.mk hl109_1
           clear hi109_1 hl109_1
           replace p109 := eq_true p109
           replace q109 := eq_true q109
           go_wp2_with (first | ((with_reducible refine gate_dst (N := 8) rfl ?_); refine box_event ?hg (N := 8) ?hd (cs := #[.int .i64 0, .slice none 0 0]) (t := 71) ?hr ?_; (case hd => rfl); (case hg => rfl); (case hr => first | (go_simp; done) | (go_simp; rfl)); intro gb110 hg w15 hbox hb; have n0_ := Aside0.mk (blk_below (K_ BK107) hb); have n1_ := Aside0.mk (below_step bl_ hb); have n2_ := Aside0.mk (hbox); have n3_ := Aside0.mk (gl_ (w := w) hg); have n4_ := Aside0.mk (gl_ (w := w) hg); have n5_ := Aside0.mk (nl_ hg (K_ BK107)); have n6_ := Aside0.mk (ng_ hg (K_ BK107)); clear BK107; clear HB; have BK107 := n0_; have HB := n1_; have BK110 := n2_; have GW110 := n3_; have GE110 := n4_; have NB107_110 := n5_; have NB110_107 := n6_; clear n0_ n1_ n2_ n3_ n4_ n5_ n6_; clear hb hbox hg; have hnb16 := NB110_107.out; have hnc16 := NB107_110.out; obtain ⟨hcz17_0, hcz17_1⟩ := cells2 BK110; obtain ⟨hfz17_0, hfz17_1⟩ := fz2 BK110))
           go_roundg k1
           case measure => have := HK1.out; omega
           case rel => exact ⟨(wrap64 (x17_1 + 1)), (by first | rfl | (simp; done) | (simp [*]; done)), H', ⟨by have := HK1.out; omega⟩, ⟨by (with_reducible repeat (first | refine blk_drewN ?_ _ | refine blk_drew ?_ | refine blk_alloc ?_ _)); refine blk_far ?_ NB107_110.out _; (with_reducible repeat (first | refine blk_drewN ?_ _ | refine blk_drew ?_ | refine blk_alloc ?_ _)); refine blk_far ?_ NB107_110.out _; (with_reducible repeat (first | refine blk_drewN ?_ _ | refine blk_drew ?_ | refine blk_alloc ?_ _)); exact BK107.out⟩, ⟨bl_⟩⟩
         rw [if_neg c10] at H
         exact absurd H (by simp)
       rw [if_neg c9] at H
       exact absurd H (by simp)
     rw [if_neg c8] at H
     have c8b0 : decide (x17_1 < (((rd_T66 l0_5 a1).f2.f2).length : Int)) = false := decide_eq_false c8
     clear c8
     obtain rfl := Option.some.inj H
     go_wp2
     go_ret
     exact ⟨by first | rfl | (simp [errW_none, errW_some] <;> rfl) | (simp [*, errW_none, errW_some] <;> rfl), by repeat (first | (with_reducible first | exact HB.out | apply below_alloc | apply pw_below_drewN | apply below_drew1 | refine below_set ?_ GE107.out) | exact HB.out)⟩
   rw [if_neg c5] at H
   exact absurd H (by simp)
 rw [if_neg c4] at H
 exact absurd H (by simp)
end Go.Proofs.Ytmefaegcoogmiaa.PAll
