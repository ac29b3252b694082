-- Written for this claim by programs of this session (wip/print2 in its repo: a changed printer, a shortener, a packer). Lean checks it.
import Derived.Test.YtmefaegcoogmiaaP0
namespace Go.Proofs.Ytmefaegcoogmiaa.PAll
open Go.RowKit Go.Proofs.YtmefaegcoogmiaaW.PrintWords Go.Proofs.YtmefaegcoogmiaaW.PrintLast Go.Proofs.YtmefaegcoogmiaaW.PrintMore
attribute [local go_sem] max2_int min2_int max_two min_two max_three min_three max_four min_four   -- for this text's walks alone
set_option linter.unusedVariables false
set_option linter.unusedSimpArgs false

/-! ### jacquardref27_Few: function 23 -/
def jacquardref27_Few.l0 : Nat → Int → List Int → List (S73) → List (S73) → List Int → List (S80) → Option (Bool)
  | 0, _, _, _, _, _, _ => none
  | k + 1, x3, x163000, x163001, x163002, x163003, x163004 => if x3 < (x163004.length : Int) then (if 0 ≤ x3 then (if (((rd_T80 x163004 x3).f0).length : Int) > 5 then (some false) else (if (((rd_T80 x163004 x3).f1).length : Int) > 14 then (some false) else (jacquardref27_Few.l0 k (wrap64 (x3 + 1)) x163000 x163001 x163002 x163003 x163004))) else (none)) else (if (x163000.length : Int) ≤ 4 then (if (x163001.length : Int) ≤ 3 then (if (x163002.length : Int) ≤ 4 then (if (x163003.length : Int) ≤ 3 then (some (decide ((x163004.length : Int) ≤ 5))) else (some false)) else (some false)) else (some false)) else (some false))
def jacquardref27_Few.f (k : Nat) (l0_0 : List Int) (l0_1 : List (S73)) (l0_2 : List (S73)) (l0_3 : List Int) (l0_4 : List (S80)) : Option (Bool) := jacquardref27_Few.l0 k 0 l0_0 l0_1 l0_2 l0_3 l0_4
theorem jacquardref27_Few.mono_l : ∀ k, (∀ y0 y1 y2 y3 y4 y5, LeO (jacquardref27_Few.l0 k y0 y1 y2 y3 y4 y5) (jacquardref27_Few.l0 (k + 1) y0 y1 y2 y3 y4 y5))
  | 0 => fun _ _ _ _ _ _ r h => by simp [jacquardref27_Few.l0] at h
  | k + 1 => by
    have ih0 := jacquardref27_Few.mono_l k
    · intro y0 y1 y2 y3 y4 y5
      unfold jacquardref27_Few.l0
      repeat' first
      | (with_reducible exact ih0 _ _ _ _ _ _)
      | (with_reducible exact LeO.refl _)
      | (with_reducible exact LeO.none _)
      | (with_reducible refine LeO.ite ?_ ?_)
      | (with_reducible refine LeO.bind ?_ (fun _ => ?_))
      | exact ih0 _ _ _ _ _ _
      | exact LeO.none _
      | refine LeO.ite ?_ ?_
      | refine LeO.bind ?_ (fun _ => ?_)
theorem jacquardref27_Few.mono : ∀ a0 a1 a2 a3 a4 k, LeO (jacquardref27_Few.f k a0 a1 a2 a3 a4) (jacquardref27_Few.f (k + 1) a0 a1 a2 a3 a4) := by
 intro a0 a1 a2 a3 a4 k
 have ih0 := jacquardref27_Few.mono_l k
 unfold jacquardref27_Few.f
 repeat' first
     | (with_reducible exact ih0 _ _ _ _ _ _)
     | (with_reducible exact LeO.refl _)
     | (with_reducible exact LeO.none _)
     | (with_reducible refine LeO.ite ?_ ?_)
     | (with_reducible refine LeO.bind ?_ (fun _ => ?_))
     | exact ih0 _ _ _ _ _ _
     | exact LeO.none _
     | refine LeO.ite ?_ ?_
     | refine LeO.bind ?_ (fun _ => ?_)
set_option maxHeartbeats 8000000 in
set_option maxRecDepth 100000 in
theorem jacquardref27_Few.calls (k : Nat) (A0_0 : Option Addr) (c0_0 : Nat) (l0_0 : List Int) (A0_1 : Option Addr) (c0_1 : Nat) (l0_1 : List (S73)) (A0_2 : Option Addr) (c0_2 : Nat) (l0_2 : List (S73)) (A0_3 : Option Addr) (c0_3 : Nat) (l0_3 : List Int) (A0_4 : Option Addr) (c0_4 : Nat) (l0_4 : List (S80)) (r : Bool) (w : World) (hr0_0 : Kd.C (Kd.int .u8) w A0_0 l0_0.length l0_0) (hc0_0 : l0_0.length ≤ c0_0) (hr0_1 : Kd.C k73 w A0_1 l0_1.length l0_1) (hc0_1 : l0_1.length ≤ c0_1) (hr0_2 : Kd.C k73 w A0_2 l0_2.length l0_2) (hc0_2 : l0_2.length ≤ c0_2) (hr0_3 : Kd.C (Kd.int .u8) w A0_3 l0_3.length l0_3) (hc0_3 : l0_3.length ≤ c0_3) (hr0_4 : Kd.C k80 w A0_4 l0_4.length l0_4) (hc0_4 : l0_4.length ≤ c0_4) (h : jacquardref27_Few.f k l0_0 l0_1 l0_2 l0_3 l0_4 = some r) :
    Calls Try.prog 23 #[.agg #[.slice A0_0 l0_0.length c0_0, .slice A0_1 l0_1.length c0_1, .slice A0_2 l0_2.length c0_2, .slice A0_3 l0_3.length c0_3, .slice A0_4 l0_4.length c0_4]] w fun e w' => e = .returned (.bool r) ∧ Below w.heap.size w w' := by
 have hu36 := Try.underlying36
 have HR0_0 := Aside0.mk hr0_0
 have HC0_0 := Aside0.mk hc0_0
 clear hr0_0 hc0_0
 have HR0_1 := Aside0.mk hr0_1
 have HC0_1 := Aside0.mk hc0_1
 clear hr0_1 hc0_1
 have HR0_2 := Aside0.mk hr0_2
 have HC0_2 := Aside0.mk hc0_2
 clear hr0_2 hc0_2
 have HR0_3 := Aside0.mk hr0_3
 have HC0_3 := Aside0.mk hc0_3
 clear hr0_3 hc0_3
 have HR0_4 := Aside0.mk hr0_4
 have HC0_4 := Aside0.mk hc0_4
 clear hr0_4 hc0_4
 have HB := Aside0.mk (Below.refl w.heap.size w)
 have H : (jacquardref27_Few.l0 k 0 l0_0 l0_1 l0_2 l0_3 l0_4) = some r := h
 clear h
 have H' := Aside0.mk H
 clear H
 go_enter Try.func23, Try.ntmps23
 go_wp2_with (first | ((with_reducible refine gate_dst (N := 1) rfl ?_); (try (refine gate_guard (by rfl) ?_; dsimp only)); refine box_event ?hg (N := 1) ?hd (cs := #[.slice A0_0 l0_0.length c0_0, .slice A0_1 l0_1.length c0_1, .slice A0_2 l0_2.length c0_2, .slice A0_3 l0_3.length c0_3, .slice A0_4 l0_4.length c0_4]) (t := 36) ?hr ?_; (case hd => rfl); (case hg => rfl); (case hr => first | (go_simp; done) | (go_simp; rfl)); intro gb162 hg w2 hbox hb; have n0_ := Aside0.mk (below_step bl_ hb); have n1_ := Aside0.mk (hbox); have n2_ := Aside0.mk (gl_ (w := w) hg); have n3_ := Aside0.mk (gl_ (w := w) hg); clear HB; have HB := n0_; have BK162 := n1_; have GW162 := n2_; have GE162 := n3_; clear n0_ n1_ n2_ n3_; clear hb hbox hg))
 go_loopg [3] k (fun kq v3 w' => ∃ (x3_1 : Int), v3 = .int .i64 x3_1 ∧ Aside0 (jacquardref27_Few.l0 kq x3_1 l0_0 l0_1 l0_2 l0_3 l0_4 = some r) ∧ Aside0 (kq ≤ k) ∧ Aside0 (w'.heap[gb162]? = some (.cells #[(.slice A0_0 l0_0.length c0_0), (.slice A0_1 l0_1.length c0_1), (.slice A0_2 l0_2.length c0_2), (.slice A0_3 l0_3.length c0_3), (.slice A0_4 l0_4.length c0_4)] 36 (0, 0))) ∧ Aside0 (Below w.heap.size w w'))
 case atStart => exact ⟨(0), (by first | rfl | (simp; done) | (simp [*]; done)), H', ⟨Nat.le_refl _⟩, ⟨K_ BK162⟩, ⟨bl_⟩⟩
 clear H'
 (try clear c2); (try clear p2)
 obtain ⟨x3_1, rfl, HA, HK1, BK162, HB⟩ := hrel
 cases gk with
 | zero => exact absurd HA.out (by simp [jacquardref27_Few.l0])
 | succ k1 => ?_
 have H := HA.out
 clear HA
 simp only [jacquardref27_Few.l0] at H
 by_cases c3 : x3_1 < (l0_4.length : Int)
 · rw [if_pos c3] at H
   have c3b0 : decide (x3_1 < (l0_4.length : Int)) = true := decide_eq_true c3
   clear c3
   by_cases c4 : 0 ≤ x3_1
   · rw [if_pos c4] at H
     have c4b0 : decide (0 ≤ x3_1) = true := decide_eq_true c4
     clear c4
     by_cases c5 : (((rd_T80 l0_4 x3_1).f0).length : Int) > 5
     · rw [if_pos c5] at H
       have c5b0 : decide (5 < (((rd_T80 l0_4 x3_1).f0).length : Int)) = true := decide_eq_true c5
       have c5b1 : decide (5 < ((rd_T80 l0_4 x3_1).f0).length) = true := decide_eq_true (by omega)
       clear c5
       obtain rfl := Option.some.inj H
       obtain ⟨hcz6_0, hcz6_1, hcz6_2, hcz6_3, hcz6_4⟩ := cells5 BK162
       obtain ⟨hfz6_0, hfz6_1, hfz6_2, hfz6_3, hfz6_4⟩ := fz5 BK162
       have p163 : 0 ≤ (x3_1 : Int) := of_decide_eq_true (by first | (with_reducible assumption) | assumption)
       have q163 : x3_1 < (l0_4.length : Int) := of_decide_eq_true (by first | (with_reducible assumption) | assumption)
       obtain ⟨ad163, A163_0, c163_0, A163_1, c163_1, e163, hx163_0, hx163_1, hx163_2, hx163_3, hx163_4, hx163_5, hx163_6, hl163_0, hi163_0, hl163_1, hi163_1⟩ := at_T80 HR0_4.out x3_1 p163 q163
       cases e163
       replace hx163_0 := hc_ HB hx163_0
       replace hx163_1 := hc_ HB hx163_1
       replace hx163_2 := hc_ HB hx163_2
       replace hx163_3 := hc_ HB hx163_3
       replace hx163_4 := hc_ HB hx163_4
       replace hx163_5 := hc_ HB hx163_5
       replace hx163_6 := hc_ HB hx163_6
       have HR163_0 := Aside0.mk hi163_0
       have HC163_0 := Aside0.mk hl163_0
       clear hi163_0 hl163_0
       have HR163_1 := Aside0.mk hi163_1
       have HC163_1 := Aside0.mk hl163_1
       clear hi163_1 hl163_1
       replace p163 := eq_true p163
       replace q163 := eq_true q163
       go_wp2
       go_ret
       exact ⟨by first | rfl | (simp [errW_none, errW_some] <;> rfl) | (simp [*, errW_none, errW_some] <;> rfl), by repeat (first | (with_reducible first | exact HB.out | apply below_alloc | apply pw_below_drewN | apply below_drew1 | refine below_set ?_ GE162.out) | exact HB.out)⟩
     rw [if_neg c5] at H
     have c5b0 : decide (5 < (((rd_T80 l0_4 x3_1).f0).length : Int)) = false := decide_eq_false c5
     have c5b1 : decide (5 < ((rd_T80 l0_4 x3_1).f0).length) = false := decide_eq_false (by omega)
     clear c5
     by_cases c7 : (((rd_T80 l0_4 x3_1).f1).length : Int) > 14
     · rw [if_pos c7] at H
       have c7b0 : decide (14 < (((rd_T80 l0_4 x3_1).f1).length : Int)) = true := decide_eq_true c7
       have c7b1 : decide (14 < ((rd_T80 l0_4 x3_1).f1).length) = true := decide_eq_true (by omega)
       clear c7
       obtain rfl := Option.some.inj H
       obtain ⟨hcz8_0, hcz8_1, hcz8_2, hcz8_3, hcz8_4⟩ := cells5 BK162
       obtain ⟨hfz8_0, hfz8_1, hfz8_2, hfz8_3, hfz8_4⟩ := fz5 BK162
       have p163 : 0 ≤ (x3_1 : Int) := of_decide_eq_true (by first | (with_reducible assumption) | assumption)
       have q163 : x3_1 < (l0_4.length : Int) := of_decide_eq_true (by first | (with_reducible assumption) | assumption)
       obtain ⟨ad163, A163_0, c163_0, A163_1, c163_1, e163, hx163_0, hx163_1, hx163_2, hx163_3, hx163_4, hx163_5, hx163_6, hl163_0, hi163_0, hl163_1, hi163_1⟩ := at_T80 HR0_4.out x3_1 p163 q163
       cases e163
       replace hx163_0 := hc_ HB hx163_0
       replace hx163_1 := hc_ HB hx163_1
       replace hx163_2 := hc_ HB hx163_2
       replace hx163_3 := hc_ HB hx163_3
       replace hx163_4 := hc_ HB hx163_4
       replace hx163_5 := hc_ HB hx163_5
       replace hx163_6 := hc_ HB hx163_6
       have HR163_0 := Aside0.mk hi163_0
       have HC163_0 := Aside0.mk hl163_0
       clear hi163_0 hl163_0
       have HR163_1 := Aside0.mk hi163_1
       have HC163_1 := Aside0.mk hl163_1
       clear hi163_1 hl163_1
       replace p163 := eq_true p163
       replace q163 := eq_true q163
       have p164 : 0 ≤ (x3_1 : Int) := of_decide_eq_true (by first | (with_reducible assumption) | assumption)
       have q164 : x3_1 < (l0_4.length : Int) := of_decide_eq_true (by first | (with_reducible assumption) | assumption)
       obtain ⟨ad164, A164_0, c164_0, A164_1, c164_1, e164, hx164_0, hx164_1, hx164_2, hx164_3, hx164_4, hx164_5, hx164_6, hl164_0, hi164_0, hl164_1, hi164_1⟩ := at_T80 HR0_4.out x3_1 p164 q164
       obtain rfl : ad163 = ad164 := (by injection e164)
       replace hx164_0 := hc_ HB hx164_0
       replace hx164_1 := hc_ HB hx164_1
       replace hx164_2 := hc_ HB hx164_2
       replace hx164_3 := hc_ HB hx164_3
       replace hx164_4 := hc_ HB hx164_4
       replace hx164_5 := hc_ HB hx164_5
       replace hx164_6 := hc_ HB hx164_6
       have HR164_0 := Aside0.mk hi164_0
       have HC164_0 := Aside0.mk hl164_0
       clear hi164_0 hl164_0
       have HR164_1 := Aside0.mk hi164_1
       have HC164_1 := Aside0.mk hl164_1
       clear hi164_1 hl164_1
       replace p164 := eq_true p164
       replace q164 := eq_true q164
       have ea_ := Option.some.inj (hx163_0.symm.trans hx164_0)
       injection ea_ with ea_ en_ ec_
       subst ea_
       subst ec_
       clear en_
       have ea_ := Option.some.inj (hx163_1.symm.trans hx164_1)
       injection ea_ with ea_ en_ ec_
       subst ea_
       subst ec_
       clear en_
       go_wp2
       go_ret
       exact ⟨by first | rfl | (simp [errW_none, errW_some] <;> rfl) | (simp [*, errW_none, errW_some] <;> rfl), by repeat (first | (with_reducible first | exact HB.out | apply below_alloc | apply pw_below_drewN | apply below_drew1 | refine below_set ?_ GE162.out) | exact HB.out)⟩
     rw [if_neg c7] at H
     have c7b0 : decide (14 < (((rd_T80 l0_4 x3_1).f1).length : Int)) = false := decide_eq_false c7
     have c7b1 : decide (14 < ((rd_T80 l0_4 x3_1).f1).length) = false := decide_eq_false (by omega)
     clear c7
     have H' := Aside0.mk H
     clear H
     obtain ⟨hcz9_0, hcz9_1, hcz9_2, hcz9_3, hcz9_4⟩ := cells5 BK162
     obtain ⟨hfz9_0, hfz9_1, hfz9_2, hfz9_3, hfz9_4⟩ := fz5 BK162
     have p163 : 0 ≤ (x3_1 : Int) := of_decide_eq_true (by first | (with_reducible assumption) | assumption)
     have q163 : x3_1 < (l0_4.length : Int) := of_decide_eq_true (by first | (with_reducible assumption) | assumption)
     obtain ⟨ad163, A163_0, c163_0, A163_1, c163_1, e163, hx163_0, hx163_1, hx163_2, hx163_3, hx163_4, hx163_5, hx163_6, hl163_0, hi163_0, hl163_1, hi163_1⟩ := at_T80 HR0_4.out x3_1 p163 q163
     cases e163
     replace hx163_0 := hc_ HB hx163_0
     replace hx163_1 := hc_ HB hx163_1
     replace hx163_2 := hc_ HB hx163_2
     replace hx163_3 := hc_ HB hx163_3
     replace hx163_4 := hc_ HB hx163_4
     replace hx163_5 := hc_ HB hx163_5
     replace hx163_6 := hc_ HB hx163_6
     have HR163_0 := Aside0.mk hi163_0
     have HC163_0 := Aside0.mk hl163_0
     clear hi163_0 hl163_0
     have HR163_1 := Aside0.mk hi163_1
     have HC163_1 := Aside0.mk hl163_1
     clear hi163_1 hl163_1
     replace p163 := eq_true p163
     replace q163 := eq_true q163
     have p164 : 0 ≤ (x3_1 : Int) := of_decide_eq_true (by first | (with_reducible assumption) | assumption)
     have q164 : x3_1 < (l0_4.length : Int) := of_decide_eq_true (by first | (with_reducible assumption) | assumption)
     obtain ⟨ad164, A164_0, c164_0, A164_1, c164_1, e164, hx164_0, hx164_1, hx164_2, hx164_3, hx164_4, hx164_5, hx164_6, hl164_0, hi164_0, hl164_1, hi164_1⟩ := at_T80 HR0_4.out x3_1 p164 q164
     obtain rfl : ad163 = ad164 := (by injection e164)
     replace hx164_0 := hc_ HB hx164_0
     replace hx164_1 := hc_ HB hx164_1
     replace hx164_2 := hc_ HB hx164_2
     replace hx164_3 := hc_ HB hx164_3
     replace hx164_4 := hc_ HB hx164_4
     replace hx164_5 := hc_ HB hx164_5
     replace hx164_6 := hc_ HB hx164_6
     have HR164_0 := Aside0.mk hi164_0
     have HC164_0 := Aside0.mk hl164_0
     clear hi164_0 hl164_0
     have HR164_1 := Aside0.mk hi164_1
     have HC164_1 := Aside0.mk hl164_1
     clear hi164_1 hl164_1
     replace p164 := eq_true p164
     replace q164 := eq_true q164
     have ea_ := Option.some.inj (hx163_0.symm.trans hx164_0)
     injection ea_ with ea_ en_ ec_
     subst ea_
     subst ec_
     clear en_
     have ea_ := Option.some.inj (hx163_1.symm.trans hx164_1)
     injection ea_ with ea_ en_ ec_
     subst ea_
     subst ec_
     clear en_
     go_wp2
     go_roundg k1
     case measure => have := HK1.out; omega
     case rel => exact ⟨(wrap64 (x3_1 + 1)), (by first | rfl | (simp; done) | (simp [*]; done)), H', ⟨by have := HK1.out; omega⟩, ⟨K_ BK162⟩, ⟨bl_⟩⟩
   rw [if_neg c4] at H
   exact absurd H (by simp)
 rw [if_neg c3] at H
 have c3b0 : decide (x3_1 < (l0_4.length : Int)) = false := decide_eq_false c3
 clear c3
 by_cases c10 : (l0_0.length : Int) ≤ 4
 · rw [if_pos c10] at H
   have c10b0 : decide ((l0_0.length : Int) ≤ 4) = true := decide_eq_true c10
   have c10b1 : decide (l0_0.length ≤ 4) = true := decide_eq_true (by omega)
   clear c10
   by_cases c11 : (l0_1.length : Int) ≤ 3
   · rw [if_pos c11] at H
     have c11b0 : decide ((l0_1.length : Int) ≤ 3) = true := decide_eq_true c11
     have c11b1 : decide (l0_1.length ≤ 3) = true := decide_eq_true (by omega)
     clear c11
     by_cases c12 : (l0_2.length : Int) ≤ 4
     · rw [if_pos c12] at H
       have c12b0 : decide ((l0_2.length : Int) ≤ 4) = true := decide_eq_true c12
       have c12b1 : decide (l0_2.length ≤ 4) = true := decide_eq_true (by omega)
       clear c12
       by_cases c13 : (l0_3.length : Int) ≤ 3
       · rw [if_pos c13] at H
         have c13b0 : decide ((l0_3.length : Int) ≤ 3) = true := decide_eq_true c13
         have c13b1 : decide (l0_3.length ≤ 3) = true := decide_eq_true (by omega)
         clear c13
         obtain rfl := Option.some.inj H
         obtain ⟨hcz14_0, hcz14_1, hcz14_2, hcz14_3, hcz14_4⟩ := cells5 BK162
         obtain ⟨hfz14_0, hfz14_1, hfz14_2, hfz14_3, hfz14_4⟩ := fz5 BK162
         go_wp2
         go_ret
         exact ⟨by first | rfl | (simp [errW_none, errW_some] <;> rfl) | (simp [*, errW_none, errW_some] <;> rfl), by repeat (first | (with_reducible first | exact HB.out | apply below_alloc | apply pw_below_drewN | apply below_drew1 | refine below_set ?_ GE162.out) | exact HB.out)⟩
       rw [if_neg c13] at H
       have c13b0 : decide ((l0_3.length : Int) ≤ 3) = false := decide_eq_false c13
       have c13b1 : decide (l0_3.length ≤ 3) = false := decide_eq_false (by omega)
       clear c13
       obtain rfl := Option.some.inj H
       obtain ⟨hcz15_0, hcz15_1, hcz15_2, hcz15_3, hcz15_4⟩ := cells5 BK162
       obtain ⟨hfz15_0, hfz15_1, hfz15_2, hfz15_3, hfz15_4⟩ := fz5 BK162
       go_wp2
       go_ret
       exact ⟨by first | rfl | (simp [errW_none, errW_some] <;> rfl) | (simp [*, errW_none, errW_some] <;> rfl), by repeat (first | (with_reducible first | exact HB.out | apply below_alloc | apply pw_below_drewN | apply below_drew1 | refine below_set ?_ GE162.out) | exact HB.out)⟩
     rw [if_neg c12] at H
     have c12b0 : decide ((l0_2.length : Int) ≤ 4) = false := decide_eq_false c12
     have c12b1 : decide (l0_2.length ≤ 4) = false := decide_eq_false (by omega)
     clear c12
     obtain rfl := Option.some.inj H
     obtain ⟨hcz16_0, hcz16_1, hcz16_2, hcz16_3, hcz16_4⟩ := cells5 BK162
     obtain ⟨hfz16_0, hfz16_1, hfz16_2, hfz16_3, hfz16_4⟩ := fz5 BK162
     go_wp2
     go_ret
     exact ⟨by first | rfl | (simp [errW_none, errW_some] <;> rfl) | (simp [*, errW_none, errW_some] <;> rfl), by repeat (first | (with_reducible first | exact HB.out | apply below_alloc | apply pw_below_drewN | apply below_drew1 | refine below_set ?_ GE162.out) | exact HB.out)⟩
   rw [if_neg c11] at H
   have c11b0 : decide ((l0_1.length : Int) ≤ 3) = false := decide_eq_false c11
   have c11b1 : decide (l0_1.length ≤ 3) = false := decide_eq_false (by omega)
   clear c11
   obtain rfl := Option.some.inj H
   obtain ⟨hcz17_0, hcz17_1, hcz17_2, hcz17_3, hcz17_4⟩ := cells5 BK162
   obtain ⟨hfz17_0, hfz17_1, hfz17_2, hfz17_3, hfz17_4⟩ := fz5 BK162
   go_wp2
   go_ret
   exact ⟨by first | rfl | (simp [errW_none, errW_some] <;> rfl) | (simp [*, errW_none, errW_some] <;> rfl), by repeat (first | (with_reducible first | exact HB.out | apply below_alloc | apply pw_below_drewN | apply below_drew1 | refine below_set ?_ GE162.out) | exact HB.out)⟩
 rw [if_neg c10] at H
 have c10b0 : decide ((l0_0.length : Int) ≤ 4) = false := decide_eq_false c10
 have c10b1 : decide (l0_0.length ≤ 4) = false := decide_eq_false (by omega)
 clear c10
 obtain rfl := Option.some.inj H
 obtain ⟨hcz18_0, hcz18_1, hcz18_2, hcz18_3, hcz18_4⟩ := cells5 BK162
 obtain ⟨hfz18_0, hfz18_1, hfz18_2, hfz18_3, hfz18_4⟩ := fz5 BK162
 go_wp2
 go_ret
 exact ⟨by first | rfl | (simp [errW_none, errW_some] <;> rfl) | (simp [*, errW_none, errW_some] <;> rfl), by repeat (first | (with_reducible first | exact HB.out | apply below_alloc | apply pw_below_drewN | apply below_drew1 | refine below_set ?_ GE162.out) | exact HB.out)⟩
end Go.Proofs.Ytmefaegcoogmiaa.PAll
