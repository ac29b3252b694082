-- Written for this claim by programs of this session (wip/print2 in its repo: a changed printer, a shortener, a packer). Lean checks it.
import Derived.Test.YtmefaegcoogmiaaP0
import Derived.Test.YtmefaegcoogmiaaF14
import Derived.Test.YtmefaegcoogmiaaF16
import Derived.Test.YtmefaegcoogmiaaF21
import Derived.Test.YtmefaegcoogmiaaF22
import Derived.Test.YtmefaegcoogmiaaF23
import Derived.Test.YtmefaegcoogmiaaF24
import Derived.Test.YtmefaegcoogmiaaF9
import Derived.Test.YtmefaegcoogmiaaMk
namespace Go.Proofs.Ytmefaegcoogmiaa.PAll
open Go.RowKit Go.Proofs.YtmefaegcoogmiaaW.PrintWords Go.Proofs.YtmefaegcoogmiaaW.PrintLast Go.Proofs.YtmefaegcoogmiaaW.PrintMore
attribute [local go_sem] max2_int min2_int max_two min_two max_three min_three max_four min_four   -- for this text's walks alone
set_option linter.unusedVariables false
set_option linter.unusedSimpArgs false

/-! ### jacquardlaw36_CyclesRefuses: function 7 -/
def jacquardlaw36_CyclesRefuses.j0 : Nat → List (S73) → List Int → Bool → List Int → List (S73) → List (S73) → List Int → List (S80) → Option (Bool)
  | 0, _, _, _, _, _, _, _, _ => none
  | k + 1, x1, x2, x29, x344000, x344001, x344002, x344003, x344004 => if x29 = true then ((jacquardlaw36_awake.f k).bind fun t346 => (some t346)) else ((jacquardref27_Func.f k x344000 x344001 x344002 x344003 x344004).bind fun bt347 => ((jacquardref36_Scheds.f k bt347.1 bt347.2.1 bt347.2.2.1 bt347.2.2.2.1 bt347.2.2.2.2.1 bt347.2.2.2.2.2 x1).bind fun t364 => ((cycles_Split.f k bt347.1 bt347.2.1 bt347.2.2.1 bt347.2.2.2.1 bt347.2.2.2.2.1 bt347.2.2.2.2.2 t364 x2).bind fun bt367 => ((cycles_Count.f k bt347.1 bt347.2.1 bt347.2.2.1 bt347.2.2.2.1 bt347.2.2.2.2.1 bt347.2.2.2.2.2 t364 x2).bind fun bt371 => ((cycles_Issues.f k bt347.1 bt347.2.1 bt347.2.2.1 bt347.2.2.2.1 bt347.2.2.2.2.1 bt347.2.2.2.2.2 t364 x2).bind fun bt373 => (if 1 ≤ (t364.length : Int) then ((cycles_Split.f k bt347.1 bt347.2.1 bt347.2.2.1 bt347.2.2.2.1 bt347.2.2.2.2.1 bt347.2.2.2.2.2 (t364.drop 1) (([0] : List Int))).bind fun bt384 => (if bt384.2 = 3 then ((jacquardref36_Path.f k bt347.1 bt347.2.1 bt347.2.2.1 bt347.2.2.2.1 bt347.2.2.2.2.1 bt347.2.2.2.2.2 t364 x2).bind fun t388 => (if t388 = true then (if 0 ≤ (wrap64 ((x2.length : Int) - 1)) then (if (wrap64 ((x2.length : Int) - 1)) < (x2.length : Int) then (if 0 ≤ (rd x2 (wrap64 ((x2.length : Int) - 1))) then (if (rd x2 (wrap64 ((x2.length : Int) - 1))) < (bt347.2.2.2.2.2.length : Int) then (if bt367.2 = 0 then (if bt373.2 = 0 then (some ((bt371.2 == 0) == (((rd_T66 bt347.2.2.2.2.2 (rd x2 (wrap64 ((x2.length : Int) - 1)))).f2.f0) == 3))) else (some false)) else (some false)) else (none)) else (none)) else (none)) else (none)) else (if bt367.2 = 3 then (if bt371.2 = 3 then (some (bt373.2 == 3)) else (some false)) else (some false)))) else (some false))) else (none)))))))
def jacquardlaw36_CyclesRefuses.f (k : Nat) (l0_0 : List Int) (l0_1 : List (S73)) (l0_2 : List (S73)) (l0_3 : List Int) (l0_4 : List (S80)) (l1 : List (S73)) (l2 : List Int) : Option (Bool) := (jacquardlaw36_awake.f k).bind fun t344 => (if t344 = true then ((jacquardref27_Few.f k l0_0 l0_1 l0_2 l0_3 l0_4).bind fun t345 => (if t345 = true then (jacquardlaw36_CyclesRefuses.j0 k l1 l2 (decide ((l2.length : Int) > 100)) l0_0 l0_1 l0_2 l0_3 l0_4) else (jacquardlaw36_CyclesRefuses.j0 k l1 l2 true l0_0 l0_1 l0_2 l0_3 l0_4))) else (jacquardlaw36_CyclesRefuses.j0 k l1 l2 true l0_0 l0_1 l0_2 l0_3 l0_4))
theorem jacquardlaw36_CyclesRefuses.mono_l : ∀ k, (∀ y0 y1 y2 y3 y4 y5 y6 y7, LeO (jacquardlaw36_CyclesRefuses.j0 k y0 y1 y2 y3 y4 y5 y6 y7) (jacquardlaw36_CyclesRefuses.j0 (k + 1) y0 y1 y2 y3 y4 y5 y6 y7))
  | 0 => fun _ _ _ _ _ _ _ _ r h => by simp [jacquardlaw36_CyclesRefuses.j0] at h
  | k + 1 => by
    have ih0 := jacquardlaw36_CyclesRefuses.mono_l k
    · intro y0 y1 y2 y3 y4 y5 y6 y7
      unfold jacquardlaw36_CyclesRefuses.j0
      repeat' first
      | (with_reducible exact ih0 _ _ _ _ _ _ _ _)
      | (with_reducible exact cycles_Count.mono _ _ _ _ _ _ _ _ _)
      | (with_reducible exact cycles_Issues.mono _ _ _ _ _ _ _ _ _)
      | (with_reducible exact cycles_Split.mono _ _ _ _ _ _ _ _ _)
      | (with_reducible exact jacquardlaw36_awake.mono _)
      | (with_reducible exact jacquardref27_Few.mono _ _ _ _ _ _)
      | (with_reducible exact jacquardref27_Func.mono _ _ _ _ _ _)
      | (with_reducible exact jacquardref36_Path.mono _ _ _ _ _ _ _ _ _)
      | (with_reducible exact jacquardref36_Scheds.mono _ _ _ _ _ _ _ _)
      | (with_reducible exact LeO.refl _)
      | (with_reducible exact LeO.none _)
      | (with_reducible refine LeO.ite ?_ ?_)
      | (with_reducible refine LeO.bind ?_ (fun _ => ?_))
      | exact ih0 _ _ _ _ _ _ _ _
      | exact cycles_Count.mono _ _ _ _ _ _ _ _ _
      | exact cycles_Issues.mono _ _ _ _ _ _ _ _ _
      | exact cycles_Split.mono _ _ _ _ _ _ _ _ _
      | exact jacquardlaw36_awake.mono _
      | exact jacquardref27_Few.mono _ _ _ _ _ _
      | exact jacquardref27_Func.mono _ _ _ _ _ _
      | exact jacquardref36_Path.mono _ _ _ _ _ _ _ _ _
      | exact jacquardref36_Scheds.mono _ _ _ _ _ _ _ _
      | exact LeO.none _
      | refine LeO.ite ?_ ?_
      | refine LeO.bind ?_ (fun _ => ?_)
theorem jacquardlaw36_CyclesRefuses.mono : ∀ a0 a1 a2 a3 a4 a5 a6 k, LeO (jacquardlaw36_CyclesRefuses.f k a0 a1 a2 a3 a4 a5 a6) (jacquardlaw36_CyclesRefuses.f (k + 1) a0 a1 a2 a3 a4 a5 a6) := by
 intro a0 a1 a2 a3 a4 a5 a6 k
 have ih0 := jacquardlaw36_CyclesRefuses.mono_l k
 unfold jacquardlaw36_CyclesRefuses.f
 repeat' first
     | (with_reducible exact ih0 _ _ _ _ _ _ _ _)
     | (with_reducible exact cycles_Count.mono _ _ _ _ _ _ _ _ _)
     | (with_reducible exact cycles_Issues.mono _ _ _ _ _ _ _ _ _)
     | (with_reducible exact cycles_Split.mono _ _ _ _ _ _ _ _ _)
     | (with_reducible exact jacquardlaw36_awake.mono _)
     | (with_reducible exact jacquardref27_Few.mono _ _ _ _ _ _)
     | (with_reducible exact jacquardref27_Func.mono _ _ _ _ _ _)
     | (with_reducible exact jacquardref36_Path.mono _ _ _ _ _ _ _ _ _)
     | (with_reducible exact jacquardref36_Scheds.mono _ _ _ _ _ _ _ _)
     | (with_reducible exact LeO.refl _)
     | (with_reducible exact LeO.none _)
     | (with_reducible refine LeO.ite ?_ ?_)
     | (with_reducible refine LeO.bind ?_ (fun _ => ?_))
     | exact ih0 _ _ _ _ _ _ _ _
     | exact cycles_Count.mono _ _ _ _ _ _ _ _ _
     | exact cycles_Issues.mono _ _ _ _ _ _ _ _ _
     | exact cycles_Split.mono _ _ _ _ _ _ _ _ _
     | exact jacquardlaw36_awake.mono _
     | exact jacquardref27_Few.mono _ _ _ _ _ _
     | exact jacquardref27_Func.mono _ _ _ _ _ _
     | exact jacquardref36_Path.mono _ _ _ _ _ _ _ _ _
     | exact jacquardref36_Scheds.mono _ _ _ _ _ _ _ _
     | exact LeO.none _
     | refine LeO.ite ?_ ?_
     | refine LeO.bind ?_ (fun _ => ?_)
def jacquardlaw36_CyclesRefuses.T8 : Bool × List (List Nat × List Nat) := (true, [([], []), ([], []), ([1], [1]), ([], []), ([0, 2, 3], [0, 2, 3]), ([4], [4]), ([5], [5]), ([5], [5]), ([6, 4, 0, 1, 2, 3, 4, 5, 6], [6]), ([7, 8, 0, 1, 2, 3, 4, 5, 6, 7, 8], [7])])
def jacquardlaw36_CyclesRefuses.B8 : List Nat := [0, 0, 2, 0, 15, 31, 63, 63, 127, 511]
theorem jacquardlaw36_CyclesRefuses.tab8 : rtab .any (opsOf Try.f7 8) = jacquardlaw36_CyclesRefuses.T8 := by kernel_rfl
theorem jacquardlaw36_CyclesRefuses.bits8 : waitsOk jacquardlaw36_CyclesRefuses.T8.2 jacquardlaw36_CyclesRefuses.B8 = true := by kernel_rfl
def jacquardlaw36_CyclesRefuses.T13 : Bool × List (List Nat × List Nat) := (true, [([], []), ([0], [0]), ([], []), ([], []), ([3], [3]), ([4], [4]), ([2, 5], [2, 5]), ([6], [6]), ([1, 7], [1, 7]), ([8], [8]), ([9], [9]), ([10], [10]), ([11], [11]), ([12, 0, 1, 2, 3, 4, 5, 6, 7, 8, 9, 10, 11, 12], [12])])
def jacquardlaw36_CyclesRefuses.B13 : List Nat := [0, 1, 0, 0, 8, 24, 60, 124, 255, 511, 1023, 2047, 4095, 8191]
theorem jacquardlaw36_CyclesRefuses.tab13 : rtab .any (opsOf Try.f7 13) = jacquardlaw36_CyclesRefuses.T13 := by kernel_rfl
theorem jacquardlaw36_CyclesRefuses.bits13 : waitsOk jacquardlaw36_CyclesRefuses.T13.2 jacquardlaw36_CyclesRefuses.B13 = true := by kernel_rfl
set_option maxHeartbeats 8000000 in
set_option maxRecDepth 100000 in
theorem jacquardlaw36_CyclesRefuses.calls (k : Nat) (A0_0 : Option Addr) (c0_0 : Nat) (l0_0 : List Int) (A0_1 : Option Addr) (c0_1 : Nat) (l0_1 : List (S73)) (A0_2 : Option Addr) (c0_2 : Nat) (l0_2 : List (S73)) (A0_3 : Option Addr) (c0_3 : Nat) (l0_3 : List Int) (A0_4 : Option Addr) (c0_4 : Nat) (l0_4 : List (S80)) (A1 : Option Addr) (c1 : Nat) (l1 : List (S73)) (A2 : Option Addr) (c2 : Nat) (l2 : List Int) (r : Bool) (w : World) (hr0_0 : Kd.C (Kd.int .u8) w A0_0 l0_0.length l0_0) (hc0_0 : l0_0.length ≤ c0_0) (hr0_1 : Kd.C k73 w A0_1 l0_1.length l0_1) (hc0_1 : l0_1.length ≤ c0_1) (hr0_2 : Kd.C k73 w A0_2 l0_2.length l0_2) (hc0_2 : l0_2.length ≤ c0_2) (hr0_3 : Kd.C (Kd.int .u8) w A0_3 l0_3.length l0_3) (hc0_3 : l0_3.length ≤ c0_3) (hr0_4 : Kd.C k80 w A0_4 l0_4.length l0_4) (hc0_4 : l0_4.length ≤ c0_4) (hr1 : Kd.C k73 w A1 l1.length l1) (hc1 : l1.length ≤ c1) (hr2 : Kd.C (Kd.int .i64) w A2 l2.length l2) (hc2 : l2.length ≤ c2) (h : jacquardlaw36_CyclesRefuses.f k l0_0 l0_1 l0_2 l0_3 l0_4 l1 l2 = some r) (hr_ : r = true) :
    Calls Try.prog 7 #[.agg #[.slice A0_0 l0_0.length c0_0, .slice A0_1 l0_1.length c0_1, .slice A0_2 l0_2.length c0_2, .slice A0_3 l0_3.length c0_3, .slice A0_4 l0_4.length c0_4], .slice A1 l1.length c1, .slice A2 l2.length c2] w fun e w' => e = .returned (.bool r) ∧ Below w.heap.size w w' := by
 have hu36 := Try.underlying36
 have hu27 := Try.underlying27
 have HR0_0 := Aside0.mk hr0_0
 have HC0_0 := Aside0.mk hc0_0
 clear hr0_0 hc0_0
 have HR0_1 := Aside0.mk hr0_1
 have HC0_1 := Aside0.mk hc0_1
 clear hr0_1 hc0_1
 have HR0_2 := Aside0.mk hr0_2
 have HC0_2 := Aside0.mk hc0_2
 clear hr0_2 hc0_2
 have HR0_3 := Aside0.mk hr0_3
 have HC0_3 := Aside0.mk hc0_3
 clear hr0_3 hc0_3
 have HR0_4 := Aside0.mk hr0_4
 have HC0_4 := Aside0.mk hc0_4
 clear hr0_4 hc0_4
 have HR1 := Aside0.mk hr1
 have HC1 := Aside0.mk hc1
 clear hr1 hc1
 have HR2 := Aside0.mk hr2
 have HC2 := Aside0.mk hc2
 clear hr2 hc2
 have HB := Aside0.mk (Below.refl w.heap.size w)
 have HRT_ := Aside0.mk hr_
 clear hr_
 have H : ((jacquardlaw36_awake.f k).bind fun t344 => (if t344 = true then ((jacquardref27_Few.f k l0_0 l0_1 l0_2 l0_3 l0_4).bind fun t345 => (if t345 = true then (jacquardlaw36_CyclesRefuses.j0 k l1 l2 (decide ((l2.length : Int) > 100)) l0_0 l0_1 l0_2 l0_3 l0_4) else (jacquardlaw36_CyclesRefuses.j0 k l1 l2 true l0_0 l0_1 l0_2 l0_3 l0_4))) else (jacquardlaw36_CyclesRefuses.j0 k l1 l2 true l0_0 l0_1 l0_2 l0_3 l0_4))) = some r := h
 clear h
 have HC4 := Aside0.mk H
 clear H
 go_enter Try.func7, Try.ntmps7
 go_upto_region 1 with (first | ((with_reducible refine gate_dst (N := 3) rfl ?_); (try (refine gate_guard (by rfl) ?_; dsimp only)); refine box_event ?hg (N := 3) ?hd (cs := #[.slice A0_0 l0_0.length c0_0, .slice A0_1 l0_1.length c0_1, .slice A0_2 l0_2.length c0_2, .slice A0_3 l0_3.length c0_3, .slice A0_4 l0_4.length c0_4]) (t := 36) ?hr ?_; (case hd => rfl); (case hg => rfl); (case hr => first | (go_simp; done) | (go_simp; rfl)); intro gb343 hg w5 hbox hb; have n0_ := Aside0.mk (below_step bl_ hb); have n1_ := Aside0.mk (hbox); have n2_ := Aside0.mk (gl_ (w := w) hg); have n3_ := Aside0.mk (gl_ (w := w) hg); clear HB; have HB := n0_; have BK343 := n1_; have GW343 := n2_; have GE343 := n3_; clear n0_ n1_ n2_ n3_; clear hb hbox hg))
 (try simp only [Act.put, List.setIfInBounds_toArray, List.set_cons_zero, List.set_cons_succ])
 go_cut [29] (fun v29 wc => ∃ (kq : Nat) (x29_3 : Bool), v29 = .bool x29_3 ∧ Aside0 (jacquardlaw36_CyclesRefuses.j0 kq l1 l2 x29_3 l0_0 l0_1 l0_2 l0_3 l0_4 = some r) ∧ Aside0 (kq ≤ k) ∧ Aside0 (wc.heap[gb343]? = some (.cells #[(.slice A0_0 l0_0.length c0_0), (.slice A0_1 l0_1.length c0_1), (.slice A0_2 l0_2.length c0_2), (.slice A0_3 l0_3.length c0_3), (.slice A0_4 l0_4.length c0_4)] 36 (0, 0))) ∧ Aside0 (Below w.heap.size w wc))
 case first =>
  have H := HC4.out
  clear HC4
  replace H := Option.bind_eq_some_iff.mp H
  obtain ⟨t344, A60, H⟩ := H
  replace H : (if t344 = true then ((jacquardref27_Few.f k l0_0 l0_1 l0_2 l0_3 l0_4).bind fun t345 => (if t345 = true then (jacquardlaw36_CyclesRefuses.j0 k l1 l2 (decide ((l2.length : Int) > 100)) l0_0 l0_1 l0_2 l0_3 l0_4) else (jacquardlaw36_CyclesRefuses.j0 k l1 l2 true l0_0 l0_1 l0_2 l0_3 l0_4))) else (jacquardlaw36_CyclesRefuses.j0 k l1 l2 true l0_0 l0_1 l0_2 l0_3 l0_4)) = some r := H
  have A6 := Aside0.mk A60
  clear A60
  by_cases c7 : t344 = true
  · subst c7
    have H1 : ((jacquardref27_Few.f k l0_0 l0_1 l0_2 l0_3 l0_4).bind fun t345 => (if t345 = true then (jacquardlaw36_CyclesRefuses.j0 k l1 l2 (decide ((l2.length : Int) > 100)) l0_0 l0_1 l0_2 l0_3 l0_4) else (jacquardlaw36_CyclesRefuses.j0 k l1 l2 true l0_0 l0_1 l0_2 l0_3 l0_4))) = some r := by rw [if_pos rfl] at H; exact H
    clear H
    have H := H1
    clear H1
    replace H := Option.bind_eq_some_iff.mp H
    obtain ⟨t345, A80, H⟩ := H
    replace H : (if t345 = true then (jacquardlaw36_CyclesRefuses.j0 k l1 l2 (decide ((l2.length : Int) > 100)) l0_0 l0_1 l0_2 l0_3 l0_4) else (jacquardlaw36_CyclesRefuses.j0 k l1 l2 true l0_0 l0_1 l0_2 l0_3 l0_4)) = some r := H
    have A8 := Aside0.mk A80
    clear A80
    by_cases c9 : t345 = true
    · subst c9
      have H1 : (jacquardlaw36_CyclesRefuses.j0 k l1 l2 (decide ((l2.length : Int) > 100)) l0_0 l0_1 l0_2 l0_3 l0_4) = some r := by rw [if_pos rfl] at H; exact H
      clear H
      have H := H1
      clear H1
      have H' := Aside0.mk H
      clear H
      go_wp2_with (first | ((with_reducible refine gate_callee (f := 9) rfl ?_); refine gL_ 18 Try.func9 #[] ?_; (with_reducible refine (jacquardlaw36_awake.calls k  true _ A6.out).mono ?_); rintro e w10 ⟨rfl, hb⟩; refine ⟨_, rfl, ?_⟩; have n0_ := Aside0.mk (blk_below (K_ BK343) hb); have n1_ := Aside0.mk (below_step bl_ hb); clear BK343; clear HB; have BK343 := n0_; have HB := n1_; clear n0_ n1_; (try clear hb); (try clear hb2); (try clear hk); (try clear hi); obtain ⟨hcz11_0, hcz11_1, hcz11_2, hcz11_3, hcz11_4⟩ := cells5 BK343; obtain ⟨hfz11_0, hfz11_1, hfz11_2, hfz11_3, hfz11_4⟩ := fz5 BK343) | (go_at_call 23; (with_reducible refine (jacquardref27_Few.calls k _ _ l0_0 _ _ l0_1 _ _ l0_2 _ _ l0_3 _ _ l0_4 true _ ?side1 ?side2 ?side3 ?side4 ?side5 ?side6 ?side7 ?side8 ?side9 ?side10 A8.out).mono ?_); (case side1 => exact CB_ HR0_0); (case side2 => exact HC0_0.out); (case side3 => exact CB_ HR0_1); (case side4 => exact HC0_1.out); (case side5 => exact CB_ HR0_2); (case side6 => exact HC0_2.out); (case side7 => exact CB_ HR0_3); (case side8 => exact HC0_3.out); (case side9 => exact CB_ HR0_4); (case side10 => exact HC0_4.out); rintro e w12 ⟨rfl, hb⟩; have n0_ := Aside0.mk (blk_below (K_ BK343) hb); have n1_ := Aside0.mk (below_step bl_ hb); clear BK343; clear HB; have BK343 := n0_; have HB := n1_; clear n0_ n1_; (try clear hb); (try clear hb2); (try clear hk); (try clear hi)))
      go_meet
      case rel => exact ⟨_, (decide ((l2.length : Int) > 100)), (by first | rfl | (simp; done) | (simp [*]; done)), H', ⟨by first | omega | exact Nat.le_refl _⟩, ⟨K_ BK343⟩, ⟨bl_⟩⟩
    replace c9 := Bool.eq_false_iff.mpr c9
    subst c9
    have H1 : (jacquardlaw36_CyclesRefuses.j0 k l1 l2 true l0_0 l0_1 l0_2 l0_3 l0_4) = some r := by rw [if_neg (show ¬ (false = true) by decide)] at H; exact H
    clear H
    have H := H1
    clear H1
    have H' := Aside0.mk H
    clear H
    go_wp2_with (first | ((with_reducible refine gate_callee (f := 9) rfl ?_); refine gL_ 18 Try.func9 #[] ?_; (with_reducible refine (jacquardlaw36_awake.calls k  true _ A6.out).mono ?_); rintro e w13 ⟨rfl, hb⟩; refine ⟨_, rfl, ?_⟩; have n0_ := Aside0.mk (blk_below (K_ BK343) hb); have n1_ := Aside0.mk (below_step bl_ hb); clear BK343; clear HB; have BK343 := n0_; have HB := n1_; clear n0_ n1_; (try clear hb); (try clear hb2); (try clear hk); (try clear hi); obtain ⟨hcz14_0, hcz14_1, hcz14_2, hcz14_3, hcz14_4⟩ := cells5 BK343; obtain ⟨hfz14_0, hfz14_1, hfz14_2, hfz14_3, hfz14_4⟩ := fz5 BK343) | (go_at_call 23; (with_reducible refine (jacquardref27_Few.calls k _ _ l0_0 _ _ l0_1 _ _ l0_2 _ _ l0_3 _ _ l0_4 false _ ?side1 ?side2 ?side3 ?side4 ?side5 ?side6 ?side7 ?side8 ?side9 ?side10 A8.out).mono ?_); (case side1 => exact CB_ HR0_0); (case side2 => exact HC0_0.out); (case side3 => exact CB_ HR0_1); (case side4 => exact HC0_1.out); (case side5 => exact CB_ HR0_2); (case side6 => exact HC0_2.out); (case side7 => exact CB_ HR0_3); (case side8 => exact HC0_3.out); (case side9 => exact CB_ HR0_4); (case side10 => exact HC0_4.out); rintro e w15 ⟨rfl, hb⟩; have n0_ := Aside0.mk (blk_below (K_ BK343) hb); have n1_ := Aside0.mk (below_step bl_ hb); clear BK343; clear HB; have BK343 := n0_; have HB := n1_; clear n0_ n1_; (try clear hb); (try clear hb2); (try clear hk); (try clear hi)))
    go_meet
    case rel => exact ⟨_, (true), (by first | rfl | (simp; done) | (simp [*]; done)), H', ⟨by first | omega | exact Nat.le_refl _⟩, ⟨K_ BK343⟩, ⟨bl_⟩⟩
  replace c7 := Bool.eq_false_iff.mpr c7
  subst c7
  have H1 : (jacquardlaw36_CyclesRefuses.j0 k l1 l2 true l0_0 l0_1 l0_2 l0_3 l0_4) = some r := by rw [if_neg (show ¬ (false = true) by decide)] at H; exact H
  clear H
  have H := H1
  clear H1
  have H' := Aside0.mk H
  clear H
  go_wp2_with (first | ((with_reducible refine gate_callee (f := 9) rfl ?_); refine gL_ 18 Try.func9 #[] ?_; (with_reducible refine (jacquardlaw36_awake.calls k  false _ A6.out).mono ?_); rintro e w16 ⟨rfl, hb⟩; refine ⟨_, rfl, ?_⟩; have n0_ := Aside0.mk (blk_below (K_ BK343) hb); have n1_ := Aside0.mk (below_step bl_ hb); clear BK343; clear HB; have BK343 := n0_; have HB := n1_; clear n0_ n1_; (try clear hb); (try clear hb2); (try clear hk); (try clear hi)))
  go_meet
  case rel => exact ⟨_, (true), (by first | rfl | (simp; done) | (simp [*]; done)), H', ⟨by first | omega | exact Nat.le_refl _⟩, ⟨K_ BK343⟩, ⟨bl_⟩⟩
 clear HC4
 (try clear c1); (try clear c2); (try clear p2); (try clear c7); (try clear c9); (try clear hcz11_0); (try clear hcz11_1); (try clear hcz11_2); (try clear hcz11_3); (try clear hcz11_4); (try clear hcz14_0); (try clear hcz14_1); (try clear hcz14_2); (try clear hcz14_3); (try clear hcz14_4); (try clear hfz11_0); (try clear hfz11_1); (try clear hfz11_2); (try clear hfz11_3); (try clear hfz11_4); (try clear hfz14_0); (try clear hfz14_1); (try clear hfz14_2); (try clear hfz14_3); (try clear hfz14_4)
 obtain ⟨kq, x29_3, rfl, HA, HJ3, BK343, HB⟩ := hcut
 cases kq with
 | zero => exact absurd HA.out (by simp [jacquardlaw36_CyclesRefuses.j0])
 | succ kj3 => ?_
 have H := HA.out
 clear HA
 simp only [jacquardlaw36_CyclesRefuses.j0] at H
 by_cases c17 : x29_3 = true
 · subst c17
   have H1 : ((jacquardlaw36_awake.f kj3).bind fun t346 => (some t346)) = some r := by rw [if_pos rfl] at H; exact H
   clear H
   have H := H1
   clear H1
   replace H := Option.bind_eq_some_iff.mp H
   obtain ⟨t346, A180, H⟩ := H
   replace H : (some t346) = some r := H
   have A18 := Aside0.mk A180
   clear A180
   obtain rfl := Option.some.inj H
   go_wp2_with (first | ((with_reducible refine gate_callee (f := 9) rfl ?_); refine gL_ 30 Try.func9 #[] ?_; (with_reducible refine (jacquardlaw36_awake.calls kj3  t346 _ A18.out).mono ?_); rintro e w19 ⟨rfl, hb⟩; refine ⟨_, rfl, ?_⟩; have n0_ := Aside0.mk (blk_below (K_ BK343) hb); have n1_ := Aside0.mk (below_step bl_ hb); clear BK343; clear HB; have BK343 := n0_; have HB := n1_; clear n0_ n1_; (try clear hb); (try clear hb2); (try clear hk); (try clear hi)))
   go_ret
   exact ⟨by first | rfl | (simp [errW_none, errW_some] <;> rfl) | (simp [*, errW_none, errW_some] <;> rfl), by repeat (first | (with_reducible first | exact HB.out | apply below_alloc | apply pw_below_drewN | apply below_drew1 | refine below_set ?_ GE343.out) | exact HB.out)⟩
 replace c17 := Bool.eq_false_iff.mpr c17
 subst c17
 have H1 : ((jacquardref27_Func.f kj3 l0_0 l0_1 l0_2 l0_3 l0_4).bind fun bt347 => ((jacquardref36_Scheds.f kj3 bt347.1 bt347.2.1 bt347.2.2.1 bt347.2.2.2.1 bt347.2.2.2.2.1 bt347.2.2.2.2.2 l1).bind fun t364 => ((cycles_Split.f kj3 bt347.1 bt347.2.1 bt347.2.2.1 bt347.2.2.2.1 bt347.2.2.2.2.1 bt347.2.2.2.2.2 t364 l2).bind fun bt367 => ((cycles_Count.f kj3 bt347.1 bt347.2.1 bt347.2.2.1 bt347.2.2.2.1 bt347.2.2.2.2.1 bt347.2.2.2.2.2 t364 l2).bind fun bt371 => ((cycles_Issues.f kj3 bt347.1 bt347.2.1 bt347.2.2.1 bt347.2.2.2.1 bt347.2.2.2.2.1 bt347.2.2.2.2.2 t364 l2).bind fun bt373 => (if 1 ≤ (t364.length : Int) then ((cycles_Split.f kj3 bt347.1 bt347.2.1 bt347.2.2.1 bt347.2.2.2.1 bt347.2.2.2.2.1 bt347.2.2.2.2.2 (t364.drop 1) (([0] : List Int))).bind fun bt384 => (if bt384.2 = 3 then ((jacquardref36_Path.f kj3 bt347.1 bt347.2.1 bt347.2.2.1 bt347.2.2.2.1 bt347.2.2.2.2.1 bt347.2.2.2.2.2 t364 l2).bind fun t388 => (if t388 = true then (if 0 ≤ (wrap64 ((l2.length : Int) - 1)) then (if (wrap64 ((l2.length : Int) - 1)) < (l2.length : Int) then (if 0 ≤ (rd l2 (wrap64 ((l2.length : Int) - 1))) then (if (rd l2 (wrap64 ((l2.length : Int) - 1))) < (bt347.2.2.2.2.2.length : Int) then (if bt367.2 = 0 then (if bt373.2 = 0 then (some ((bt371.2 == 0) == (((rd_T66 bt347.2.2.2.2.2 (rd l2 (wrap64 ((l2.length : Int) - 1)))).f2.f0) == 3))) else (some false)) else (some false)) else (none)) else (none)) else (none)) else (none)) else (if bt367.2 = 3 then (if bt371.2 = 3 then (some (bt373.2 == 3)) else (some false)) else (some false)))) else (some false))) else (none))))))) = some r := by rw [if_neg (show ¬ (false = true) by decide)] at H; exact H
 clear H
 have H := H1
 clear H1
 replace H := Option.bind_eq_some_iff.mp H
 obtain ⟨⟨t347, t348, t351, t354, t357, t360⟩, A200, H⟩ := H
 replace H : ((jacquardref36_Scheds.f kj3 t347 t348 t351 t354 t357 t360 l1).bind fun t364 => ((cycles_Split.f kj3 t347 t348 t351 t354 t357 t360 t364 l2).bind fun bt367 => ((cycles_Count.f kj3 t347 t348 t351 t354 t357 t360 t364 l2).bind fun bt371 => ((cycles_Issues.f kj3 t347 t348 t351 t354 t357 t360 t364 l2).bind fun bt373 => (if 1 ≤ (t364.length : Int) then ((cycles_Split.f kj3 t347 t348 t351 t354 t357 t360 (t364.drop 1) (([0] : List Int))).bind fun bt384 => (if bt384.2 = 3 then ((jacquardref36_Path.f kj3 t347 t348 t351 t354 t357 t360 t364 l2).bind fun t388 => (if t388 = true then (if 0 ≤ (wrap64 ((l2.length : Int) - 1)) then (if (wrap64 ((l2.length : Int) - 1)) < (l2.length : Int) then (if 0 ≤ (rd l2 (wrap64 ((l2.length : Int) - 1))) then (if (rd l2 (wrap64 ((l2.length : Int) - 1))) < (t360.length : Int) then (if bt367.2 = 0 then (if bt373.2 = 0 then (some ((bt371.2 == 0) == (((rd_T66 t360 (rd l2 (wrap64 ((l2.length : Int) - 1)))).f2.f0) == 3))) else (some false)) else (some false)) else (none)) else (none)) else (none)) else (none)) else (if bt367.2 = 3 then (if bt371.2 = 3 then (some (bt373.2 == 3)) else (some false)) else (some false)))) else (some false))) else (none)))))) = some r := H
 have A20 := Aside0.mk A200
 clear A200
 replace H := Option.bind_eq_some_iff.mp H
 obtain ⟨t364, A210, H⟩ := H
 replace H : ((cycles_Split.f kj3 t347 t348 t351 t354 t357 t360 t364 l2).bind fun bt367 => ((cycles_Count.f kj3 t347 t348 t351 t354 t357 t360 t364 l2).bind fun bt371 => ((cycles_Issues.f kj3 t347 t348 t351 t354 t357 t360 t364 l2).bind fun bt373 => (if 1 ≤ (t364.length : Int) then ((cycles_Split.f kj3 t347 t348 t351 t354 t357 t360 (t364.drop 1) (([0] : List Int))).bind fun bt384 => (if bt384.2 = 3 then ((jacquardref36_Path.f kj3 t347 t348 t351 t354 t357 t360 t364 l2).bind fun t388 => (if t388 = true then (if 0 ≤ (wrap64 ((l2.length : Int) - 1)) then (if (wrap64 ((l2.length : Int) - 1)) < (l2.length : Int) then (if 0 ≤ (rd l2 (wrap64 ((l2.length : Int) - 1))) then (if (rd l2 (wrap64 ((l2.length : Int) - 1))) < (t360.length : Int) then (if bt367.2 = 0 then (if bt373.2 = 0 then (some ((bt371.2 == 0) == (((rd_T66 t360 (rd l2 (wrap64 ((l2.length : Int) - 1)))).f2.f0) == 3))) else (some false)) else (some false)) else (none)) else (none)) else (none)) else (none)) else (if bt367.2 = 3 then (if bt371.2 = 3 then (some (bt373.2 == 3)) else (some false)) else (some false)))) else (some false))) else (none))))) = some r := H
 have A21 := Aside0.mk A210
 clear A210
 replace H := Option.bind_eq_some_iff.mp H
 obtain ⟨⟨t367, t370⟩, A220, H⟩ := H
 replace H : ((cycles_Count.f kj3 t347 t348 t351 t354 t357 t360 t364 l2).bind fun bt371 => ((cycles_Issues.f kj3 t347 t348 t351 t354 t357 t360 t364 l2).bind fun bt373 => (if 1 ≤ (t364.length : Int) then ((cycles_Split.f kj3 t347 t348 t351 t354 t357 t360 (t364.drop 1) (([0] : List Int))).bind fun bt384 => (if bt384.2 = 3 then ((jacquardref36_Path.f kj3 t347 t348 t351 t354 t357 t360 t364 l2).bind fun t388 => (if t388 = true then (if 0 ≤ (wrap64 ((l2.length : Int) - 1)) then (if (wrap64 ((l2.length : Int) - 1)) < (l2.length : Int) then (if 0 ≤ (rd l2 (wrap64 ((l2.length : Int) - 1))) then (if (rd l2 (wrap64 ((l2.length : Int) - 1))) < (t360.length : Int) then (if t370 = 0 then (if bt373.2 = 0 then (some ((bt371.2 == 0) == (((rd_T66 t360 (rd l2 (wrap64 ((l2.length : Int) - 1)))).f2.f0) == 3))) else (some false)) else (some false)) else (none)) else (none)) else (none)) else (none)) else (if t370 = 3 then (if bt371.2 = 3 then (some (bt373.2 == 3)) else (some false)) else (some false)))) else (some false))) else (none)))) = some r := H
 have A22 := Aside0.mk A220
 clear A220
 replace H := Option.bind_eq_some_iff.mp H
 obtain ⟨⟨t371, t372⟩, A230, H⟩ := H
 replace H : ((cycles_Issues.f kj3 t347 t348 t351 t354 t357 t360 t364 l2).bind fun bt373 => (if 1 ≤ (t364.length : Int) then ((cycles_Split.f kj3 t347 t348 t351 t354 t357 t360 (t364.drop 1) (([0] : List Int))).bind fun bt384 => (if bt384.2 = 3 then ((jacquardref36_Path.f kj3 t347 t348 t351 t354 t357 t360 t364 l2).bind fun t388 => (if t388 = true then (if 0 ≤ (wrap64 ((l2.length : Int) - 1)) then (if (wrap64 ((l2.length : Int) - 1)) < (l2.length : Int) then (if 0 ≤ (rd l2 (wrap64 ((l2.length : Int) - 1))) then (if (rd l2 (wrap64 ((l2.length : Int) - 1))) < (t360.length : Int) then (if t370 = 0 then (if bt373.2 = 0 then (some ((t372 == 0) == (((rd_T66 t360 (rd l2 (wrap64 ((l2.length : Int) - 1)))).f2.f0) == 3))) else (some false)) else (some false)) else (none)) else (none)) else (none)) else (none)) else (if t370 = 3 then (if t372 = 3 then (some (bt373.2 == 3)) else (some false)) else (some false)))) else (some false))) else (none))) = some r := H
 have A23 := Aside0.mk A230
 clear A230
 replace H := Option.bind_eq_some_iff.mp H
 obtain ⟨⟨t373, t376⟩, A240, H⟩ := H
 replace H : (if 1 ≤ (t364.length : Int) then ((cycles_Split.f kj3 t347 t348 t351 t354 t357 t360 (t364.drop 1) (([0] : List Int))).bind fun bt384 => (if bt384.2 = 3 then ((jacquardref36_Path.f kj3 t347 t348 t351 t354 t357 t360 t364 l2).bind fun t388 => (if t388 = true then (if 0 ≤ (wrap64 ((l2.length : Int) - 1)) then (if (wrap64 ((l2.length : Int) - 1)) < (l2.length : Int) then (if 0 ≤ (rd l2 (wrap64 ((l2.length : Int) - 1))) then (if (rd l2 (wrap64 ((l2.length : Int) - 1))) < (t360.length : Int) then (if t370 = 0 then (if t376 = 0 then (some ((t372 == 0) == (((rd_T66 t360 (rd l2 (wrap64 ((l2.length : Int) - 1)))).f2.f0) == 3))) else (some false)) else (some false)) else (none)) else (none)) else (none)) else (none)) else (if t370 = 3 then (if t372 = 3 then (some (t376 == 3)) else (some false)) else (some false)))) else (some false))) else (none)) = some r := H
 have A24 := Aside0.mk A240
 clear A240
 by_cases c25 : 1 ≤ (t364.length : Int)
 · rw [if_pos c25] at H
   have c25b0 := eq_true c25
   have c25b1 : decide (1 ≤ (t364.length : Int)) = true := decide_eq_true c25
   clear c25
   obtain ⟨y377, hy377⟩ : ∃ y_ : List (S49), y_ = (t364.drop 1) := ⟨_, rfl⟩
   replace H : ((cycles_Split.f kj3 t347 t348 t351 t354 t357 t360 y377 (([0] : List Int))).bind fun bt384 => (if bt384.2 = 3 then ((jacquardref36_Path.f kj3 t347 t348 t351 t354 t357 t360 t364 l2).bind fun t388 => (if t388 = true then (if 0 ≤ (wrap64 ((l2.length : Int) - 1)) then (if (wrap64 ((l2.length : Int) - 1)) < (l2.length : Int) then (if 0 ≤ (rd l2 (wrap64 ((l2.length : Int) - 1))) then (if (rd l2 (wrap64 ((l2.length : Int) - 1))) < (t360.length : Int) then (if t370 = 0 then (if t376 = 0 then (some ((t372 == 0) == (((rd_T66 t360 (rd l2 (wrap64 ((l2.length : Int) - 1)))).f2.f0) == 3))) else (some false)) else (some false)) else (none)) else (none)) else (none)) else (none)) else (if t370 = 3 then (if t372 = 3 then (some (t376 == 3)) else (some false)) else (some false)))) else (some false))) = some r := by first | (rw [hy377]; with_reducible exact H) | (have H2_ := (Option.bind_some _ _).symm.trans H; rw [hy377]; with_reducible exact H2_) | (have H2_ := (Option.bind_some _ _).symm.trans H; with_reducible exact H2_) | with_reducible exact H | (rw [hy377]; exact H) | exact H
   have Ny377 := Aside0.mk hy377
   clear hy377
   obtain ⟨y381, hy381⟩ : ∃ y_ : List Int, y_ = (([0] : List Int)) := ⟨_, rfl⟩
   replace H : ((cycles_Split.f kj3 t347 t348 t351 t354 t357 t360 y377 y381).bind fun bt384 => (if bt384.2 = 3 then ((jacquardref36_Path.f kj3 t347 t348 t351 t354 t357 t360 t364 l2).bind fun t388 => (if t388 = true then (if 0 ≤ (wrap64 ((l2.length : Int) - 1)) then (if (wrap64 ((l2.length : Int) - 1)) < (l2.length : Int) then (if 0 ≤ (rd l2 (wrap64 ((l2.length : Int) - 1))) then (if (rd l2 (wrap64 ((l2.length : Int) - 1))) < (t360.length : Int) then (if t370 = 0 then (if t376 = 0 then (some ((t372 == 0) == (((rd_T66 t360 (rd l2 (wrap64 ((l2.length : Int) - 1)))).f2.f0) == 3))) else (some false)) else (some false)) else (none)) else (none)) else (none)) else (none)) else (if t370 = 3 then (if t372 = 3 then (some (t376 == 3)) else (some false)) else (some false)))) else (some false))) = some r := by first | (rw [hy381]; with_reducible exact H) | (have H2_ := (Option.bind_some _ _).symm.trans H; rw [hy381]; with_reducible exact H2_) | (have H2_ := (Option.bind_some _ _).symm.trans H; with_reducible exact H2_) | with_reducible exact H | (rw [hy381]; exact H) | exact H
   have Ny381 := Aside0.mk hy381
   clear hy381
   replace H := Option.bind_eq_some_iff.mp H
   obtain ⟨⟨t384, t387⟩, A260, H⟩ := H
   replace H : (if t387 = 3 then ((jacquardref36_Path.f kj3 t347 t348 t351 t354 t357 t360 t364 l2).bind fun t388 => (if t388 = true then (if 0 ≤ (wrap64 ((l2.length : Int) - 1)) then (if (wrap64 ((l2.length : Int) - 1)) < (l2.length : Int) then (if 0 ≤ (rd l2 (wrap64 ((l2.length : Int) - 1))) then (if (rd l2 (wrap64 ((l2.length : Int) - 1))) < (t360.length : Int) then (if t370 = 0 then (if t376 = 0 then (some ((t372 == 0) == (((rd_T66 t360 (rd l2 (wrap64 ((l2.length : Int) - 1)))).f2.f0) == 3))) else (some false)) else (some false)) else (none)) else (none)) else (none)) else (none)) else (if t370 = 3 then (if t372 = 3 then (some (t376 == 3)) else (some false)) else (some false)))) else (some false)) = some r := H
   have A26 := Aside0.mk A260
   clear A260
   by_cases c27 : t387 = 3
   · rw [if_pos c27] at H
     have c27b0 : (t387 == 3) = true := beq_iff_eq.mpr c27
     have c27b1 : (t387 != 3) = false := bne_eq_false_iff_eq.mpr c27
     clear c27
     replace H := Option.bind_eq_some_iff.mp H
     obtain ⟨t388, A280, H⟩ := H
     replace H : (if t388 = true then (if 0 ≤ (wrap64 ((l2.length : Int) - 1)) then (if (wrap64 ((l2.length : Int) - 1)) < (l2.length : Int) then (if 0 ≤ (rd l2 (wrap64 ((l2.length : Int) - 1))) then (if (rd l2 (wrap64 ((l2.length : Int) - 1))) < (t360.length : Int) then (if t370 = 0 then (if t376 = 0 then (some ((t372 == 0) == (((rd_T66 t360 (rd l2 (wrap64 ((l2.length : Int) - 1)))).f2.f0) == 3))) else (some false)) else (some false)) else (none)) else (none)) else (none)) else (none)) else (if t370 = 3 then (if t372 = 3 then (some (t376 == 3)) else (some false)) else (some false))) = some r := H
     have A28 := Aside0.mk A280
     clear A280
     by_cases c29 : t388 = true
     · subst c29
       have H1 : (if 0 ≤ (wrap64 ((l2.length : Int) - 1)) then (if (wrap64 ((l2.length : Int) - 1)) < (l2.length : Int) then (if 0 ≤ (rd l2 (wrap64 ((l2.length : Int) - 1))) then (if (rd l2 (wrap64 ((l2.length : Int) - 1))) < (t360.length : Int) then (if t370 = 0 then (if t376 = 0 then (some ((t372 == 0) == (((rd_T66 t360 (rd l2 (wrap64 ((l2.length : Int) - 1)))).f2.f0) == 3))) else (some false)) else (some false)) else (none)) else (none)) else (none)) else (none)) = some r := by rw [if_pos rfl] at H; exact H
       clear H
       have H := H1
       clear H1
       obtain ⟨ji30, hji30⟩ : ∃ j_ : Int, (wrap64 ((l2.length : Int) - 1)) = j_ := ⟨_, rfl⟩
       replace H : (if 0 ≤ (ji30) then (if (ji30) < (l2.length : Int) then (if 0 ≤ (rd l2 (ji30)) then (if (rd l2 (ji30)) < (t360.length : Int) then (if t370 = 0 then (if t376 = 0 then (some ((t372 == 0) == (((rd_T66 t360 (rd l2 (ji30))).f2.f0) == 3))) else (some false)) else (some false)) else (none)) else (none)) else (none)) else (none)) = some r := by first | (rw [hji30] at H; exact H) | (simp only [hji30] at H ⊢; exact H)
       (try rw [hji30] at A20)
       (try rw [hji30] at A21)
       (try rw [hji30] at A22)
       (try rw [hji30] at A23)
       (try rw [hji30] at A24)
       (try rw [hji30] at A26)
       (try rw [hji30] at A28)
       have hji30w : (IntKind.i64.wrap ((l2.length : Int) - 1)) = ji30 := (i64_w _).trans hji30
       by_cases c31 : 0 ≤ (ji30)
       · rw [if_pos c31] at H
         have c31b0 : decide (0 ≤ (ji30)) = true := decide_eq_true c31
         clear c31
         by_cases c32 : (ji30) < (l2.length : Int)
         · rw [if_pos c32] at H
           have c32b0 : decide ((ji30) < (l2.length : Int)) = true := decide_eq_true c32
           clear c32
           by_cases c33 : 0 ≤ (rd l2 (ji30))
           · rw [if_pos c33] at H
             have c33b0 : decide (0 ≤ (rd l2 (ji30))) = true := decide_eq_true c33
             clear c33
             by_cases c34 : (rd l2 (ji30)) < (t360.length : Int)
             · rw [if_pos c34] at H
               have c34b0 : decide ((rd l2 (ji30)) < (t360.length : Int)) = true := decide_eq_true c34
               clear c34
               by_cases c35 : t370 = 0
               · rw [if_pos c35] at H
                 have c35b0 : (t370 == 0) = true := beq_iff_eq.mpr c35
                 have c35b1 : (t370 != 0) = false := bne_eq_false_iff_eq.mpr c35
                 clear c35
                 by_cases c36 : t376 = 0
                 · rw [if_pos c36] at H
                   have c36b0 : (t376 == 0) = true := beq_iff_eq.mpr c36
                   have c36b1 : (t376 != 0) = false := bne_eq_false_iff_eq.mpr c36
                   clear c36
                   obtain rfl := Option.some.inj H
                   obtain ⟨hcz37_0, hcz37_1, hcz37_2, hcz37_3, hcz37_4⟩ := cells5 BK343
                   obtain ⟨hfz37_0, hfz37_1, hfz37_2, hfz37_3, hfz37_4⟩ := fz5 BK343
                   try go_wp2_with (first | ((with_reducible refine gate_callee (f := 13) rfl ?_); refine gL_ 32 Try.func13 #[.agg #[.slice A0_0 l0_0.length c0_0, .slice A0_1 l0_1.length c0_1, .slice A0_2 l0_2.length c0_2, .slice A0_3 l0_3.length c0_3, .slice A0_4 l0_4.length c0_4]] ?_; (with_reducible refine (jacquardref27_Func.calls kj3 _ _ l0_0 _ _ l0_1 _ _ l0_2 _ _ l0_3 _ _ l0_4 t347 t348 t351 t354 t357 t360 _ ?side1 ?side2 ?side3 ?side4 ?side5 ?side6 ?side7 ?side8 ?side9 ?side10 A20.out).mono ?_); (case side1 => exact CB_ HR0_0); (case side2 => exact HC0_0.out); (case side3 => exact CB_ HR0_1); (case side4 => exact HC0_1.out); (case side5 => exact CB_ HR0_2); (case side6 => exact HC0_2.out); (case side7 => exact CB_ HR0_3); (case side8 => exact HC0_3.out); (case side9 => exact CB_ HR0_4); (case side10 => exact HC0_4.out); rintro e w38 ⟨v349, v352, v355, v358, v361, rfl, ho0, ho1, ho2, ho3, ho4, hb⟩; refine ⟨_, rfl, ?_⟩; have n0_ := Aside0.mk (Kd.R_lower ho0 (below_size bl_)); have n1_ := Aside0.mk (Kd.R_lower ho1 (below_size bl_)); have n2_ := Aside0.mk (Kd.R_lower ho2 (below_size bl_)); have n3_ := Aside0.mk (Kd.R_lower ho3 (below_size bl_)); have n4_ := Aside0.mk (Kd.R_lower ho4 (below_size bl_)); have n5_ := Aside0.mk (blk_below (K_ BK343) hb); have n6_ := Aside0.mk (below_step bl_ hb); clear BK343; clear HB; have HO350 := n0_; have HO353 := n1_; have HO356 := n2_; have HO359 := n3_; have HO362 := n4_; have BK343 := n5_; have HB := n6_; clear n0_ n1_ n2_ n3_ n4_ n5_ n6_; (try clear hb); (try clear hb2); (try clear hk); (try clear hi); (try clear ho0); (try clear ho1); (try clear ho2); (try clear ho3); (try clear ho4)) | ((with_reducible refine gate_dst (N := 7) rfl ?_); (try (refine gate_guard (by rfl) ?_; dsimp only)); refine box_event ?hg (N := 7) ?hd (cs := #[.string (⟨#[]⟩ : ByteArray), .slice none 0 0, .slice none 0 0, .slice none 0 0, .slice none 0 0, .slice none 0 0]) (t := 27) ?hr ?_; (case hd => rfl); (case hg => rfl); (case hr => first | (go_simp; done) | (go_simp; rfl)); intro gb363 hg w39 hbox hb; have n0_ := Aside0.mk (Kd.R_below (R_ HO350) hb); have n1_ := Aside0.mk (Kd.R_below (R_ HO353) hb); have n2_ := Aside0.mk (Kd.R_below (R_ HO356) hb); have n3_ := Aside0.mk (Kd.R_below (R_ HO359) hb); have n4_ := Aside0.mk (Kd.R_below (R_ HO362) hb); have n5_ := Aside0.mk (blk_below (K_ BK343) hb); have n6_ := Aside0.mk (below_step bl_ hb); have n7_ := Aside0.mk (hbox); have n8_ := Aside0.mk (gl_ (w := w) hg); have n9_ := Aside0.mk (gl_ (w := w) hg); have n10_ := Aside0.mk (nl_ hg (K_ BK343)); have n11_ := Aside0.mk (ng_ hg (K_ BK343)); clear HO350; clear HO353; clear HO356; clear HO359; clear HO362; clear BK343; clear HB; have HO350 := n0_; have HO353 := n1_; have HO356 := n2_; have HO359 := n3_; have HO362 := n4_; have BK343 := n5_; have HB := n6_; have BK363 := n7_; have GW363 := n8_; have GE363 := n9_; have NB343_363 := n10_; have NB363_343 := n11_; clear n0_ n1_ n2_ n3_ n4_ n5_ n6_ n7_ n8_ n9_ n10_ n11_; clear hb hbox hg; have hnb40 := NB363_343.out; have hnc40 := NB343_363.out; obtain ⟨hcz41_0, hcz41_1, hcz41_2, hcz41_3, hcz41_4, hcz41_5⟩ := cells6 BK363; obtain ⟨hfz41_0, hfz41_1, hfz41_2, hfz41_3, hfz41_4, hfz41_5⟩ := fz6 BK363; obtain ⟨Ao42, co42, eo42⟩ := Kd.R_slice HO350.out; subst eo42; obtain ⟨Ao43, co43, eo43⟩ := Kd.R_slice HO353.out; subst eo43; obtain ⟨Ao44, co44, eo44⟩ := Kd.R_slice HO356.out; subst eo44; obtain ⟨Ao45, co45, eo45⟩ := Kd.R_slice HO359.out; subst eo45; obtain ⟨Ao46, co46, eo46⟩ := Kd.R_slice HO362.out; subst eo46) | ((with_reducible refine gate_callee (f := 14) rfl ?_); refine gL_ 35 Try.func14 #[.agg #[.string t347, .slice Ao42 t348.length co42, .slice Ao43 t351.length co43, .slice Ao44 t354.length co44, .slice Ao45 t357.length co45, .slice Ao46 t360.length co46], .slice A1 l1.length c1] ?_; (with_reducible refine (jacquardref36_Scheds.calls kj3 t347 _ _ t348 _ _ t351 _ _ t354 _ _ t357 _ _ t360 _ _ l1 t364 _ ?side1 ?side2 ?side3 ?side4 ?side5 ?side6 ?side7 ?side8 ?side9 ?side10 ?side11 ?side12 A21.out).mono ?_); (case side1 => refine (Kd.R_reads' (e := 3) (base := w.heap.size) (ok := fun k_ => some k_ ≠ (.slice Ao45 t357.length co45 : Value).ownBlock) (n := t348.length) (c := co42) ?_).2.2; exact (FR_ HO350 BK363)); (case side2 => exact (Kd.R_reads' HO350.out).2.1); (case side3 => refine (Kd.R_reads' (e := 75) (base := w.heap.size) (ok := fun k_ => True) (n := t351.length) (c := co43) ?_).2.2; exact (FR_ HO353 BK363)); (case side4 => exact (Kd.R_reads' HO353.out).2.1); (case side5 => refine (Kd.R_reads' (e := 77) (base := w.heap.size) (ok := fun k_ => True) (n := t354.length) (c := co44) ?_).2.2; exact (FR_ HO356 BK363)); (case side6 => exact (Kd.R_reads' HO356.out).2.1); (case side7 => refine (Kd.R_reads' (e := 3) (base := w.heap.size) (ok := fun k_ => some k_ ≠ (.slice Ao42 t348.length co42 : Value).ownBlock) (n := t357.length) (c := co45) ?_).2.2; exact (FR_ HO359 BK363)); (case side8 => exact (Kd.R_reads' HO359.out).2.1); (case side9 => refine (Kd.R_reads' (e := 66) (base := w.heap.size) (ok := fun k_ => (some k_ ≠ (.slice Ao42 t348.length co42 : Value).ownBlock ∧ some k_ ≠ (.slice Ao45 t357.length co45 : Value).ownBlock)) (n := t360.length) (c := co46) ?_).2.2; exact (FR_ HO362 BK363)); (case side10 => exact (Kd.R_reads' HO362.out).2.1); (case side11 => exact Kd.C_below HR1.out bl_); (case side12 => exact HC1.out); rintro e w47 ⟨v365, rfl, ho0, hb⟩; refine ⟨_, rfl, ?_⟩; have n0_ := Aside0.mk (Kd.R_below (FR_ HO350 BK363) hb); have n1_ := Aside0.mk (Kd.R_below (FR_ HO353 BK363) hb); have n2_ := Aside0.mk (Kd.R_below (FR_ HO356 BK363) hb); have n3_ := Aside0.mk (Kd.R_below (FR_ HO359 BK363) hb); have n4_ := Aside0.mk (Kd.R_below (FR_ HO362 BK363) hb); have n5_ := Aside0.mk (Kd.S_lower (Kd.S_new' (Kd.S_new' ho0 (Kd.R_lt (FR_ HO350 BK363))) (Kd.R_lt (FR_ HO359 BK363))) (below_size bl_)); have n6_ := Aside0.mk (blk_below (g := gb343) (o := .cells #[.slice A0_0 l0_0.length c0_0, .slice A0_1 l0_1.length c0_1, .slice A0_2 l0_2.length c0_2, .slice A0_3 l0_3.length c0_3, .slice A0_4 l0_4.length c0_4] 36 (0, 0)) (by (with_reducible repeat (first | refine blk_drewN ?_ _ | refine blk_drew ?_ | refine blk_alloc ?_ _)); refine blk_far ?_ NB343_363.out _; (with_reducible repeat (first | refine blk_drewN ?_ _ | refine blk_drew ?_ | refine blk_alloc ?_ _)); refine blk_far ?_ NB343_363.out _; (with_reducible repeat (first | refine blk_drewN ?_ _ | refine blk_drew ?_ | refine blk_alloc ?_ _)); refine blk_far ?_ NB343_363.out _; (with_reducible repeat (first | refine blk_drewN ?_ _ | refine blk_drew ?_ | refine blk_alloc ?_ _)); refine blk_far ?_ NB343_363.out _; (with_reducible repeat (first | refine blk_drewN ?_ _ | refine blk_drew ?_ | refine blk_alloc ?_ _)); refine blk_far ?_ NB343_363.out _; (with_reducible repeat (first | refine blk_drewN ?_ _ | refine blk_drew ?_ | refine blk_alloc ?_ _)); refine blk_far ?_ NB343_363.out _; (with_reducible repeat (first | refine blk_drewN ?_ _ | refine blk_drew ?_ | refine blk_alloc ?_ _)); exact BK343.out) hb); have n7_ := Aside0.mk (blk_below (g := gb363) (o := .cells #[.string t347, .slice Ao42 t348.length co42, .slice Ao43 t351.length co43, .slice Ao44 t354.length co44, .slice Ao45 t357.length co45, .slice Ao46 t360.length co46] 27 (0, 0)) (by (with_reducible repeat (first | refine blk_drewN ?_ _ | refine blk_drew ?_ | refine blk_alloc ?_ _)); refine blk_put (cs := #[.string t347, .slice Ao42 t348.length co42, .slice Ao43 t351.length co43, .slice Ao44 t354.length co44, .slice Ao45 t357.length co45, .slice none 0 0]) ?_ 5 _ rfl; (with_reducible repeat (first | refine blk_drewN ?_ _ | refine blk_drew ?_ | refine blk_alloc ?_ _)); refine blk_put (cs := #[.string t347, .slice Ao42 t348.length co42, .slice Ao43 t351.length co43, .slice Ao44 t354.length co44, .slice none 0 0, .slice none 0 0]) ?_ 4 _ rfl; (with_reducible repeat (first | refine blk_drewN ?_ _ | refine blk_drew ?_ | refine blk_alloc ?_ _)); refine blk_put (cs := #[.string t347, .slice Ao42 t348.length co42, .slice Ao43 t351.length co43, .slice none 0 0, .slice none 0 0, .slice none 0 0]) ?_ 3 _ rfl; (with_reducible repeat (first | refine blk_drewN ?_ _ | refine blk_drew ?_ | refine blk_alloc ?_ _)); refine blk_put (cs := #[.string t347, .slice Ao42 t348.length co42, .slice none 0 0, .slice none 0 0, .slice none 0 0, .slice none 0 0]) ?_ 2 _ rfl; (with_reducible repeat (first | refine blk_drewN ?_ _ | refine blk_drew ?_ | refine blk_alloc ?_ _)); refine blk_put (cs := #[.string t347, .slice none 0 0, .slice none 0 0, .slice none 0 0, .slice none 0 0, .slice none 0 0]) ?_ 1 _ rfl; (with_reducible repeat (first | refine blk_drewN ?_ _ | refine blk_drew ?_ | refine blk_alloc ?_ _)); refine blk_put (cs := #[.string (⟨#[]⟩ : ByteArray), .slice none 0 0, .slice none 0 0, .slice none 0 0, .slice none 0 0, .slice none 0 0]) ?_ 0 _ rfl; (with_reducible repeat (first | refine blk_drewN ?_ _ | refine blk_drew ?_ | refine blk_alloc ?_ _)); exact BK363.out) hb); have n8_ := Aside0.mk (below_step bl_ hb); clear HO350; clear HO353; clear HO356; clear HO359; clear HO362; clear BK343; clear BK363; clear HB; have HO350 := n0_; have HO353 := n1_; have HO356 := n2_; have HO359 := n3_; have HO362 := n4_; have HO366 := n5_; have BK343 := n6_; have BK363 := n7_; have HB := n8_; clear n0_ n1_ n2_ n3_ n4_ n5_ n6_ n7_ n8_; (try clear hb); (try clear hb2); (try clear hk); (try clear hi); (try clear ho0); obtain ⟨hcz48_0, hcz48_1, hcz48_2, hcz48_3, hcz48_4, hcz48_5⟩ := cells6 BK363; obtain ⟨hfz48_0, hfz48_1, hfz48_2, hfz48_3, hfz48_4, hfz48_5⟩ := fz6 BK363; obtain ⟨Ao49, co49, eo49⟩ := Kd.S_slice HO366.out; subst eo49) | ((with_reducible refine gate_callee (f := 16) rfl ?_); refine gL_ 40 Try.func16 #[.agg #[.string t347, .slice Ao42 t348.length co42, .slice Ao43 t351.length co43, .slice Ao44 t354.length co44, .slice Ao45 t357.length co45, .slice Ao46 t360.length co46], .slice Ao49 t364.length co49, .slice A2 l2.length c2] ?_; (with_reducible refine (cycles_Split.calls kj3 t347 _ _ t348 _ _ t351 _ _ t354 _ _ t357 _ _ t360 _ _ t364 _ _ l2 t367 t370 _ ?side1 ?side2 ?side3 ?side4 ?side5 ?side6 ?side7 ?side8 ?side9 ?side10 ?side11 ?side12 ?side13 ?side14 A22.out).mono ?_); (case side1 => exact CR_ HO350); (case side2 => exact (Kd.R_reads' HO350.out).2.1); (case side3 => exact CR_ HO353); (case side4 => exact (Kd.R_reads' HO353.out).2.1); (case side5 => exact CR_ HO356); (case side6 => exact (Kd.R_reads' HO356.out).2.1); (case side7 => exact CR_ HO359); (case side8 => exact (Kd.R_reads' HO359.out).2.1); (case side9 => exact CR_ HO362); (case side10 => exact (Kd.R_reads' HO362.out).2.1); (case side11 => exact CS_ HO366); (case side12 => exact (Kd.S_reads' HO366.out).2.1); (case side13 => exact CB_ HR2); (case side14 => exact HC2.out); rintro e w50 ⟨v368, rfl, ho0, hb⟩; refine ⟨_, rfl, ?_⟩; have n0_ := Aside0.mk (Kd.R_below (R_ HO350) hb); have n1_ := Aside0.mk (Kd.R_below (R_ HO353) hb); have n2_ := Aside0.mk (Kd.R_below (R_ HO356) hb); have n3_ := Aside0.mk (Kd.R_below (R_ HO359) hb); have n4_ := Aside0.mk (Kd.R_below (R_ HO362) hb); have n5_ := Aside0.mk (Kd.S_below (S_ HO366) hb); have n6_ := Aside0.mk (Kd.R_lower ho0 (below_size bl_)); have n7_ := Aside0.mk (blk_below (K_ BK343) hb); have n8_ := Aside0.mk (blk_below (K_ BK363) hb); have n9_ := Aside0.mk (below_step bl_ hb); clear HO350; clear HO353; clear HO356; clear HO359; clear HO362; clear HO366; clear BK343; clear BK363; clear HB; have HO350 := n0_; have HO353 := n1_; have HO356 := n2_; have HO359 := n3_; have HO362 := n4_; have HO366 := n5_; have HO369 := n6_; have BK343 := n7_; have BK363 := n8_; have HB := n9_; clear n0_ n1_ n2_ n3_ n4_ n5_ n6_ n7_ n8_ n9_; (try clear hb); (try clear hb2); (try clear hk); (try clear hi); (try clear ho0); obtain ⟨hcz51_0, hcz51_1, hcz51_2, hcz51_3, hcz51_4, hcz51_5⟩ := cells6 BK363; obtain ⟨hfz51_0, hfz51_1, hfz51_2, hfz51_3, hfz51_4, hfz51_5⟩ := fz6 BK363) | ((with_reducible refine gate_callee (f := 21) rfl ?_); refine gL_ 47 Try.func21 #[.agg #[.string t347, .slice Ao42 t348.length co42, .slice Ao43 t351.length co43, .slice Ao44 t354.length co44, .slice Ao45 t357.length co45, .slice Ao46 t360.length co46], .slice Ao49 t364.length co49, .slice A2 l2.length c2] ?_; (with_reducible refine (cycles_Count.calls kj3 t347 _ _ t348 _ _ t351 _ _ t354 _ _ t357 _ _ t360 _ _ t364 _ _ l2 t371 t372 _ ?side1 ?side2 ?side3 ?side4 ?side5 ?side6 ?side7 ?side8 ?side9 ?side10 ?side11 ?side12 ?side13 ?side14 A23.out).mono ?_); (case side1 => exact CR_ HO350); (case side2 => exact (Kd.R_reads' HO350.out).2.1); (case side3 => exact CR_ HO353); (case side4 => exact (Kd.R_reads' HO353.out).2.1); (case side5 => exact CR_ HO356); (case side6 => exact (Kd.R_reads' HO356.out).2.1); (case side7 => exact CR_ HO359); (case side8 => exact (Kd.R_reads' HO359.out).2.1); (case side9 => exact CR_ HO362); (case side10 => exact (Kd.R_reads' HO362.out).2.1); (case side11 => exact CS_ HO366); (case side12 => exact (Kd.S_reads' HO366.out).2.1); (case side13 => exact CB_ HR2); (case side14 => exact HC2.out); rintro e w52 ⟨rfl, hb⟩; refine ⟨_, rfl, ?_⟩; have n0_ := Aside0.mk (Kd.R_below (R_ HO350) hb); have n1_ := Aside0.mk (Kd.R_below (R_ HO353) hb); have n2_ := Aside0.mk (Kd.R_below (R_ HO356) hb); have n3_ := Aside0.mk (Kd.R_below (R_ HO359) hb); have n4_ := Aside0.mk (Kd.R_below (R_ HO362) hb); have n5_ := Aside0.mk (Kd.S_below (S_ HO366) hb); have n6_ := Aside0.mk (Kd.R_below (R_ HO369) hb); have n7_ := Aside0.mk (blk_below (K_ BK343) hb); have n8_ := Aside0.mk (blk_below (K_ BK363) hb); have n9_ := Aside0.mk (below_step bl_ hb); clear HO350; clear HO353; clear HO356; clear HO359; clear HO362; clear HO366; clear HO369; clear BK343; clear BK363; clear HB; have HO350 := n0_; have HO353 := n1_; have HO356 := n2_; have HO359 := n3_; have HO362 := n4_; have HO366 := n5_; have HO369 := n6_; have BK343 := n7_; have BK363 := n8_; have HB := n9_; clear n0_ n1_ n2_ n3_ n4_ n5_ n6_ n7_ n8_ n9_; (try clear hb); (try clear hb2); (try clear hk); (try clear hi); obtain ⟨hcz53_0, hcz53_1, hcz53_2, hcz53_3, hcz53_4, hcz53_5⟩ := cells6 BK363; obtain ⟨hfz53_0, hfz53_1, hfz53_2, hfz53_3, hfz53_4, hfz53_5⟩ := fz6 BK363) | ((with_reducible refine gate_callee (f := 22) rfl ?_); refine gL_ 54 Try.func22 #[.agg #[.string t347, .slice Ao42 t348.length co42, .slice Ao43 t351.length co43, .slice Ao44 t354.length co44, .slice Ao45 t357.length co45, .slice Ao46 t360.length co46], .slice Ao49 t364.length co49, .slice A2 l2.length c2] ?_; (with_reducible refine (cycles_Issues.calls kj3 t347 _ _ t348 _ _ t351 _ _ t354 _ _ t357 _ _ t360 _ _ t364 _ _ l2 t373 t376 _ ?side1 ?side2 ?side3 ?side4 ?side5 ?side6 ?side7 ?side8 ?side9 ?side10 ?side11 ?side12 ?side13 ?side14 A24.out).mono ?_); (case side1 => exact CR_ HO350); (case side2 => exact (Kd.R_reads' HO350.out).2.1); (case side3 => exact CR_ HO353); (case side4 => exact (Kd.R_reads' HO353.out).2.1); (case side5 => exact CR_ HO356); (case side6 => exact (Kd.R_reads' HO356.out).2.1); (case side7 => exact CR_ HO359); (case side8 => exact (Kd.R_reads' HO359.out).2.1); (case side9 => exact CR_ HO362); (case side10 => exact (Kd.R_reads' HO362.out).2.1); (case side11 => exact CS_ HO366); (case side12 => exact (Kd.S_reads' HO366.out).2.1); (case side13 => exact CB_ HR2); (case side14 => exact HC2.out); rintro e w54 ⟨v374, rfl, ho0, hb⟩; refine ⟨_, rfl, ?_⟩; have n0_ := Aside0.mk (Kd.R_elder' (R_ HO350) (Kd.R_base ho0) hb); have n1_ := Aside0.mk (Kd.R_below (R_ HO353) hb); have n2_ := Aside0.mk (Kd.R_below (R_ HO356) hb); have n3_ := Aside0.mk (Kd.R_elder' (R_ HO359) (Kd.R_base ho0) hb); have n4_ := Aside0.mk (Kd.R_elder' (R_ HO362) (Kd.R_base ho0) hb); have n5_ := Aside0.mk (Kd.S_elder' (S_ HO366) (Kd.R_base ho0) hb); have n6_ := Aside0.mk (Kd.R_below (R_ HO369) hb); have n7_ := Aside0.mk (Kd.R_lower (Kd.R_new' (Kd.R_new' ho0 (Kd.R_lt (R_ HO350))) (Kd.R_lt (R_ HO359))) (below_size bl_)); have n8_ := Aside0.mk (blk_below (K_ BK343) hb); have n9_ := Aside0.mk (blk_below (K_ BK363) hb); have n10_ := Aside0.mk (below_step bl_ hb); clear HO350; clear HO353; clear HO356; clear HO359; clear HO362; clear HO366; clear HO369; clear BK343; clear BK363; clear HB; have HO350 := n0_; have HO353 := n1_; have HO356 := n2_; have HO359 := n3_; have HO362 := n4_; have HO366 := n5_; have HO369 := n6_; have HO375 := n7_; have BK343 := n8_; have BK363 := n9_; have HB := n10_; clear n0_ n1_ n2_ n3_ n4_ n5_ n6_ n7_ n8_ n9_ n10_; (try clear hb); (try clear hb2); (try clear hk); (try clear hi); (try clear ho0)))
                   have n0_ := Aside0.mk (Kd.R_drew HO350.out)
                   have n1_ := Aside0.mk (Kd.R_drew HO353.out)
                   have n2_ := Aside0.mk (Kd.R_drew HO356.out)
                   have n3_ := Aside0.mk (Kd.R_drew HO359.out)
                   have n4_ := Aside0.mk (Kd.R_drew HO362.out)
                   have n5_ := Aside0.mk (Kd.S_drew HO366.out)
                   have n6_ := Aside0.mk (Kd.R_drew HO369.out)
                   have n7_ := Aside0.mk (Kd.R_drew HO375.out)
                   have n8_ := Aside0.mk (blk_drew BK343.out)
                   have n9_ := Aside0.mk (blk_drew BK363.out)
                   have n10_ := Aside0.mk (below_drew1 HB.out)
                   clear HO350
                   clear HO353
                   clear HO356
                   clear HO359
                   clear HO362
                   clear HO366
                   clear HO369
                   clear HO375
                   clear BK343
                   clear BK363
                   clear HB
                   have HO350 := n0_
                   have HO353 := n1_
                   have HO356 := n2_
                   have HO359 := n3_
                   have HO362 := n4_
                   have HO366 := n5_
                   have HO369 := n6_
                   have HO375 := n7_
                   have BK343 := n8_
                   have BK363 := n9_
                   have HB := n10_
                   clear n0_ n1_ n2_ n3_ n4_ n5_ n6_ n7_ n8_ n9_ n10_
                   have q56 : (1 : Int) ≤ ((t364.length : Int) : Int) := of_decide_eq_true (by first | (with_reducible assumption) | assumption)
                   obtain ⟨i056, hi056, _, hsz56, _⟩ := info_parts info49
                   have hroom56 : t364.length ≤ co49 := (Kd.S_reads' HO366.out).2.1
                   have hC56 : Kd.C k49 _ Ao49 t364.length t364 := (Kd.S_reads' HO366.out).2.2
                   have hcut56 := cut_from (P := Try.prog) 28 49 .i64 Try.underlying28 hi056 5 hsz56 Ao49 t364.length co49 1 (by omega) q56
                   have hr56 := Kd.C_drop (m := (1 : Int).toNat) (c := co49) hC56 (by omega) hroom56
                   obtain ⟨A56, hA56⟩ : ∃ A1, A1 = (if co49 = (1 : Int).toNat then Ao49 else (Ao49 : Option Addr).map (·.add ((1 : Int).toNat * 5))) := ⟨_, rfl⟩
                   obtain ⟨c56, hc56⟩ : ∃ c1, c1 = co49 - (1 : Int).toNat := ⟨_, rfl⟩
                   have hy56 : y377.length = t364.length - (1 : Int).toNat := (by rw [Ny377.out, List.length_drop] <;> omega)
                   rw [show (t364).drop (1 : Int).toNat = y377 from Ny377.out.symm] at hr56
                   replace hr56 : Kd.C k49 _ A56 y377.length y377 := (by rw [hA56]; exact hr56)
                   rw [← hy56, ← hA56, ← hc56] at hcut56
                   have HR380 := Aside0.mk hr56
                   have HC380 := Aside0.mk (show y377.length ≤ c56 from by rw [hy56, hc56]; exact Nat.sub_le_sub_right hroom56 _)
                   clear hr56 hC56 hroom56 hi056 hsz56 hc56
                   have KY56 := Aside0.mk hy56
                   have KA56 := Aside0.mk hA56
                   clear hy56 hA56
                   have KL56 := Aside0.mk (show 1 ≤ t364.length from by omega)
                   replace q56 := eq_true q56
                   refine start_ (n := 10) (S := fun w' => w'.cell? ⟨gb363, 0, none⟩ = some (.string t347) ∧ w'.cell? ⟨gb363, 1, none⟩ = some (.slice Ao42 t348.length co42) ∧ w'.cell? ⟨gb363, 2, none⟩ = some (.slice Ao43 t351.length co43) ∧ w'.cell? ⟨gb363, 3, none⟩ = some (.slice Ao44 t354.length co44) ∧ w'.cell? ⟨gb363, 4, none⟩ = some (.slice Ao45 t357.length co45) ∧ w'.cell? ⟨gb363, 5, none⟩ = some (.slice Ao46 t360.length co46)) (ds := []) (bz 10 0) (by kernel_rfl) rfl rfl ⟨(blk_cell BK363.out 0).trans rfl, (blk_cell BK363.out 1).trans rfl, (blk_cell BK363.out 2).trans rfl, (blk_cell BK363.out 3).trans rfl, (blk_cell BK363.out 4).trans rfl, (blk_cell BK363.out 5).trans rfl⟩ (fun hHeld => ?_); refine with_tabW jacquardlaw36_CyclesRefuses.tab8 jacquardlaw36_CyclesRefuses.bits8 (fun HT_ HW_ => ?_)
                   generalize w54.drew = w55 at HO350 HO353 HO356 HO359 HO362 HO366 HO369 HO375 BK343 BK363 HB HR380 hHeld ⊢
                   refine pu_ 1 59 HT_ ?_
                   refine pu_ 2 60 HT_ ?_
                   refine tk_ 0 58 HT_ HW_ hHeld ?_ (hy := by rintro w' ⟨s0, s1, s2, s3, s4, s5⟩; go_simp; with_reducible rfl)
                   refine on_ 3 (some 61) HT_ (fun K hK => ?_)
                   refine Kd.R_lit_step (Kd.int .i64) _ 3 ?hg (N := 61) ?hd (xs := ([0] : List Int)) (inner := [.int .i64 0]) (ok := fun _ => True) (okp := fun _ => True) ?hr ?hp (fun _ hk => hk) trivial (Below.refl _ _) (Nat.le_refl _) (by simp) ?_; (case hd => rfl); (case hg => rfl); (case hr => first | (go_simp; done) | (go_simp; rfl)); (case hp => exact (Reps.one (show Kd.M (Kd.int .i64) _ _ _ 0 [.int .i64 0] from rfl) (Reps.none _ _)))
                   intro v382 w57 ho58 hb hg_ hnew_
                   clear hg_ hnew_
                   (first | rw [← Ny381.out] at ho58 | (simp only [Int.reduceToNat] at ho58; rw [← Ny381.out] at ho58))
                   have n0_ := Aside0.mk (Kd.R_elder' (R_ HO350) (Kd.R_base ho58) hb)
                   have n1_ := Aside0.mk (Kd.R_below (R_ HO353) hb)
                   have n2_ := Aside0.mk (Kd.R_below (R_ HO356) hb)
                   have n3_ := Aside0.mk (Kd.R_elder' (R_ HO359) (Kd.R_base ho58) hb)
                   have n4_ := Aside0.mk (Kd.R_elder' (R_ HO362) (Kd.R_base ho58) hb)
                   have n5_ := Aside0.mk (Kd.S_elder' (S_ HO366) (Kd.R_base ho58) hb)
                   have n6_ := Aside0.mk (Kd.R_below (R_ HO369) hb)
                   have n7_ := Aside0.mk (Kd.R_elder' (R_ HO375) (Kd.R_base ho58) hb)
                   have n8_ := Aside0.mk (Kd.R_lower (Kd.R_new' (Kd.R_new' (Kd.R_new' ho58 (Kd.R_lt (R_ HO350))) (Kd.R_lt (R_ HO359))) (Kd.R_lt (R_ HO375))) (below_size bl_))
                   have n9_ := Aside0.mk (blk_below (K_ BK343) hb)
                   have n10_ := Aside0.mk (blk_below (K_ BK363) hb)
                   have n11_ := Aside0.mk (Kd.C_below (by repeat (first | (with_reducible exact HR380.out) | (with_reducible refine Kd.C_alloc ?_ _) | (with_reducible refine Kd.C_drewN ?_ _) | (with_reducible refine Kd.C_drew ?_) | exact HR380.out)) hb)
                   have n12_ := Aside0.mk (below_step bl_ hb)
                   clear HO350
                   clear HO353
                   clear HO356
                   clear HO359
                   clear HO362
                   clear HO366
                   clear HO369
                   clear HO375
                   clear BK343
                   clear BK363
                   clear HR380
                   clear HB
                   have HO350 := n0_
                   have HO353 := n1_
                   have HO356 := n2_
                   have HO359 := n3_
                   have HO362 := n4_
                   have HO366 := n5_
                   have HO369 := n6_
                   have HO375 := n7_
                   have HO383 := n8_
                   have BK343 := n9_
                   have BK363 := n10_
                   have HR380 := n11_
                   have HB := n12_
                   clear n0_ n1_ n2_ n3_ n4_ n5_ n6_ n7_ n8_ n9_ n10_ n11_ n12_
                   clear hb ho58
                   obtain ⟨Ao59, co59, eo59⟩ := Kd.R_slice HO383.out
                   (first | subst eo59 | (injection eo59 with f1_ f2_ f3_; have f4_ := f1_.symm; have f5_ := f3_.symm; clear f1_ f2_ f3_; subst f4_; subst f5_))
                   refine hK.out _ _ ⟨(blk_cell BK363.out 0).trans rfl, (blk_cell BK363.out 1).trans rfl, (blk_cell BK363.out 2).trans rfl, (blk_cell BK363.out 3).trans rfl, (blk_cell BK363.out 4).trans rfl, (blk_cell BK363.out 5).trans rfl⟩ (fun hHeld => ?_)
                   clear hK K
                   refine no_ 61 ?_
                   refine on_ 4 (some 62) HT_ (fun K hK => ?_)
                   refine gs_ Try.func16 #[.agg #[.string t347, .slice Ao42 t348.length co42, .slice Ao43 t351.length co43, .slice Ao44 t354.length co44, .slice Ao45 t357.length co45, .slice Ao46 t360.length co46], .slice A56 y377.length c56, .slice Ao59 y381.length co59] ?_
                   with_reducible refine (cycles_Split.calls kj3 t347 _ _ t348 _ _ t351 _ _ t354 _ _ t357 _ _ t360 _ _ y377 _ _ y381 t384 t387 _ ?side1 ?side2 ?side3 ?side4 ?side5 ?side6 ?side7 ?side8 ?side9 ?side10 ?side11 ?side12 ?side13 ?side14 A26.out).mono ?_
                   (case side1 => exact CR_ HO350)
                   (case side2 => exact (Kd.R_reads' HO350.out).2.1)
                   (case side3 => exact CR_ HO353)
                   (case side4 => exact (Kd.R_reads' HO353.out).2.1)
                   (case side5 => exact CR_ HO356)
                   (case side6 => exact (Kd.R_reads' HO356.out).2.1)
                   (case side7 => exact CR_ HO359)
                   (case side8 => exact (Kd.R_reads' HO359.out).2.1)
                   (case side9 => exact CR_ HO362)
                   (case side10 => exact (Kd.R_reads' HO362.out).2.1)
                   (case side11 => repeat (first | exact (by repeat (first | (with_reducible exact HR380.out) | (with_reducible refine Kd.C_alloc ?_ _) | (with_reducible refine Kd.C_drewN ?_ _) | (with_reducible refine Kd.C_drew ?_) | exact HR380.out)) | (with_reducible refine Kd.C_alloc ?_ _) | (with_reducible refine Kd.C_drewN ?_ _) | (with_reducible refine Kd.C_drew ?_)))
                   (case side12 => exact HC380.out)
                   (case side13 => exact CR_ HO383)
                   (case side14 => exact (Kd.R_reads' HO383.out).2.1)
                   rintro e w60 ⟨v385, rfl, ho0, hb⟩
                   refine ⟨_, rfl, ?_⟩
                   have n0_ := Aside0.mk (Kd.R_below (R_ HO350) hb)
                   have n1_ := Aside0.mk (Kd.R_below (R_ HO353) hb)
                   have n2_ := Aside0.mk (Kd.R_below (R_ HO356) hb)
                   have n3_ := Aside0.mk (Kd.R_below (R_ HO359) hb)
                   have n4_ := Aside0.mk (Kd.R_below (R_ HO362) hb)
                   have n5_ := Aside0.mk (Kd.S_below (S_ HO366) hb)
                   have n6_ := Aside0.mk (Kd.R_elder' (R_ HO369) (Kd.R_base ho0) hb)
                   have n7_ := Aside0.mk (Kd.R_below (R_ HO375) hb)
                   have n8_ := Aside0.mk (Kd.R_below (R_ HO383) hb)
                   have n9_ := Aside0.mk (Kd.R_lower (Kd.R_new' ho0 (Kd.R_lt (R_ HO369))) (below_size bl_))
                   have n10_ := Aside0.mk (blk_below (K_ BK343) hb)
                   have n11_ := Aside0.mk (blk_below (K_ BK363) hb)
                   have n12_ := Aside0.mk (Kd.C_below (by repeat (first | (with_reducible exact HR380.out) | (with_reducible refine Kd.C_alloc ?_ _) | (with_reducible refine Kd.C_drewN ?_ _) | (with_reducible refine Kd.C_drew ?_) | exact HR380.out)) hb)
                   have n13_ := Aside0.mk (below_step bl_ hb)
                   clear HO350
                   clear HO353
                   clear HO356
                   clear HO359
                   clear HO362
                   clear HO366
                   clear HO369
                   clear HO375
                   clear HO383
                   clear BK343
                   clear BK363
                   clear HR380
                   clear HB
                   have HO350 := n0_
                   have HO353 := n1_
                   have HO356 := n2_
                   have HO359 := n3_
                   have HO362 := n4_
                   have HO366 := n5_
                   have HO369 := n6_
                   have HO375 := n7_
                   have HO383 := n8_
                   have HO386 := n9_
                   have BK343 := n10_
                   have BK363 := n11_
                   have HR380 := n12_
                   have HB := n13_
                   clear n0_ n1_ n2_ n3_ n4_ n5_ n6_ n7_ n8_ n9_ n10_ n11_ n12_ n13_
                   (try clear hb)
                   (try clear hb2)
                   (try clear hk)
                   (try clear hi)
                   (try clear ho0)
                   refine hK.out _ _ ⟨(blk_cell BK363.out 0).trans rfl, (blk_cell BK363.out 1).trans rfl, (blk_cell BK363.out 2).trans rfl, (blk_cell BK363.out 3).trans rfl, (blk_cell BK363.out 4).trans rfl, (blk_cell BK363.out 5).trans rfl⟩ (fun hHeld => ?_)
                   clear hK K
                   refine no_ 62 ?_
                   refine pu_ 5 57 HT_ ?_
                   refine pu_ 6 63 HT_ ?_
                   refine pu_ 7 64 HT_ ?_
                   refine pu_ 8 15 HT_ ?_
                   refine pu_ 9 16 HT_ ?_
                   refine done_ (done_of HT_.out (by kernel_rfl)) ?_
                   obtain ⟨hcz61_0, hcz61_1, hcz61_2, hcz61_3, hcz61_4, hcz61_5⟩ := cells6 BK363
                   obtain ⟨hfz61_0, hfz61_1, hfz61_2, hfz61_3, hfz61_4, hfz61_5⟩ := fz6 BK363
                   try go_wp2_with (first | ((with_reducible refine gate_callee (f := 24) rfl ?_); refine gL_ 70 Try.func24 #[.agg #[.string t347, .slice Ao42 t348.length co42, .slice Ao43 t351.length co43, .slice Ao44 t354.length co44, .slice Ao45 t357.length co45, .slice Ao46 t360.length co46], .slice Ao49 t364.length co49, .slice A2 l2.length c2] ?_; (with_reducible refine (jacquardref36_Path.calls kj3 t347 _ _ t348 _ _ t351 _ _ t354 _ _ t357 _ _ t360 _ _ t364 _ _ l2 true _ ?side1 ?side2 ?side3 ?side4 ?side5 ?side6 ?side7 ?side8 ?side9 ?side10 ?side11 ?side12 ?side13 ?side14 A28.out).mono ?_); (case side1 => exact CR_ HO350); (case side2 => exact (Kd.R_reads' HO350.out).2.1); (case side3 => exact CR_ HO353); (case side4 => exact (Kd.R_reads' HO353.out).2.1); (case side5 => exact CR_ HO356); (case side6 => exact (Kd.R_reads' HO356.out).2.1); (case side7 => exact CR_ HO359); (case side8 => exact (Kd.R_reads' HO359.out).2.1); (case side9 => exact CR_ HO362); (case side10 => exact (Kd.R_reads' HO362.out).2.1); (case side11 => exact CS_ HO366); (case side12 => exact (Kd.S_reads' HO366.out).2.1); (case side13 => exact CB_ HR2); (case side14 => exact HC2.out); rintro e w62 ⟨rfl, hb⟩; refine ⟨_, rfl, ?_⟩; have n0_ := Aside0.mk (Kd.R_below (R_ HO350) hb); have n1_ := Aside0.mk (Kd.R_below (R_ HO353) hb); have n2_ := Aside0.mk (Kd.R_below (R_ HO356) hb); have n3_ := Aside0.mk (Kd.R_below (R_ HO359) hb); have n4_ := Aside0.mk (Kd.R_below (R_ HO362) hb); have n5_ := Aside0.mk (Kd.S_below (S_ HO366) hb); have n6_ := Aside0.mk (Kd.R_below (R_ HO369) hb); have n7_ := Aside0.mk (Kd.R_below (R_ HO375) hb); have n8_ := Aside0.mk (Kd.R_below (R_ HO383) hb); have n9_ := Aside0.mk (Kd.R_below (R_ HO386) hb); have n10_ := Aside0.mk (blk_below (K_ BK343) hb); have n11_ := Aside0.mk (blk_below (K_ BK363) hb); have n12_ := Aside0.mk (Kd.C_below (by repeat (first | (with_reducible exact HR380.out) | (with_reducible refine Kd.C_alloc ?_ _) | (with_reducible refine Kd.C_drewN ?_ _) | (with_reducible refine Kd.C_drew ?_) | exact HR380.out)) hb); have n13_ := Aside0.mk (below_step bl_ hb); clear HO350; clear HO353; clear HO356; clear HO359; clear HO362; clear HO366; clear HO369; clear HO375; clear HO383; clear HO386; clear BK343; clear BK363; clear HR380; clear HB; have HO350 := n0_; have HO353 := n1_; have HO356 := n2_; have HO359 := n3_; have HO362 := n4_; have HO366 := n5_; have HO369 := n6_; have HO375 := n7_; have HO383 := n8_; have HO386 := n9_; have BK343 := n10_; have BK363 := n11_; have HR380 := n12_; have HB := n13_; clear n0_ n1_ n2_ n3_ n4_ n5_ n6_ n7_ n8_ n9_ n10_ n11_ n12_ n13_; (try clear hb); (try clear hb2); (try clear hk); (try clear hi)))
                   have n0_ := Aside0.mk (Kd.R_drew HO350.out)
                   have n1_ := Aside0.mk (Kd.R_drew HO353.out)
                   have n2_ := Aside0.mk (Kd.R_drew HO356.out)
                   have n3_ := Aside0.mk (Kd.R_drew HO359.out)
                   have n4_ := Aside0.mk (Kd.R_drew HO362.out)
                   have n5_ := Aside0.mk (Kd.S_drew HO366.out)
                   have n6_ := Aside0.mk (Kd.R_drew HO369.out)
                   have n7_ := Aside0.mk (Kd.R_drew HO375.out)
                   have n8_ := Aside0.mk (Kd.R_drew HO383.out)
                   have n9_ := Aside0.mk (Kd.R_drew HO386.out)
                   have n10_ := Aside0.mk (blk_drew BK343.out)
                   have n11_ := Aside0.mk (blk_drew BK363.out)
                   have n12_ := Aside0.mk (Kd.C_drew HR380.out)
                   have n13_ := Aside0.mk (below_drew1 HB.out)
                   clear HO350
                   clear HO353
                   clear HO356
                   clear HO359
                   clear HO362
                   clear HO366
                   clear HO369
                   clear HO375
                   clear HO383
                   clear HO386
                   clear BK343
                   clear BK363
                   clear HR380
                   clear HB
                   have HO350 := n0_
                   have HO353 := n1_
                   have HO356 := n2_
                   have HO359 := n3_
                   have HO362 := n4_
                   have HO366 := n5_
                   have HO369 := n6_
                   have HO375 := n7_
                   have HO383 := n8_
                   have HO386 := n9_
                   have BK343 := n10_
                   have BK363 := n11_
                   have HR380 := n12_
                   have HB := n13_
                   clear n0_ n1_ n2_ n3_ n4_ n5_ n6_ n7_ n8_ n9_ n10_ n11_ n12_ n13_
                   have p389 : 0 ≤ ((ji30) : Int) := of_decide_eq_true (by first | (with_reducible assumption) | assumption)
                   have q389 : (ji30) < (l2.length : Int) := of_decide_eq_true (by first | (with_reducible assumption) | assumption)
                   obtain ⟨ad389, e389, hx389_0⟩ := Kd.at_int HR2.out (ji30) p389 q389
                   have hw389_0 := hx389_0
                   cases e389
                   replace hx389_0 := hc_ HB hx389_0
                   replace p389 := eq_true p389
                   replace q389 := eq_true q389
                   have p390 : 0 ≤ ((rd l2 (ji30)) : Int) := of_decide_eq_true (by first | (with_reducible assumption) | assumption)
                   have q390 : (rd l2 (ji30)) < (t360.length : Int) := of_decide_eq_true (by first | (with_reducible assumption) | assumption)
                   obtain ⟨ad390, A390_0, c390_0, A390_1, c390_1, A390_4, c390_4, A390_5, c390_5, e390, hx390_0, hx390_1, hx390_2, hx390_3, hx390_4, hx390_5, hx390_6, hx390_7, hx390_8, hl390_0, hi390_0, hl390_1, hi390_1, hl390_4, hi390_4, hl390_5, hi390_5⟩ := at_T66 (Kd.R_reads' HO362.out).2.2 (rd l2 (ji30)) p390 q390
                   cases e390
                   obtain ⟨ce390, hce390, hMe390, hcc390⟩ := Kd.R_get HO362.out z66 (rd l2 (ji30)) p390 (by first | exact q390 | exact of_decide_eq_true (by first | (with_reducible assumption) | assumption) | (have e_ := (Kd.R_reads' HO362.out).1; omega))
                   obtain ⟨ve390_0, ve390_1, ve390_4, ve390_5, rfl, ge390_0, ge390_1, ge390_4, ge390_5⟩ := k66_openM hMe390
                   have hv390_0 := hcc390 0 _ rfl
                   rw [Nat.add_zero] at hv390_0
                   replace hv390_0 := Option.some.inj (hv390_0.symm.trans hx390_0)
                   rw [hv390_0] at ge390_0
                   have HL390_0 := Aside0.mk (show Kd.R (Kd.int .i64) 3 _ _ _ _ ((rd_T66 t360 (rd l2 (ji30))).f0) from ge390_0)
                   clear hv390_0 ge390_0
                   have hv390_1 := hcc390 1 _ rfl
                   rw [add_field _ _ 1 (by omega)] at hv390_1
                   replace hv390_1 := Option.some.inj (hv390_1.symm.trans hx390_1)
                   rw [hv390_1] at ge390_1
                   have HL390_1 := Aside0.mk (show Kd.R k96 96 _ _ _ _ ((rd_T66 t360 (rd l2 (ji30))).f1) from ge390_1)
                   clear hv390_1 ge390_1
                   have hv390_4 := hcc390 4 _ rfl
                   rw [add_field _ _ 4 (by omega)] at hv390_4
                   replace hv390_4 := Option.some.inj (hv390_4.symm.trans hx390_4)
                   rw [hv390_4] at ge390_4
                   have HL390_4 := Aside0.mk (show Kd.R k71 71 _ _ _ _ ((rd_T66 t360 (rd l2 (ji30))).f2.f2) from ge390_4)
                   clear hv390_4 ge390_4
                   have hv390_5 := hcc390 5 _ rfl
                   rw [add_field _ _ 5 (by omega)] at hv390_5
                   replace hv390_5 := Option.some.inj (hv390_5.symm.trans hx390_5)
                   rw [hv390_5] at ge390_5
                   have HL390_5 := Aside0.mk (show Kd.R (Kd.int .i64) 3 _ _ _ _ ((rd_T66 t360 (rd l2 (ji30))).f2.f3) from ge390_5)
                   clear hv390_5 ge390_5
                   clear hcc390 hce390
                   have HR390_0 := Aside0.mk hi390_0
                   have HC390_0 := Aside0.mk hl390_0
                   clear hi390_0 hl390_0
                   have HR390_1 := Aside0.mk hi390_1
                   have HC390_1 := Aside0.mk hl390_1
                   clear hi390_1 hl390_1
                   have HR390_4 := Aside0.mk hi390_4
                   have HC390_4 := Aside0.mk hl390_4
                   clear hi390_4 hl390_4
                   have HR390_5 := Aside0.mk hi390_5
                   have HC390_5 := Aside0.mk hl390_5
                   clear hi390_5 hl390_5
                   replace p390 := eq_true p390
                   replace q390 := eq_true q390
                   refine start_ (n := 14) (S := fun w' => w'.cell? ⟨gb363, 0, none⟩ = some (.string t347) ∧ w'.cell? ⟨gb363, 1, none⟩ = some (.slice Ao42 t348.length co42) ∧ w'.cell? ⟨gb363, 2, none⟩ = some (.slice Ao43 t351.length co43) ∧ w'.cell? ⟨gb363, 3, none⟩ = some (.slice Ao44 t354.length co44) ∧ w'.cell? ⟨gb363, 4, none⟩ = some (.slice Ao45 t357.length co45) ∧ w'.cell? ⟨gb363, 5, none⟩ = some (.slice (some ad390) t360.length co46) ∧ w'.cell? (ad389.add ((ji30)).toNat) = some (.int .i64 (rd l2 (ji30))) ∧ w'.cell? (ad390.add (((rd l2 (ji30))).toNat * 9)) = some (.slice A390_0 ((rd_T66 t360 (rd l2 (ji30))).f0).length c390_0) ∧ w'.cell? ⟨(ad390.add (((rd l2 (ji30))).toNat * 9)).block, (ad390.add (((rd l2 (ji30))).toNat * 9)).off + 1, none⟩ = some (.slice A390_1 ((rd_T66 t360 (rd l2 (ji30))).f1).length c390_1) ∧ w'.cell? ⟨(ad390.add (((rd l2 (ji30))).toNat * 9)).block, (ad390.add (((rd l2 (ji30))).toNat * 9)).off + 2, none⟩ = some (.int .i64 ((rd_T66 t360 (rd l2 (ji30))).f2.f0)) ∧ w'.cell? ⟨(ad390.add (((rd l2 (ji30))).toNat * 9)).block, (ad390.add (((rd l2 (ji30))).toNat * 9)).off + 3, none⟩ = some (.int .i64 ((rd_T66 t360 (rd l2 (ji30))).f2.f1)) ∧ w'.cell? ⟨(ad390.add (((rd l2 (ji30))).toNat * 9)).block, (ad390.add (((rd l2 (ji30))).toNat * 9)).off + 4, none⟩ = some (.slice A390_4 ((rd_T66 t360 (rd l2 (ji30))).f2.f2).length c390_4) ∧ w'.cell? ⟨(ad390.add (((rd l2 (ji30))).toNat * 9)).block, (ad390.add (((rd l2 (ji30))).toNat * 9)).off + 5, none⟩ = some (.slice A390_5 ((rd_T66 t360 (rd l2 (ji30))).f2.f3).length c390_5) ∧ w'.cell? ⟨(ad390.add (((rd l2 (ji30))).toNat * 9)).block, (ad390.add (((rd l2 (ji30))).toNat * 9)).off + 6, none⟩ = some (.int .i64 ((rd_T66 t360 (rd l2 (ji30))).f3)) ∧ w'.cell? ⟨(ad390.add (((rd l2 (ji30))).toNat * 9)).block, (ad390.add (((rd l2 (ji30))).toNat * 9)).off + 7, none⟩ = some (.int .i64 ((rd_T66 t360 (rd l2 (ji30))).f4)) ∧ w'.cell? ⟨(ad390.add (((rd l2 (ji30))).toNat * 9)).block, (ad390.add (((rd l2 (ji30))).toNat * 9)).off + 8, none⟩ = some (.int .i64 ((rd_T66 t360 (rd l2 (ji30))).f5))) (ds := []) (bz 14 0) (by kernel_rfl) rfl rfl ⟨(blk_cell BK363.out 0).trans rfl, (blk_cell BK363.out 1).trans rfl, (blk_cell BK363.out 2).trans rfl, (blk_cell BK363.out 3).trans rfl, (blk_cell BK363.out 4).trans rfl, (blk_cell BK363.out 5).trans rfl, (hc_ HB hw389_0), hx390_0, hx390_1, hx390_2, hx390_3, hx390_4, hx390_5, hx390_6, hx390_7, hx390_8⟩ (fun hHeld => ?_); refine with_tabW jacquardlaw36_CyclesRefuses.tab13 jacquardlaw36_CyclesRefuses.bits13 (fun HT_ HW_ => ?_)
                   generalize w62.drew = w63 at HO350 HO353 HO356 HO359 HO362 HO366 HO369 HO375 HO383 HO386 BK343 BK363 HR380 HB HL390_0 HL390_1 HL390_4 HL390_5 HR390_0 HR390_1 HR390_4 HR390_5 hx389_0 hx390_0 hx390_1 hx390_2 hx390_3 hx390_4 hx390_5 hx390_6 hx390_7 hx390_8 hHeld ⊢
                   refine pu_ 0 82 HT_ ?_
                   refine pu_ 2 84 HT_ ?_
                   refine pu_ 3 85 HT_ ?_
                   refine pu_ 4 86 HT_ ?_
                   refine pu_ 5 87 HT_ ?_
                   refine pu_ 6 88 HT_ ?_
                   refine tk_ 1 83 HT_ HW_ hHeld ?_ (hy := by rintro w' ⟨s0, s1, s2, s3, s4, s5, s6, s7, s8, s9, s10, s11, s12, s13, s14, s15⟩; go_simp; with_reducible rfl)
                   refine tk_ 7 89 HT_ HW_ hHeld ?_ (hy := by rintro w' ⟨s0, s1, s2, s3, s4, s5, s6, s7, s8, s9, s10, s11, s12, s13, s14, s15⟩; go_simp; with_reducible rfl)
                   refine pu_ 8 90 HT_ ?_
                   refine pu_ 9 91 HT_ ?_
                   refine pu_ 10 92 HT_ ?_
                   refine tk_ 11 93 HT_ HW_ hHeld ?_ (hy := by rintro w' ⟨s0, s1, s2, s3, s4, s5, s6, s7, s8, s9, s10, s11, s12, s13, s14, s15⟩; go_simp; with_reducible rfl)
                   refine pu_ 12 94 HT_ ?_
                   refine pu_ 13 17 HT_ ?_
                   refine done_ (done_of HT_.out (by kernel_rfl)) ?_
                   try go_wp2
                   go_ret
                   exact ⟨by first | rfl | (simp [errW_none, errW_some] <;> rfl) | (simp only [← hji30]; first | rfl | (simp [errW_none, errW_some] <;> rfl)) | (simp [*, errW_none, errW_some] <;> rfl), by repeat (first | (with_reducible first | exact HB.out | apply below_alloc | apply pw_below_drewN | apply below_drew1 | refine below_set ?_ GE343.out | refine below_set ?_ GE363.out) | exact HB.out)⟩
                 rw [if_neg c36] at H
                 have c36b0 : (t376 == 0) = false := beq_eq_false_iff_ne.mpr c36
                 have c36b1 : (t376 != 0) = true := bne_iff_ne.mpr c36
                 exact absurd ((Option.some.inj H).trans HRT_.out) Bool.false_ne_true
               rw [if_neg c35] at H
               have c35b0 : (t370 == 0) = false := beq_eq_false_iff_ne.mpr c35
               have c35b1 : (t370 != 0) = true := bne_iff_ne.mpr c35
               exact absurd ((Option.some.inj H).trans HRT_.out) Bool.false_ne_true
             rw [if_neg c34] at H
             exact absurd H (by simp)
           rw [if_neg c33] at H
           exact absurd H (by simp)
         rw [if_neg c32] at H
         exact absurd H (by simp)
       rw [if_neg c31] at H
       exact absurd H (by simp)
     replace c29 := Bool.eq_false_iff.mpr c29
     subst c29
     have H1 : (if t370 = 3 then (if t372 = 3 then (some (t376 == 3)) else (some false)) else (some false)) = some r := by rw [if_neg (show ¬ (false = true) by decide)] at H; exact H
     clear H
     have H := H1
     clear H1
     by_cases c64 : t370 = 3
     · rw [if_pos c64] at H
       have c64b0 : (t370 == 3) = true := beq_iff_eq.mpr c64
       have c64b1 : (t370 != 3) = false := bne_eq_false_iff_eq.mpr c64
       clear c64
       by_cases c65 : t372 = 3
       · rw [if_pos c65] at H
         have c65b0 : (t372 == 3) = true := beq_iff_eq.mpr c65
         have c65b1 : (t372 != 3) = false := bne_eq_false_iff_eq.mpr c65
         clear c65
         obtain rfl := Option.some.inj H
         obtain ⟨hcz66_0, hcz66_1, hcz66_2, hcz66_3, hcz66_4⟩ := cells5 BK343
         obtain ⟨hfz66_0, hfz66_1, hfz66_2, hfz66_3, hfz66_4⟩ := fz5 BK343
         try go_wp2_with (first | ((with_reducible refine gate_callee (f := 13) rfl ?_); refine gL_ 32 Try.func13 #[.agg #[.slice A0_0 l0_0.length c0_0, .slice A0_1 l0_1.length c0_1, .slice A0_2 l0_2.length c0_2, .slice A0_3 l0_3.length c0_3, .slice A0_4 l0_4.length c0_4]] ?_; (with_reducible refine (jacquardref27_Func.calls kj3 _ _ l0_0 _ _ l0_1 _ _ l0_2 _ _ l0_3 _ _ l0_4 t347 t348 t351 t354 t357 t360 _ ?side1 ?side2 ?side3 ?side4 ?side5 ?side6 ?side7 ?side8 ?side9 ?side10 A20.out).mono ?_); (case side1 => exact CB_ HR0_0); (case side2 => exact HC0_0.out); (case side3 => exact CB_ HR0_1); (case side4 => exact HC0_1.out); (case side5 => exact CB_ HR0_2); (case side6 => exact HC0_2.out); (case side7 => exact CB_ HR0_3); (case side8 => exact HC0_3.out); (case side9 => exact CB_ HR0_4); (case side10 => exact HC0_4.out); rintro e w67 ⟨v349, v352, v355, v358, v361, rfl, ho0, ho1, ho2, ho3, ho4, hb⟩; refine ⟨_, rfl, ?_⟩; have n0_ := Aside0.mk (Kd.R_lower ho0 (below_size bl_)); have n1_ := Aside0.mk (Kd.R_lower ho1 (below_size bl_)); have n2_ := Aside0.mk (Kd.R_lower ho2 (below_size bl_)); have n3_ := Aside0.mk (Kd.R_lower ho3 (below_size bl_)); have n4_ := Aside0.mk (Kd.R_lower ho4 (below_size bl_)); have n5_ := Aside0.mk (blk_below (K_ BK343) hb); have n6_ := Aside0.mk (below_step bl_ hb); clear BK343; clear HB; have HO350 := n0_; have HO353 := n1_; have HO356 := n2_; have HO359 := n3_; have HO362 := n4_; have BK343 := n5_; have HB := n6_; clear n0_ n1_ n2_ n3_ n4_ n5_ n6_; (try clear hb); (try clear hb2); (try clear hk); (try clear hi); (try clear ho0); (try clear ho1); (try clear ho2); (try clear ho3); (try clear ho4)) | ((with_reducible refine gate_dst (N := 7) rfl ?_); (try (refine gate_guard (by rfl) ?_; dsimp only)); refine box_event ?hg (N := 7) ?hd (cs := #[.string (⟨#[]⟩ : ByteArray), .slice none 0 0, .slice none 0 0, .slice none 0 0, .slice none 0 0, .slice none 0 0]) (t := 27) ?hr ?_; (case hd => rfl); (case hg => rfl); (case hr => first | (go_simp; done) | (go_simp; rfl)); intro gb363 hg w68 hbox hb; have n0_ := Aside0.mk (Kd.R_below (R_ HO350) hb); have n1_ := Aside0.mk (Kd.R_below (R_ HO353) hb); have n2_ := Aside0.mk (Kd.R_below (R_ HO356) hb); have n3_ := Aside0.mk (Kd.R_below (R_ HO359) hb); have n4_ := Aside0.mk (Kd.R_below (R_ HO362) hb); have n5_ := Aside0.mk (blk_below (K_ BK343) hb); have n6_ := Aside0.mk (below_step bl_ hb); have n7_ := Aside0.mk (hbox); have n8_ := Aside0.mk (gl_ (w := w) hg); have n9_ := Aside0.mk (gl_ (w := w) hg); have n10_ := Aside0.mk (nl_ hg (K_ BK343)); have n11_ := Aside0.mk (ng_ hg (K_ BK343)); clear HO350; clear HO353; clear HO356; clear HO359; clear HO362; clear BK343; clear HB; have HO350 := n0_; have HO353 := n1_; have HO356 := n2_; have HO359 := n3_; have HO362 := n4_; have BK343 := n5_; have HB := n6_; have BK363 := n7_; have GW363 := n8_; have GE363 := n9_; have NB343_363 := n10_; have NB363_343 := n11_; clear n0_ n1_ n2_ n3_ n4_ n5_ n6_ n7_ n8_ n9_ n10_ n11_; clear hb hbox hg; have hnb69 := NB363_343.out; have hnc69 := NB343_363.out; obtain ⟨hcz70_0, hcz70_1, hcz70_2, hcz70_3, hcz70_4, hcz70_5⟩ := cells6 BK363; obtain ⟨hfz70_0, hfz70_1, hfz70_2, hfz70_3, hfz70_4, hfz70_5⟩ := fz6 BK363; obtain ⟨Ao71, co71, eo71⟩ := Kd.R_slice HO350.out; subst eo71; obtain ⟨Ao72, co72, eo72⟩ := Kd.R_slice HO353.out; subst eo72; obtain ⟨Ao73, co73, eo73⟩ := Kd.R_slice HO356.out; subst eo73; obtain ⟨Ao74, co74, eo74⟩ := Kd.R_slice HO359.out; subst eo74; obtain ⟨Ao75, co75, eo75⟩ := Kd.R_slice HO362.out; subst eo75) | ((with_reducible refine gate_callee (f := 14) rfl ?_); refine gL_ 35 Try.func14 #[.agg #[.string t347, .slice Ao71 t348.length co71, .slice Ao72 t351.length co72, .slice Ao73 t354.length co73, .slice Ao74 t357.length co74, .slice Ao75 t360.length co75], .slice A1 l1.length c1] ?_; (with_reducible refine (jacquardref36_Scheds.calls kj3 t347 _ _ t348 _ _ t351 _ _ t354 _ _ t357 _ _ t360 _ _ l1 t364 _ ?side1 ?side2 ?side3 ?side4 ?side5 ?side6 ?side7 ?side8 ?side9 ?side10 ?side11 ?side12 A21.out).mono ?_); (case side1 => refine (Kd.R_reads' (e := 3) (base := w.heap.size) (ok := fun k_ => some k_ ≠ (.slice Ao74 t357.length co74 : Value).ownBlock) (n := t348.length) (c := co71) ?_).2.2; exact (FR_ HO350 BK363)); (case side2 => exact (Kd.R_reads' HO350.out).2.1); (case side3 => refine (Kd.R_reads' (e := 75) (base := w.heap.size) (ok := fun k_ => True) (n := t351.length) (c := co72) ?_).2.2; exact (FR_ HO353 BK363)); (case side4 => exact (Kd.R_reads' HO353.out).2.1); (case side5 => refine (Kd.R_reads' (e := 77) (base := w.heap.size) (ok := fun k_ => True) (n := t354.length) (c := co73) ?_).2.2; exact (FR_ HO356 BK363)); (case side6 => exact (Kd.R_reads' HO356.out).2.1); (case side7 => refine (Kd.R_reads' (e := 3) (base := w.heap.size) (ok := fun k_ => some k_ ≠ (.slice Ao71 t348.length co71 : Value).ownBlock) (n := t357.length) (c := co74) ?_).2.2; exact (FR_ HO359 BK363)); (case side8 => exact (Kd.R_reads' HO359.out).2.1); (case side9 => refine (Kd.R_reads' (e := 66) (base := w.heap.size) (ok := fun k_ => (some k_ ≠ (.slice Ao71 t348.length co71 : Value).ownBlock ∧ some k_ ≠ (.slice Ao74 t357.length co74 : Value).ownBlock)) (n := t360.length) (c := co75) ?_).2.2; exact (FR_ HO362 BK363)); (case side10 => exact (Kd.R_reads' HO362.out).2.1); (case side11 => exact Kd.C_below HR1.out bl_); (case side12 => exact HC1.out); rintro e w76 ⟨v365, rfl, ho0, hb⟩; refine ⟨_, rfl, ?_⟩; have n0_ := Aside0.mk (Kd.R_below (FR_ HO350 BK363) hb); have n1_ := Aside0.mk (Kd.R_below (FR_ HO353 BK363) hb); have n2_ := Aside0.mk (Kd.R_below (FR_ HO356 BK363) hb); have n3_ := Aside0.mk (Kd.R_below (FR_ HO359 BK363) hb); have n4_ := Aside0.mk (Kd.R_below (FR_ HO362 BK363) hb); have n5_ := Aside0.mk (Kd.S_lower (Kd.S_new' (Kd.S_new' ho0 (Kd.R_lt (FR_ HO350 BK363))) (Kd.R_lt (FR_ HO359 BK363))) (below_size bl_)); have n6_ := Aside0.mk (blk_below (g := gb343) (o := .cells #[.slice A0_0 l0_0.length c0_0, .slice A0_1 l0_1.length c0_1, .slice A0_2 l0_2.length c0_2, .slice A0_3 l0_3.length c0_3, .slice A0_4 l0_4.length c0_4] 36 (0, 0)) (by (with_reducible repeat (first | refine blk_drewN ?_ _ | refine blk_drew ?_ | refine blk_alloc ?_ _)); refine blk_far ?_ NB343_363.out _; (with_reducible repeat (first | refine blk_drewN ?_ _ | refine blk_drew ?_ | refine blk_alloc ?_ _)); refine blk_far ?_ NB343_363.out _; (with_reducible repeat (first | refine blk_drewN ?_ _ | refine blk_drew ?_ | refine blk_alloc ?_ _)); refine blk_far ?_ NB343_363.out _; (with_reducible repeat (first | refine blk_drewN ?_ _ | refine blk_drew ?_ | refine blk_alloc ?_ _)); refine blk_far ?_ NB343_363.out _; (with_reducible repeat (first | refine blk_drewN ?_ _ | refine blk_drew ?_ | refine blk_alloc ?_ _)); refine blk_far ?_ NB343_363.out _; (with_reducible repeat (first | refine blk_drewN ?_ _ | refine blk_drew ?_ | refine blk_alloc ?_ _)); refine blk_far ?_ NB343_363.out _; (with_reducible repeat (first | refine blk_drewN ?_ _ | refine blk_drew ?_ | refine blk_alloc ?_ _)); exact BK343.out) hb); have n7_ := Aside0.mk (blk_below (g := gb363) (o := .cells #[.string t347, .slice Ao71 t348.length co71, .slice Ao72 t351.length co72, .slice Ao73 t354.length co73, .slice Ao74 t357.length co74, .slice Ao75 t360.length co75] 27 (0, 0)) (by (with_reducible repeat (first | refine blk_drewN ?_ _ | refine blk_drew ?_ | refine blk_alloc ?_ _)); refine blk_put (cs := #[.string t347, .slice Ao71 t348.length co71, .slice Ao72 t351.length co72, .slice Ao73 t354.length co73, .slice Ao74 t357.length co74, .slice none 0 0]) ?_ 5 _ rfl; (with_reducible repeat (first | refine blk_drewN ?_ _ | refine blk_drew ?_ | refine blk_alloc ?_ _)); refine blk_put (cs := #[.string t347, .slice Ao71 t348.length co71, .slice Ao72 t351.length co72, .slice Ao73 t354.length co73, .slice none 0 0, .slice none 0 0]) ?_ 4 _ rfl; (with_reducible repeat (first | refine blk_drewN ?_ _ | refine blk_drew ?_ | refine blk_alloc ?_ _)); refine blk_put (cs := #[.string t347, .slice Ao71 t348.length co71, .slice Ao72 t351.length co72, .slice none 0 0, .slice none 0 0, .slice none 0 0]) ?_ 3 _ rfl; (with_reducible repeat (first | refine blk_drewN ?_ _ | refine blk_drew ?_ | refine blk_alloc ?_ _)); refine blk_put (cs := #[.string t347, .slice Ao71 t348.length co71, .slice none 0 0, .slice none 0 0, .slice none 0 0, .slice none 0 0]) ?_ 2 _ rfl; (with_reducible repeat (first | refine blk_drewN ?_ _ | refine blk_drew ?_ | refine blk_alloc ?_ _)); refine blk_put (cs := #[.string t347, .slice none 0 0, .slice none 0 0, .slice none 0 0, .slice none 0 0, .slice none 0 0]) ?_ 1 _ rfl; (with_reducible repeat (first | refine blk_drewN ?_ _ | refine blk_drew ?_ | refine blk_alloc ?_ _)); refine blk_put (cs := #[.string (⟨#[]⟩ : ByteArray), .slice none 0 0, .slice none 0 0, .slice none 0 0, .slice none 0 0, .slice none 0 0]) ?_ 0 _ rfl; (with_reducible repeat (first | refine blk_drewN ?_ _ | refine blk_drew ?_ | refine blk_alloc ?_ _)); exact BK363.out) hb); have n8_ := Aside0.mk (below_step bl_ hb); clear HO350; clear HO353; clear HO356; clear HO359; clear HO362; clear BK343; clear BK363; clear HB; have HO350 := n0_; have HO353 := n1_; have HO356 := n2_; have HO359 := n3_; have HO362 := n4_; have HO366 := n5_; have BK343 := n6_; have BK363 := n7_; have HB := n8_; clear n0_ n1_ n2_ n3_ n4_ n5_ n6_ n7_ n8_; (try clear hb); (try clear hb2); (try clear hk); (try clear hi); (try clear ho0); obtain ⟨hcz77_0, hcz77_1, hcz77_2, hcz77_3, hcz77_4, hcz77_5⟩ := cells6 BK363; obtain ⟨hfz77_0, hfz77_1, hfz77_2, hfz77_3, hfz77_4, hfz77_5⟩ := fz6 BK363; obtain ⟨Ao78, co78, eo78⟩ := Kd.S_slice HO366.out; subst eo78) | ((with_reducible refine gate_callee (f := 16) rfl ?_); refine gL_ 40 Try.func16 #[.agg #[.string t347, .slice Ao71 t348.length co71, .slice Ao72 t351.length co72, .slice Ao73 t354.length co73, .slice Ao74 t357.length co74, .slice Ao75 t360.length co75], .slice Ao78 t364.length co78, .slice A2 l2.length c2] ?_; (with_reducible refine (cycles_Split.calls kj3 t347 _ _ t348 _ _ t351 _ _ t354 _ _ t357 _ _ t360 _ _ t364 _ _ l2 t367 t370 _ ?side1 ?side2 ?side3 ?side4 ?side5 ?side6 ?side7 ?side8 ?side9 ?side10 ?side11 ?side12 ?side13 ?side14 A22.out).mono ?_); (case side1 => exact CR_ HO350); (case side2 => exact (Kd.R_reads' HO350.out).2.1); (case side3 => exact CR_ HO353); (case side4 => exact (Kd.R_reads' HO353.out).2.1); (case side5 => exact CR_ HO356); (case side6 => exact (Kd.R_reads' HO356.out).2.1); (case side7 => exact CR_ HO359); (case side8 => exact (Kd.R_reads' HO359.out).2.1); (case side9 => exact CR_ HO362); (case side10 => exact (Kd.R_reads' HO362.out).2.1); (case side11 => exact CS_ HO366); (case side12 => exact (Kd.S_reads' HO366.out).2.1); (case side13 => exact CB_ HR2); (case side14 => exact HC2.out); rintro e w79 ⟨v368, rfl, ho0, hb⟩; refine ⟨_, rfl, ?_⟩; have n0_ := Aside0.mk (Kd.R_below (R_ HO350) hb); have n1_ := Aside0.mk (Kd.R_below (R_ HO353) hb); have n2_ := Aside0.mk (Kd.R_below (R_ HO356) hb); have n3_ := Aside0.mk (Kd.R_below (R_ HO359) hb); have n4_ := Aside0.mk (Kd.R_below (R_ HO362) hb); have n5_ := Aside0.mk (Kd.S_below (S_ HO366) hb); have n6_ := Aside0.mk (Kd.R_lower ho0 (below_size bl_)); have n7_ := Aside0.mk (blk_below (K_ BK343) hb); have n8_ := Aside0.mk (blk_below (K_ BK363) hb); have n9_ := Aside0.mk (below_step bl_ hb); clear HO350; clear HO353; clear HO356; clear HO359; clear HO362; clear HO366; clear BK343; clear BK363; clear HB; have HO350 := n0_; have HO353 := n1_; have HO356 := n2_; have HO359 := n3_; have HO362 := n4_; have HO366 := n5_; have HO369 := n6_; have BK343 := n7_; have BK363 := n8_; have HB := n9_; clear n0_ n1_ n2_ n3_ n4_ n5_ n6_ n7_ n8_ n9_; (try clear hb); (try clear hb2); (try clear hk); (try clear hi); (try clear ho0); obtain ⟨hcz80_0, hcz80_1, hcz80_2, hcz80_3, hcz80_4, hcz80_5⟩ := cells6 BK363; obtain ⟨hfz80_0, hfz80_1, hfz80_2, hfz80_3, hfz80_4, hfz80_5⟩ := fz6 BK363) | ((with_reducible refine gate_callee (f := 21) rfl ?_); refine gL_ 47 Try.func21 #[.agg #[.string t347, .slice Ao71 t348.length co71, .slice Ao72 t351.length co72, .slice Ao73 t354.length co73, .slice Ao74 t357.length co74, .slice Ao75 t360.length co75], .slice Ao78 t364.length co78, .slice A2 l2.length c2] ?_; (with_reducible refine (cycles_Count.calls kj3 t347 _ _ t348 _ _ t351 _ _ t354 _ _ t357 _ _ t360 _ _ t364 _ _ l2 t371 t372 _ ?side1 ?side2 ?side3 ?side4 ?side5 ?side6 ?side7 ?side8 ?side9 ?side10 ?side11 ?side12 ?side13 ?side14 A23.out).mono ?_); (case side1 => exact CR_ HO350); (case side2 => exact (Kd.R_reads' HO350.out).2.1); (case side3 => exact CR_ HO353); (case side4 => exact (Kd.R_reads' HO353.out).2.1); (case side5 => exact CR_ HO356); (case side6 => exact (Kd.R_reads' HO356.out).2.1); (case side7 => exact CR_ HO359); (case side8 => exact (Kd.R_reads' HO359.out).2.1); (case side9 => exact CR_ HO362); (case side10 => exact (Kd.R_reads' HO362.out).2.1); (case side11 => exact CS_ HO366); (case side12 => exact (Kd.S_reads' HO366.out).2.1); (case side13 => exact CB_ HR2); (case side14 => exact HC2.out); rintro e w81 ⟨rfl, hb⟩; refine ⟨_, rfl, ?_⟩; have n0_ := Aside0.mk (Kd.R_below (R_ HO350) hb); have n1_ := Aside0.mk (Kd.R_below (R_ HO353) hb); have n2_ := Aside0.mk (Kd.R_below (R_ HO356) hb); have n3_ := Aside0.mk (Kd.R_below (R_ HO359) hb); have n4_ := Aside0.mk (Kd.R_below (R_ HO362) hb); have n5_ := Aside0.mk (Kd.S_below (S_ HO366) hb); have n6_ := Aside0.mk (Kd.R_below (R_ HO369) hb); have n7_ := Aside0.mk (blk_below (K_ BK343) hb); have n8_ := Aside0.mk (blk_below (K_ BK363) hb); have n9_ := Aside0.mk (below_step bl_ hb); clear HO350; clear HO353; clear HO356; clear HO359; clear HO362; clear HO366; clear HO369; clear BK343; clear BK363; clear HB; have HO350 := n0_; have HO353 := n1_; have HO356 := n2_; have HO359 := n3_; have HO362 := n4_; have HO366 := n5_; have HO369 := n6_; have BK343 := n7_; have BK363 := n8_; have HB := n9_; clear n0_ n1_ n2_ n3_ n4_ n5_ n6_ n7_ n8_ n9_; (try clear hb); (try clear hb2); (try clear hk); (try clear hi); obtain ⟨hcz82_0, hcz82_1, hcz82_2, hcz82_3, hcz82_4, hcz82_5⟩ := cells6 BK363; obtain ⟨hfz82_0, hfz82_1, hfz82_2, hfz82_3, hfz82_4, hfz82_5⟩ := fz6 BK363) | ((with_reducible refine gate_callee (f := 22) rfl ?_); refine gL_ 54 Try.func22 #[.agg #[.string t347, .slice Ao71 t348.length co71, .slice Ao72 t351.length co72, .slice Ao73 t354.length co73, .slice Ao74 t357.length co74, .slice Ao75 t360.length co75], .slice Ao78 t364.length co78, .slice A2 l2.length c2] ?_; (with_reducible refine (cycles_Issues.calls kj3 t347 _ _ t348 _ _ t351 _ _ t354 _ _ t357 _ _ t360 _ _ t364 _ _ l2 t373 t376 _ ?side1 ?side2 ?side3 ?side4 ?side5 ?side6 ?side7 ?side8 ?side9 ?side10 ?side11 ?side12 ?side13 ?side14 A24.out).mono ?_); (case side1 => exact CR_ HO350); (case side2 => exact (Kd.R_reads' HO350.out).2.1); (case side3 => exact CR_ HO353); (case side4 => exact (Kd.R_reads' HO353.out).2.1); (case side5 => exact CR_ HO356); (case side6 => exact (Kd.R_reads' HO356.out).2.1); (case side7 => exact CR_ HO359); (case side8 => exact (Kd.R_reads' HO359.out).2.1); (case side9 => exact CR_ HO362); (case side10 => exact (Kd.R_reads' HO362.out).2.1); (case side11 => exact CS_ HO366); (case side12 => exact (Kd.S_reads' HO366.out).2.1); (case side13 => exact CB_ HR2); (case side14 => exact HC2.out); rintro e w83 ⟨v374, rfl, ho0, hb⟩; refine ⟨_, rfl, ?_⟩; have n0_ := Aside0.mk (Kd.R_elder' (R_ HO350) (Kd.R_base ho0) hb); have n1_ := Aside0.mk (Kd.R_below (R_ HO353) hb); have n2_ := Aside0.mk (Kd.R_below (R_ HO356) hb); have n3_ := Aside0.mk (Kd.R_elder' (R_ HO359) (Kd.R_base ho0) hb); have n4_ := Aside0.mk (Kd.R_elder' (R_ HO362) (Kd.R_base ho0) hb); have n5_ := Aside0.mk (Kd.S_elder' (S_ HO366) (Kd.R_base ho0) hb); have n6_ := Aside0.mk (Kd.R_below (R_ HO369) hb); have n7_ := Aside0.mk (Kd.R_lower (Kd.R_new' (Kd.R_new' ho0 (Kd.R_lt (R_ HO350))) (Kd.R_lt (R_ HO359))) (below_size bl_)); have n8_ := Aside0.mk (blk_below (K_ BK343) hb); have n9_ := Aside0.mk (blk_below (K_ BK363) hb); have n10_ := Aside0.mk (below_step bl_ hb); clear HO350; clear HO353; clear HO356; clear HO359; clear HO362; clear HO366; clear HO369; clear BK343; clear BK363; clear HB; have HO350 := n0_; have HO353 := n1_; have HO356 := n2_; have HO359 := n3_; have HO362 := n4_; have HO366 := n5_; have HO369 := n6_; have HO375 := n7_; have BK343 := n8_; have BK363 := n9_; have HB := n10_; clear n0_ n1_ n2_ n3_ n4_ n5_ n6_ n7_ n8_ n9_ n10_; (try clear hb); (try clear hb2); (try clear hk); (try clear hi); (try clear ho0)))
         have n0_ := Aside0.mk (Kd.R_drew HO350.out)
         have n1_ := Aside0.mk (Kd.R_drew HO353.out)
         have n2_ := Aside0.mk (Kd.R_drew HO356.out)
         have n3_ := Aside0.mk (Kd.R_drew HO359.out)
         have n4_ := Aside0.mk (Kd.R_drew HO362.out)
         have n5_ := Aside0.mk (Kd.S_drew HO366.out)
         have n6_ := Aside0.mk (Kd.R_drew HO369.out)
         have n7_ := Aside0.mk (Kd.R_drew HO375.out)
         have n8_ := Aside0.mk (blk_drew BK343.out)
         have n9_ := Aside0.mk (blk_drew BK363.out)
         have n10_ := Aside0.mk (below_drew1 HB.out)
         clear HO350
         clear HO353
         clear HO356
         clear HO359
         clear HO362
         clear HO366
         clear HO369
         clear HO375
         clear BK343
         clear BK363
         clear HB
         have HO350 := n0_
         have HO353 := n1_
         have HO356 := n2_
         have HO359 := n3_
         have HO362 := n4_
         have HO366 := n5_
         have HO369 := n6_
         have HO375 := n7_
         have BK343 := n8_
         have BK363 := n9_
         have HB := n10_
         clear n0_ n1_ n2_ n3_ n4_ n5_ n6_ n7_ n8_ n9_ n10_
         have q85 : (1 : Int) ≤ ((t364.length : Int) : Int) := of_decide_eq_true (by first | (with_reducible assumption) | assumption)
         obtain ⟨i085, hi085, _, hsz85, _⟩ := info_parts info49
         have hroom85 : t364.length ≤ co78 := (Kd.S_reads' HO366.out).2.1
         have hC85 : Kd.C k49 _ Ao78 t364.length t364 := (Kd.S_reads' HO366.out).2.2
         have hcut85 := cut_from (P := Try.prog) 28 49 .i64 Try.underlying28 hi085 5 hsz85 Ao78 t364.length co78 1 (by omega) q85
         have hr85 := Kd.C_drop (m := (1 : Int).toNat) (c := co78) hC85 (by omega) hroom85
         obtain ⟨A85, hA85⟩ : ∃ A1, A1 = (if co78 = (1 : Int).toNat then Ao78 else (Ao78 : Option Addr).map (·.add ((1 : Int).toNat * 5))) := ⟨_, rfl⟩
         obtain ⟨c85, hc85⟩ : ∃ c1, c1 = co78 - (1 : Int).toNat := ⟨_, rfl⟩
         have hy85 : y377.length = t364.length - (1 : Int).toNat := (by rw [Ny377.out, List.length_drop] <;> omega)
         rw [show (t364).drop (1 : Int).toNat = y377 from Ny377.out.symm] at hr85
         replace hr85 : Kd.C k49 _ A85 y377.length y377 := (by rw [hA85]; exact hr85)
         rw [← hy85, ← hA85, ← hc85] at hcut85
         have HR380 := Aside0.mk hr85
         have HC380 := Aside0.mk (show y377.length ≤ c85 from by rw [hy85, hc85]; exact Nat.sub_le_sub_right hroom85 _)
         clear hr85 hC85 hroom85 hi085 hsz85 hc85
         have KY85 := Aside0.mk hy85
         have KA85 := Aside0.mk hA85
         clear hy85 hA85
         have KL85 := Aside0.mk (show 1 ≤ t364.length from by omega)
         replace q85 := eq_true q85
         refine start_ (n := 10) (S := fun w' => w'.cell? ⟨gb363, 0, none⟩ = some (.string t347) ∧ w'.cell? ⟨gb363, 1, none⟩ = some (.slice Ao71 t348.length co71) ∧ w'.cell? ⟨gb363, 2, none⟩ = some (.slice Ao72 t351.length co72) ∧ w'.cell? ⟨gb363, 3, none⟩ = some (.slice Ao73 t354.length co73) ∧ w'.cell? ⟨gb363, 4, none⟩ = some (.slice Ao74 t357.length co74) ∧ w'.cell? ⟨gb363, 5, none⟩ = some (.slice Ao75 t360.length co75)) (ds := []) (bz 10 0) (by kernel_rfl) rfl rfl ⟨(blk_cell BK363.out 0).trans rfl, (blk_cell BK363.out 1).trans rfl, (blk_cell BK363.out 2).trans rfl, (blk_cell BK363.out 3).trans rfl, (blk_cell BK363.out 4).trans rfl, (blk_cell BK363.out 5).trans rfl⟩ (fun hHeld => ?_); refine with_tabW jacquardlaw36_CyclesRefuses.tab8 jacquardlaw36_CyclesRefuses.bits8 (fun HT_ HW_ => ?_)
         generalize w83.drew = w84 at HO350 HO353 HO356 HO359 HO362 HO366 HO369 HO375 BK343 BK363 HB HR380 hHeld ⊢
         refine pu_ 1 59 HT_ ?_
         refine pu_ 2 60 HT_ ?_
         refine tk_ 0 58 HT_ HW_ hHeld ?_ (hy := by rintro w' ⟨s0, s1, s2, s3, s4, s5⟩; go_simp; with_reducible rfl)
         refine on_ 3 (some 61) HT_ (fun K hK => ?_)
         refine Kd.R_lit_step (Kd.int .i64) _ 3 ?hg (N := 61) ?hd (xs := ([0] : List Int)) (inner := [.int .i64 0]) (ok := fun _ => True) (okp := fun _ => True) ?hr ?hp (fun _ hk => hk) trivial (Below.refl _ _) (Nat.le_refl _) (by simp) ?_; (case hd => rfl); (case hg => rfl); (case hr => first | (go_simp; done) | (go_simp; rfl)); (case hp => exact (Reps.one (show Kd.M (Kd.int .i64) _ _ _ 0 [.int .i64 0] from rfl) (Reps.none _ _)))
         intro v382 w86 ho87 hb hg_ hnew_
         clear hg_ hnew_
         (first | rw [← Ny381.out] at ho87 | (simp only [Int.reduceToNat] at ho87; rw [← Ny381.out] at ho87))
         have n0_ := Aside0.mk (Kd.R_elder' (R_ HO350) (Kd.R_base ho87) hb)
         have n1_ := Aside0.mk (Kd.R_below (R_ HO353) hb)
         have n2_ := Aside0.mk (Kd.R_below (R_ HO356) hb)
         have n3_ := Aside0.mk (Kd.R_elder' (R_ HO359) (Kd.R_base ho87) hb)
         have n4_ := Aside0.mk (Kd.R_elder' (R_ HO362) (Kd.R_base ho87) hb)
         have n5_ := Aside0.mk (Kd.S_elder' (S_ HO366) (Kd.R_base ho87) hb)
         have n6_ := Aside0.mk (Kd.R_below (R_ HO369) hb)
         have n7_ := Aside0.mk (Kd.R_elder' (R_ HO375) (Kd.R_base ho87) hb)
         have n8_ := Aside0.mk (Kd.R_lower (Kd.R_new' (Kd.R_new' (Kd.R_new' ho87 (Kd.R_lt (R_ HO350))) (Kd.R_lt (R_ HO359))) (Kd.R_lt (R_ HO375))) (below_size bl_))
         have n9_ := Aside0.mk (blk_below (K_ BK343) hb)
         have n10_ := Aside0.mk (blk_below (K_ BK363) hb)
         have n11_ := Aside0.mk (Kd.C_below (by repeat (first | (with_reducible exact HR380.out) | (with_reducible refine Kd.C_alloc ?_ _) | (with_reducible refine Kd.C_drewN ?_ _) | (with_reducible refine Kd.C_drew ?_) | exact HR380.out)) hb)
         have n12_ := Aside0.mk (below_step bl_ hb)
         clear HO350
         clear HO353
         clear HO356
         clear HO359
         clear HO362
         clear HO366
         clear HO369
         clear HO375
         clear BK343
         clear BK363
         clear HR380
         clear HB
         have HO350 := n0_
         have HO353 := n1_
         have HO356 := n2_
         have HO359 := n3_
         have HO362 := n4_
         have HO366 := n5_
         have HO369 := n6_
         have HO375 := n7_
         have HO383 := n8_
         have BK343 := n9_
         have BK363 := n10_
         have HR380 := n11_
         have HB := n12_
         clear n0_ n1_ n2_ n3_ n4_ n5_ n6_ n7_ n8_ n9_ n10_ n11_ n12_
         clear hb ho87
         obtain ⟨Ao88, co88, eo88⟩ := Kd.R_slice HO383.out
         (first | subst eo88 | (injection eo88 with f1_ f2_ f3_; have f4_ := f1_.symm; have f5_ := f3_.symm; clear f1_ f2_ f3_; subst f4_; subst f5_))
         refine hK.out _ _ ⟨(blk_cell BK363.out 0).trans rfl, (blk_cell BK363.out 1).trans rfl, (blk_cell BK363.out 2).trans rfl, (blk_cell BK363.out 3).trans rfl, (blk_cell BK363.out 4).trans rfl, (blk_cell BK363.out 5).trans rfl⟩ (fun hHeld => ?_)
         clear hK K
         refine no_ 61 ?_
         refine on_ 4 (some 62) HT_ (fun K hK => ?_)
         refine gs_ Try.func16 #[.agg #[.string t347, .slice Ao71 t348.length co71, .slice Ao72 t351.length co72, .slice Ao73 t354.length co73, .slice Ao74 t357.length co74, .slice Ao75 t360.length co75], .slice A85 y377.length c85, .slice Ao88 y381.length co88] ?_
         with_reducible refine (cycles_Split.calls kj3 t347 _ _ t348 _ _ t351 _ _ t354 _ _ t357 _ _ t360 _ _ y377 _ _ y381 t384 t387 _ ?side1 ?side2 ?side3 ?side4 ?side5 ?side6 ?side7 ?side8 ?side9 ?side10 ?side11 ?side12 ?side13 ?side14 A26.out).mono ?_
         (case side1 => exact CR_ HO350)
         (case side2 => exact (Kd.R_reads' HO350.out).2.1)
         (case side3 => exact CR_ HO353)
         (case side4 => exact (Kd.R_reads' HO353.out).2.1)
         (case side5 => exact CR_ HO356)
         (case side6 => exact (Kd.R_reads' HO356.out).2.1)
         (case side7 => exact CR_ HO359)
         (case side8 => exact (Kd.R_reads' HO359.out).2.1)
         (case side9 => exact CR_ HO362)
         (case side10 => exact (Kd.R_reads' HO362.out).2.1)
         (case side11 => repeat (first | exact (by repeat (first | (with_reducible exact HR380.out) | (with_reducible refine Kd.C_alloc ?_ _) | (with_reducible refine Kd.C_drewN ?_ _) | (with_reducible refine Kd.C_drew ?_) | exact HR380.out)) | (with_reducible refine Kd.C_alloc ?_ _) | (with_reducible refine Kd.C_drewN ?_ _) | (with_reducible refine Kd.C_drew ?_)))
         (case side12 => exact HC380.out)
         (case side13 => exact CR_ HO383)
         (case side14 => exact (Kd.R_reads' HO383.out).2.1)
         rintro e w89 ⟨v385, rfl, ho0, hb⟩
         refine ⟨_, rfl, ?_⟩
         have n0_ := Aside0.mk (Kd.R_below (R_ HO350) hb)
         have n1_ := Aside0.mk (Kd.R_below (R_ HO353) hb)
         have n2_ := Aside0.mk (Kd.R_below (R_ HO356) hb)
         have n3_ := Aside0.mk (Kd.R_below (R_ HO359) hb)
         have n4_ := Aside0.mk (Kd.R_below (R_ HO362) hb)
         have n5_ := Aside0.mk (Kd.S_below (S_ HO366) hb)
         have n6_ := Aside0.mk (Kd.R_elder' (R_ HO369) (Kd.R_base ho0) hb)
         have n7_ := Aside0.mk (Kd.R_below (R_ HO375) hb)
         have n8_ := Aside0.mk (Kd.R_below (R_ HO383) hb)
         have n9_ := Aside0.mk (Kd.R_lower (Kd.R_new' ho0 (Kd.R_lt (R_ HO369))) (below_size bl_))
         have n10_ := Aside0.mk (blk_below (K_ BK343) hb)
         have n11_ := Aside0.mk (blk_below (K_ BK363) hb)
         have n12_ := Aside0.mk (Kd.C_below (by repeat (first | (with_reducible exact HR380.out) | (with_reducible refine Kd.C_alloc ?_ _) | (with_reducible refine Kd.C_drewN ?_ _) | (with_reducible refine Kd.C_drew ?_) | exact HR380.out)) hb)
         have n13_ := Aside0.mk (below_step bl_ hb)
         clear HO350
         clear HO353
         clear HO356
         clear HO359
         clear HO362
         clear HO366
         clear HO369
         clear HO375
         clear HO383
         clear BK343
         clear BK363
         clear HR380
         clear HB
         have HO350 := n0_
         have HO353 := n1_
         have HO356 := n2_
         have HO359 := n3_
         have HO362 := n4_
         have HO366 := n5_
         have HO369 := n6_
         have HO375 := n7_
         have HO383 := n8_
         have HO386 := n9_
         have BK343 := n10_
         have BK363 := n11_
         have HR380 := n12_
         have HB := n13_
         clear n0_ n1_ n2_ n3_ n4_ n5_ n6_ n7_ n8_ n9_ n10_ n11_ n12_ n13_
         (try clear hb)
         (try clear hb2)
         (try clear hk)
         (try clear hi)
         (try clear ho0)
         refine hK.out _ _ ⟨(blk_cell BK363.out 0).trans rfl, (blk_cell BK363.out 1).trans rfl, (blk_cell BK363.out 2).trans rfl, (blk_cell BK363.out 3).trans rfl, (blk_cell BK363.out 4).trans rfl, (blk_cell BK363.out 5).trans rfl⟩ (fun hHeld => ?_)
         clear hK K
         refine no_ 62 ?_
         refine pu_ 5 57 HT_ ?_
         refine pu_ 6 63 HT_ ?_
         refine pu_ 7 64 HT_ ?_
         refine pu_ 8 15 HT_ ?_
         refine pu_ 9 16 HT_ ?_
         refine done_ (done_of HT_.out (by kernel_rfl)) ?_
         obtain ⟨hcz90_0, hcz90_1, hcz90_2, hcz90_3, hcz90_4, hcz90_5⟩ := cells6 BK363
         obtain ⟨hfz90_0, hfz90_1, hfz90_2, hfz90_3, hfz90_4, hfz90_5⟩ := fz6 BK363
         try go_wp2_with (first | ((with_reducible refine gate_callee (f := 24) rfl ?_); refine gL_ 70 Try.func24 #[.agg #[.string t347, .slice Ao71 t348.length co71, .slice Ao72 t351.length co72, .slice Ao73 t354.length co73, .slice Ao74 t357.length co74, .slice Ao75 t360.length co75], .slice Ao78 t364.length co78, .slice A2 l2.length c2] ?_; (with_reducible refine (jacquardref36_Path.calls kj3 t347 _ _ t348 _ _ t351 _ _ t354 _ _ t357 _ _ t360 _ _ t364 _ _ l2 false _ ?side1 ?side2 ?side3 ?side4 ?side5 ?side6 ?side7 ?side8 ?side9 ?side10 ?side11 ?side12 ?side13 ?side14 A28.out).mono ?_); (case side1 => exact CR_ HO350); (case side2 => exact (Kd.R_reads' HO350.out).2.1); (case side3 => exact CR_ HO353); (case side4 => exact (Kd.R_reads' HO353.out).2.1); (case side5 => exact CR_ HO356); (case side6 => exact (Kd.R_reads' HO356.out).2.1); (case side7 => exact CR_ HO359); (case side8 => exact (Kd.R_reads' HO359.out).2.1); (case side9 => exact CR_ HO362); (case side10 => exact (Kd.R_reads' HO362.out).2.1); (case side11 => exact CS_ HO366); (case side12 => exact (Kd.S_reads' HO366.out).2.1); (case side13 => exact CB_ HR2); (case side14 => exact HC2.out); rintro e w91 ⟨rfl, hb⟩; refine ⟨_, rfl, ?_⟩; have n0_ := Aside0.mk (Kd.R_below (R_ HO350) hb); have n1_ := Aside0.mk (Kd.R_below (R_ HO353) hb); have n2_ := Aside0.mk (Kd.R_below (R_ HO356) hb); have n3_ := Aside0.mk (Kd.R_below (R_ HO359) hb); have n4_ := Aside0.mk (Kd.R_below (R_ HO362) hb); have n5_ := Aside0.mk (Kd.S_below (S_ HO366) hb); have n6_ := Aside0.mk (Kd.R_below (R_ HO369) hb); have n7_ := Aside0.mk (Kd.R_below (R_ HO375) hb); have n8_ := Aside0.mk (Kd.R_below (R_ HO383) hb); have n9_ := Aside0.mk (Kd.R_below (R_ HO386) hb); have n10_ := Aside0.mk (blk_below (K_ BK343) hb); have n11_ := Aside0.mk (blk_below (K_ BK363) hb); have n12_ := Aside0.mk (Kd.C_below (by repeat (first | (with_reducible exact HR380.out) | (with_reducible refine Kd.C_alloc ?_ _) | (with_reducible refine Kd.C_drewN ?_ _) | (with_reducible refine Kd.C_drew ?_) | exact HR380.out)) hb); have n13_ := Aside0.mk (below_step bl_ hb); clear HO350; clear HO353; clear HO356; clear HO359; clear HO362; clear HO366; clear HO369; clear HO375; clear HO383; clear HO386; clear BK343; clear BK363; clear HR380; clear HB; have HO350 := n0_; have HO353 := n1_; have HO356 := n2_; have HO359 := n3_; have HO362 := n4_; have HO366 := n5_; have HO369 := n6_; have HO375 := n7_; have HO383 := n8_; have HO386 := n9_; have BK343 := n10_; have BK363 := n11_; have HR380 := n12_; have HB := n13_; clear n0_ n1_ n2_ n3_ n4_ n5_ n6_ n7_ n8_ n9_ n10_ n11_ n12_ n13_; (try clear hb); (try clear hb2); (try clear hk); (try clear hi)))
         go_ret
         exact ⟨by first | rfl | (simp [errW_none, errW_some] <;> rfl) | (simp [*, errW_none, errW_some] <;> rfl), by repeat (first | (with_reducible first | exact HB.out | apply below_alloc | apply pw_below_drewN | apply below_drew1 | refine below_set ?_ GE343.out | refine below_set ?_ GE363.out) | exact HB.out)⟩
       rw [if_neg c65] at H
       have c65b0 : (t372 == 3) = false := beq_eq_false_iff_ne.mpr c65
       have c65b1 : (t372 != 3) = true := bne_iff_ne.mpr c65
       exact absurd ((Option.some.inj H).trans HRT_.out) Bool.false_ne_true
     rw [if_neg c64] at H
     have c64b0 : (t370 == 3) = false := beq_eq_false_iff_ne.mpr c64
     have c64b1 : (t370 != 3) = true := bne_iff_ne.mpr c64
     exact absurd ((Option.some.inj H).trans HRT_.out) Bool.false_ne_true
   rw [if_neg c27] at H
   have c27b0 : (t387 == 3) = false := beq_eq_false_iff_ne.mpr c27
   have c27b1 : (t387 != 3) = true := bne_iff_ne.mpr c27
   exact absurd ((Option.some.inj H).trans HRT_.out) Bool.false_ne_true
 rw [if_neg c25] at H
 exact absurd H (by simp)
end Go.Proofs.Ytmefaegcoogmiaa.PAll
