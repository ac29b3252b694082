-- Written for this claim by a program of this session (wip/print2 in its repo), which runs a changed printer. Lean checks it.
import Derived.Test.YtmacdopdogodoaaPAllx0
import Derived.Test.YtmacdopdogodoaaPAllx3
import Derived.Test.YtmacdopdogodoaaPAllx4
namespace Go.Proofs.Ytmacdopdogodoaa.PAll
open Go.RowKit Go.Proofs.YtmacdopdogodoaaW.PrintWords Go.Proofs.YtmacdopdogodoaaW.PrintLast Go.Proofs.YtmacdopdogodoaaW.PrintMore
attribute [local go_sem] max2_int min2_int max_two min_two max_three min_three max_four min_four   -- for this text's walks alone
set_option linter.unusedVariables false
set_option linter.unusedSimpArgs false

/-! ### jacquardlaw27_awake: function 10 -/
def jacquardlaw27_awake.f (k : Nat)  : Option (Bool) := (library_Of.f k 2 8).bind fun bt107 => (if bt107.2.2.2.2.2.2 = 0 then (if bt107.2.2.1 = 160 then (some (bt107.2.2.2.2.2.1 == 96)) else (some false)) else (some false))
theorem jacquardlaw27_awake.mono : ∀ k, LeO (jacquardlaw27_awake.f k ) (jacquardlaw27_awake.f (k + 1) ) := by
  intro  k
  unfold jacquardlaw27_awake.f
  repeat' first
      | (with_reducible exact library_Of.mono _ _ _)
      | (with_reducible exact LeO.refl _)
      | (with_reducible exact LeO.none _)
      | (with_reducible refine LeO.ite ?_ ?_)
      | (with_reducible refine LeO.bind ?_ (fun _ => ?_))
      | exact library_Of.mono _ _ _
      | exact LeO.none _
      | refine LeO.ite ?_ ?_
      | refine LeO.bind ?_ (fun _ => ?_)
set_option maxHeartbeats 8000000 in
set_option maxRecDepth 100000 in
theorem jacquardlaw27_awake.calls (k : Nat)  (r : Bool) (w : World) (h : jacquardlaw27_awake.f k  = some r) :
    Calls Try.prog 10 #[] w fun e w' => e = .returned (.bool r) ∧ Below w.heap.size w w' := by
  have hu24 := Try.underlying24
  have HB := Aside0.mk (Below.refl w.heap.size w)
  have H : ((library_Of.f k 2 8).bind fun bt107 => (if bt107.2.2.2.2.2.2 = 0 then (if bt107.2.2.1 = 160 then (some (bt107.2.2.2.2.2.1 == 96)) else (some false)) else (some false))) = some r := h
  clear h
  replace H := Option.bind_eq_some_iff.mp H
  obtain ⟨⟨t107, t108, t109, t110, t111, t112, t113⟩, A10, H⟩ := H
  replace H : (if t113 = 0 then (if t109 = 160 then (some (t112 == 96)) else (some false)) else (some false)) = some r := H
  have A1 := Aside0.mk A10
  clear A10
  by_cases c2 : t113 = 0
  · rw [if_pos c2] at H
    have c2b0 : (t113 == 0) = true := beq_iff_eq.mpr c2
    have c2b1 : (t113 != 0) = false := bne_eq_false_iff_eq.mpr c2
    clear c2
    by_cases c3 : t109 = 160
    · rw [if_pos c3] at H
      have c3b0 : (t109 == 160) = true := beq_iff_eq.mpr c3
      have c3b1 : (t109 != 160) = false := bne_eq_false_iff_eq.mpr c3
      clear c3
      obtain rfl := Option.some.inj H
      go_enter Try.func10, Try.ntmps10
      go_wp2_with (first | ((with_reducible refine gate_callee (f := 11) rfl ?_); refine goesL_ (some 4) rfl rfl Try.func11 (by kernel_rfl) rfl #[.int .i64 2, .int .i64 8] rfl (by (try simp only [List.map_toArray, List.map_cons, List.map_nil]); first | done | rfl | (simp only [List.length_drop, List.length_take]; rfl)) ?_; (with_reducible refine (library_Of.calls k 2 8 t107 t108 t109 t110 t111 t112 t113 _ A1.out).mono ?_); rintro e w4 ⟨rfl, hb⟩; refine ⟨_, rfl, ?_⟩; have n0_ := Aside0.mk (below_step (by repeat (first | (with_reducible first | exact HB.out | apply below_alloc | apply pw_below_drewN | apply below_drew1) | exact HB.out)) hb); clear HB; have HB := n0_; clear n0_; (try clear hb); (try clear hb2); (try clear hk); (try clear hi)) | ((with_reducible refine gate_dst (N := 1) rfl ?_); refine box_event ?hg (N := 1) ?hd (cs := #[.int .i64 0, .int .i64 0, .int .i64 0, .int .i64 0, .int .i64 0, .int .i64 0]) (t := 24) ?hr ?_; (case hd => rfl); (case hg => rfl); (case hr => first | (go_simp; done) | (go_simp; rfl)); intro gb114 hg w5 hbox hb; have n0_ := Aside0.mk (below_step (by repeat (first | (with_reducible first | exact HB.out | apply below_alloc | apply pw_below_drewN | apply below_drew1) | exact HB.out)) hb); have n1_ := Aside0.mk (hbox); have n2_ := Aside0.mk ((by rw [hg]; exact (below_size (by repeat (first | (with_reducible first | exact HB.out | apply below_alloc | apply pw_below_drewN | apply below_drew1) | exact HB.out))) : w.heap.size ≤ gb114)); have n3_ := Aside0.mk ((by rw [hg]; exact (below_size (by repeat (first | (with_reducible first | exact HB.out | apply below_alloc | apply pw_below_drewN | apply below_drew1) | exact HB.out))) : w.heap.size ≤ gb114)); clear HB; have HB := n0_; have BK114 := n1_; have GW114 := n2_; have GE114 := n3_; clear n0_ n1_ n2_ n3_; clear hb hbox hg; have hcz6_0 : w5.cell? ⟨gb114, 0, none⟩ = some (.int .i64 0) := (blk_cell BK114.out 0).trans rfl; have hcz6_1 : w5.cell? ⟨gb114, 1, none⟩ = some (.int .i64 0) := (blk_cell BK114.out 1).trans rfl; have hcz6_2 : w5.cell? ⟨gb114, 2, none⟩ = some (.int .i64 0) := (blk_cell BK114.out 2).trans rfl; have hcz6_3 : w5.cell? ⟨gb114, 3, none⟩ = some (.int .i64 0) := (blk_cell BK114.out 3).trans rfl; have hcz6_4 : w5.cell? ⟨gb114, 4, none⟩ = some (.int .i64 0) := (blk_cell BK114.out 4).trans rfl; have hcz6_5 : w5.cell? ⟨gb114, 5, none⟩ = some (.int .i64 0) := (blk_cell BK114.out 5).trans rfl; have hfz6_0 := blk_frozen BK114.out 0; have hfz6_1 := blk_frozen BK114.out 1; have hfz6_2 := blk_frozen BK114.out 2; have hfz6_3 := blk_frozen BK114.out 3; have hfz6_4 := blk_frozen BK114.out 4; have hfz6_5 := blk_frozen BK114.out 5))
      go_ret
      exact ⟨by first | rfl | (simp [errW_none, errW_some] <;> rfl) | (simp [*, errW_none, errW_some] <;> rfl), by repeat (first | (with_reducible first | exact HB.out | apply below_alloc | apply pw_below_drewN | apply below_drew1 | refine below_set ?_ GE114.out) | exact HB.out)⟩
    · rw [if_neg c3] at H
      have c3b0 : (t109 == 160) = false := beq_eq_false_iff_ne.mpr c3
      have c3b1 : (t109 != 160) = true := bne_iff_ne.mpr c3
      obtain rfl := Option.some.inj H
      go_enter Try.func10, Try.ntmps10
      go_wp2_with (first | ((with_reducible refine gate_callee (f := 11) rfl ?_); refine goesL_ (some 4) rfl rfl Try.func11 (by kernel_rfl) rfl #[.int .i64 2, .int .i64 8] rfl (by (try simp only [List.map_toArray, List.map_cons, List.map_nil]); first | done | rfl | (simp only [List.length_drop, List.length_take]; rfl)) ?_; (with_reducible refine (library_Of.calls k 2 8 t107 t108 t109 t110 t111 t112 t113 _ A1.out).mono ?_); rintro e w7 ⟨rfl, hb⟩; refine ⟨_, rfl, ?_⟩; have n0_ := Aside0.mk (below_step (by repeat (first | (with_reducible first | exact HB.out | apply below_alloc | apply pw_below_drewN | apply below_drew1) | exact HB.out)) hb); clear HB; have HB := n0_; clear n0_; (try clear hb); (try clear hb2); (try clear hk); (try clear hi)) | ((with_reducible refine gate_dst (N := 1) rfl ?_); refine box_event ?hg (N := 1) ?hd (cs := #[.int .i64 0, .int .i64 0, .int .i64 0, .int .i64 0, .int .i64 0, .int .i64 0]) (t := 24) ?hr ?_; (case hd => rfl); (case hg => rfl); (case hr => first | (go_simp; done) | (go_simp; rfl)); intro gb114 hg w8 hbox hb; have n0_ := Aside0.mk (below_step (by repeat (first | (with_reducible first | exact HB.out | apply below_alloc | apply pw_below_drewN | apply below_drew1) | exact HB.out)) hb); have n1_ := Aside0.mk (hbox); have n2_ := Aside0.mk ((by rw [hg]; exact (below_size (by repeat (first | (with_reducible first | exact HB.out | apply below_alloc | apply pw_below_drewN | apply below_drew1) | exact HB.out))) : w.heap.size ≤ gb114)); have n3_ := Aside0.mk ((by rw [hg]; exact (below_size (by repeat (first | (with_reducible first | exact HB.out | apply below_alloc | apply pw_below_drewN | apply below_drew1) | exact HB.out))) : w.heap.size ≤ gb114)); clear HB; have HB := n0_; have BK114 := n1_; have GW114 := n2_; have GE114 := n3_; clear n0_ n1_ n2_ n3_; clear hb hbox hg; have hcz9_0 : w8.cell? ⟨gb114, 0, none⟩ = some (.int .i64 0) := (blk_cell BK114.out 0).trans rfl; have hcz9_1 : w8.cell? ⟨gb114, 1, none⟩ = some (.int .i64 0) := (blk_cell BK114.out 1).trans rfl; have hcz9_2 : w8.cell? ⟨gb114, 2, none⟩ = some (.int .i64 0) := (blk_cell BK114.out 2).trans rfl; have hcz9_3 : w8.cell? ⟨gb114, 3, none⟩ = some (.int .i64 0) := (blk_cell BK114.out 3).trans rfl; have hcz9_4 : w8.cell? ⟨gb114, 4, none⟩ = some (.int .i64 0) := (blk_cell BK114.out 4).trans rfl; have hcz9_5 : w8.cell? ⟨gb114, 5, none⟩ = some (.int .i64 0) := (blk_cell BK114.out 5).trans rfl; have hfz9_0 := blk_frozen BK114.out 0; have hfz9_1 := blk_frozen BK114.out 1; have hfz9_2 := blk_frozen BK114.out 2; have hfz9_3 := blk_frozen BK114.out 3; have hfz9_4 := blk_frozen BK114.out 4; have hfz9_5 := blk_frozen BK114.out 5))
      go_ret
      exact ⟨by first | rfl | (simp [errW_none, errW_some] <;> rfl) | (simp [*, errW_none, errW_some] <;> rfl), by repeat (first | (with_reducible first | exact HB.out | apply below_alloc | apply pw_below_drewN | apply below_drew1 | refine below_set ?_ GE114.out) | exact HB.out)⟩
  · rw [if_neg c2] at H
    have c2b0 : (t113 == 0) = false := beq_eq_false_iff_ne.mpr c2
    have c2b1 : (t113 != 0) = true := bne_iff_ne.mpr c2
    obtain rfl := Option.some.inj H
    go_enter Try.func10, Try.ntmps10
    go_wp2_with (first | ((with_reducible refine gate_callee (f := 11) rfl ?_); refine goesL_ (some 4) rfl rfl Try.func11 (by kernel_rfl) rfl #[.int .i64 2, .int .i64 8] rfl (by (try simp only [List.map_toArray, List.map_cons, List.map_nil]); first | done | rfl | (simp only [List.length_drop, List.length_take]; rfl)) ?_; (with_reducible refine (library_Of.calls k 2 8 t107 t108 t109 t110 t111 t112 t113 _ A1.out).mono ?_); rintro e w10 ⟨rfl, hb⟩; refine ⟨_, rfl, ?_⟩; have n0_ := Aside0.mk (below_step (by repeat (first | (with_reducible first | exact HB.out | apply below_alloc | apply pw_below_drewN | apply below_drew1) | exact HB.out)) hb); clear HB; have HB := n0_; clear n0_; (try clear hb); (try clear hb2); (try clear hk); (try clear hi)) | ((with_reducible refine gate_dst (N := 1) rfl ?_); refine box_event ?hg (N := 1) ?hd (cs := #[.int .i64 0, .int .i64 0, .int .i64 0, .int .i64 0, .int .i64 0, .int .i64 0]) (t := 24) ?hr ?_; (case hd => rfl); (case hg => rfl); (case hr => first | (go_simp; done) | (go_simp; rfl)); intro gb114 hg w11 hbox hb; have n0_ := Aside0.mk (below_step (by repeat (first | (with_reducible first | exact HB.out | apply below_alloc | apply pw_below_drewN | apply below_drew1) | exact HB.out)) hb); have n1_ := Aside0.mk (hbox); have n2_ := Aside0.mk ((by rw [hg]; exact (below_size (by repeat (first | (with_reducible first | exact HB.out | apply below_alloc | apply pw_below_drewN | apply below_drew1) | exact HB.out))) : w.heap.size ≤ gb114)); have n3_ := Aside0.mk ((by rw [hg]; exact (below_size (by repeat (first | (with_reducible first | exact HB.out | apply below_alloc | apply pw_below_drewN | apply below_drew1) | exact HB.out))) : w.heap.size ≤ gb114)); clear HB; have HB := n0_; have BK114 := n1_; have GW114 := n2_; have GE114 := n3_; clear n0_ n1_ n2_ n3_; clear hb hbox hg; have hcz12_0 : w11.cell? ⟨gb114, 0, none⟩ = some (.int .i64 0) := (blk_cell BK114.out 0).trans rfl; have hcz12_1 : w11.cell? ⟨gb114, 1, none⟩ = some (.int .i64 0) := (blk_cell BK114.out 1).trans rfl; have hcz12_2 : w11.cell? ⟨gb114, 2, none⟩ = some (.int .i64 0) := (blk_cell BK114.out 2).trans rfl; have hcz12_3 : w11.cell? ⟨gb114, 3, none⟩ = some (.int .i64 0) := (blk_cell BK114.out 3).trans rfl; have hcz12_4 : w11.cell? ⟨gb114, 4, none⟩ = some (.int .i64 0) := (blk_cell BK114.out 4).trans rfl; have hcz12_5 : w11.cell? ⟨gb114, 5, none⟩ = some (.int .i64 0) := (blk_cell BK114.out 5).trans rfl; have hfz12_0 := blk_frozen BK114.out 0; have hfz12_1 := blk_frozen BK114.out 1; have hfz12_2 := blk_frozen BK114.out 2; have hfz12_3 := blk_frozen BK114.out 3; have hfz12_4 := blk_frozen BK114.out 4; have hfz12_5 := blk_frozen BK114.out 5))
    go_ret
    exact ⟨by first | rfl | (simp [errW_none, errW_some] <;> rfl) | (simp [*, errW_none, errW_some] <;> rfl), by repeat (first | (with_reducible first | exact HB.out | apply below_alloc | apply pw_below_drewN | apply below_drew1 | refine below_set ?_ GE114.out) | exact HB.out)⟩

/-! ### library_Count: function 16 -/
def library_Count.l0 : Nat → Int → List (S37) → Int → Int → Option (Int)
  | 0, _, _, _, _ => none
  | k + 1, x1, x7, x8, x9 => if x9 < x8 then (if 0 ≤ x9 then (if x9 < (x7.length : Int) then (if ((rd_T37 x7 x9).f0) = x1 then (some (mn (mx ((rd_T37 x7 x9).f1) 1) 1024)) else (library_Count.l0 k x1 x7 x8 (wrap64 (x9 + 1)))) else (none)) else (none)) else (some 1024)
def library_Count.f (k : Nat) (l0 : List (S37)) (a1 : Int) : Option (Int) := library_Count.l0 k a1 l0 (l0.length : Int) 0
theorem library_Count.mono_l : ∀ k, (∀ y0 y1 y2 y3, LeO (library_Count.l0 k y0 y1 y2 y3) (library_Count.l0 (k + 1) y0 y1 y2 y3))
  | 0 => fun _ _ _ _ r h => by simp [library_Count.l0] at h
  | k + 1 => by
    have ih0 := library_Count.mono_l k
    · intro y0 y1 y2 y3
      unfold library_Count.l0
      repeat' first
      | (with_reducible exact ih0 _ _ _ _)
      | (with_reducible exact LeO.refl _)
      | (with_reducible exact LeO.none _)
      | (with_reducible refine LeO.ite ?_ ?_)
      | (with_reducible refine LeO.bind ?_ (fun _ => ?_))
      | exact ih0 _ _ _ _
      | exact LeO.none _
      | refine LeO.ite ?_ ?_
      | refine LeO.bind ?_ (fun _ => ?_)
theorem library_Count.mono : ∀ a0 a1 k, LeO (library_Count.f k a0 a1) (library_Count.f (k + 1) a0 a1) := by
  intro a0 a1 k
  have ih0 := library_Count.mono_l k
  unfold library_Count.f
  repeat' first
      | (with_reducible exact ih0 _ _ _ _)
      | (with_reducible exact LeO.refl _)
      | (with_reducible exact LeO.none _)
      | (with_reducible refine LeO.ite ?_ ?_)
      | (with_reducible refine LeO.bind ?_ (fun _ => ?_))
      | exact ih0 _ _ _ _
      | exact LeO.none _
      | refine LeO.ite ?_ ?_
      | refine LeO.bind ?_ (fun _ => ?_)
set_option maxHeartbeats 8000000 in
set_option maxRecDepth 100000 in
theorem library_Count.calls (k : Nat) (A0 : Option Addr) (c0 : Nat) (l0 : List (S37)) (a1 : Int) (r : Int) (w : World) (hr0 : Kd.C k37 w A0 l0.length l0) (hc0 : l0.length ≤ c0) (h : library_Count.f k l0 a1 = some r) :
    Calls Try.prog 16 #[.slice A0 l0.length c0, .int .i64 a1] w fun e w' => e = .returned (.int .i64 r) ∧ Below w.heap.size w w' := by
  have hu37 := Try.underlying37
  have HR0 := Aside0.mk hr0
  have HC0 := Aside0.mk hc0
  clear hr0 hc0
  have HB := Aside0.mk (Below.refl w.heap.size w)
  have H : (library_Count.l0 k a1 l0 (l0.length : Int) 0) = some r := h
  clear h
  have H' := Aside0.mk H
  clear H
  go_enter Try.func16, Try.ntmps16
  go_wp2
  go_loopg [9] k (fun kq v9 w' => ∃ (x9_1 : Int), v9 = .int .i64 x9_1 ∧ Aside0 (library_Count.l0 kq a1 l0 (l0.length : Int) x9_1 = some r) ∧ Aside0 (kq ≤ k) ∧ Aside0 (Below w.heap.size w w'))
  case atStart => exact ⟨(0), (by first | rfl | (simp; done) | (simp [*]; done)), H', ⟨Nat.le_refl _⟩, ⟨by repeat (first | (with_reducible first | exact HB.out | apply below_alloc | apply pw_below_drewN | apply below_drew1) | exact HB.out)⟩⟩
  case round =>
    clear H'
    try clear c1
    try clear p2
    obtain ⟨x9_1, rfl, HA, HK1, HB⟩ := hrel
    cases gk with
    | zero => exact absurd HA.out (by simp [library_Count.l0])
    | succ k1 =>
      have H := HA.out
      clear HA
      simp only [library_Count.l0] at H
      by_cases c3 : x9_1 < (l0.length : Int)
      · rw [if_pos c3] at H
        have c3b0 : decide (x9_1 < (l0.length : Int)) = true := decide_eq_true c3
        clear c3
        by_cases c4 : 0 ≤ x9_1
        · rw [if_pos c4] at H
          have c4b0 : decide (0 ≤ x9_1) = true := decide_eq_true c4
          clear c4
          by_cases c5 : x9_1 < (l0.length : Int)
          · rw [if_pos c5] at H
            have c5b0 : decide (x9_1 < (l0.length : Int)) = true := decide_eq_true c5
            clear c5
            by_cases c6 : ((rd_T37 l0 x9_1).f0) = a1
            · rw [if_pos c6] at H
              have c6b0 : (((rd_T37 l0 x9_1).f0) == a1) = true := beq_iff_eq.mpr c6
              have c6b1 : (((rd_T37 l0 x9_1).f0) != a1) = false := bne_eq_false_iff_eq.mpr c6
              clear c6
              obtain ⟨ji7, hji7⟩ : ∃ j_ : Int, (mx ((rd_T37 l0 x9_1).f1) 1) = j_ := ⟨_, rfl⟩
              replace H : (some (mn (ji7) 1024)) = some r := by first | (rw [hji7] at H; exact H) | (simp only [hji7] at H ⊢; exact H)
              have hji7_ : (if ((rd_T37 l0 x9_1).f1) < 1 then 1 else ((rd_T37 l0 x9_1).f1)) = ji7 := hji7
              obtain ⟨ji8, hji8⟩ : ∃ j_ : Int, (mn (ji7) 1024) = j_ := ⟨_, rfl⟩
              replace H : (some ji8) = some r := by first | (rw [hji8] at H; exact H) | (simp only [hji8] at H ⊢; exact H)
              have hji8_ : (if 1024 < (ji7) then 1024 else (ji7)) = ji8 := hji8
              obtain rfl := Option.some.inj H
              have p115 : 0 ≤ (x9_1 : Int) := of_decide_eq_true (by first | (with_reducible assumption) | assumption)
              have q115 : x9_1 < (l0.length : Int) := of_decide_eq_true (by first | (with_reducible assumption) | assumption)
              obtain ⟨ad115, e115, hx115_0, hx115_1⟩ := at_T37 HR0.out x9_1 p115 q115
              cases e115
              replace hx115_0 := (HB.out.cell (World.block_lt_of_cell? w _ hx115_0)).trans hx115_0
              replace hx115_1 := (HB.out.cell (World.block_lt_of_cell? w _ hx115_1)).trans hx115_1
              replace p115 := eq_true p115
              replace q115 := eq_true q115
              go_wp2_with (first | ((with_reducible refine gate_dst (N := 6) rfl ?_); refine box_event ?hg (N := 6) ?hd (cs := #[.int .i64 0, .int .i64 0]) (t := 37) ?hr ?_; (case hd => rfl); (case hg => rfl); (case hr => first | (go_simp; done) | (go_simp; rfl)); intro gb116 hg w9 hbox hb; have n0_ := Aside0.mk (below_step (by repeat (first | (with_reducible first | exact HB.out | apply below_alloc | apply pw_below_drewN | apply below_drew1) | exact HB.out)) hb); have n1_ := Aside0.mk (hbox); have n2_ := Aside0.mk ((by rw [hg]; exact (below_size (by repeat (first | (with_reducible first | exact HB.out | apply below_alloc | apply pw_below_drewN | apply below_drew1) | exact HB.out))) : w.heap.size ≤ gb116)); have n3_ := Aside0.mk ((by rw [hg]; exact (below_size (by repeat (first | (with_reducible first | exact HB.out | apply below_alloc | apply pw_below_drewN | apply below_drew1) | exact HB.out))) : w.heap.size ≤ gb116)); clear HB; have HB := n0_; have BK116 := n1_; have GW116 := n2_; have GE116 := n3_; clear n0_ n1_ n2_ n3_; clear hb hbox hg; have hcz10_0 : w9.cell? ⟨gb116, 0, none⟩ = some (.int .i64 0) := (blk_cell BK116.out 0).trans rfl; have hcz10_1 : w9.cell? ⟨gb116, 1, none⟩ = some (.int .i64 0) := (blk_cell BK116.out 1).trans rfl; have hfz10_0 := blk_frozen BK116.out 0; have hfz10_1 := blk_frozen BK116.out 1))
              go_ret
              exact ⟨by first | rfl | (simp [errW_none, errW_some] <;> rfl) | (simp only [← hji7, ← hji8]; first | rfl | (simp [errW_none, errW_some] <;> rfl)) | (simp [*, errW_none, errW_some] <;> rfl), by repeat (first | (with_reducible first | exact HB.out | apply below_alloc | apply pw_below_drewN | apply below_drew1 | refine below_set ?_ GE116.out) | exact HB.out)⟩
            · rw [if_neg c6] at H
              have c6b0 : (((rd_T37 l0 x9_1).f0) == a1) = false := beq_eq_false_iff_ne.mpr c6
              have c6b1 : (((rd_T37 l0 x9_1).f0) != a1) = true := bne_iff_ne.mpr c6
              have H' := Aside0.mk H
              clear H
              have p115 : 0 ≤ (x9_1 : Int) := of_decide_eq_true (by first | (with_reducible assumption) | assumption)
              have q115 : x9_1 < (l0.length : Int) := of_decide_eq_true (by first | (with_reducible assumption) | assumption)
              obtain ⟨ad115, e115, hx115_0, hx115_1⟩ := at_T37 HR0.out x9_1 p115 q115
              cases e115
              replace hx115_0 := (HB.out.cell (World.block_lt_of_cell? w _ hx115_0)).trans hx115_0
              replace hx115_1 := (HB.out.cell (World.block_lt_of_cell? w _ hx115_1)).trans hx115_1
              replace p115 := eq_true p115
              replace q115 := eq_true q115
              go_wp2_with (first | ((with_reducible refine gate_dst (N := 6) rfl ?_); refine box_event ?hg (N := 6) ?hd (cs := #[.int .i64 0, .int .i64 0]) (t := 37) ?hr ?_; (case hd => rfl); (case hg => rfl); (case hr => first | (go_simp; done) | (go_simp; rfl)); intro gb116 hg w11 hbox hb; have n0_ := Aside0.mk (below_step (by repeat (first | (with_reducible first | exact HB.out | apply below_alloc | apply pw_below_drewN | apply below_drew1) | exact HB.out)) hb); have n1_ := Aside0.mk (hbox); have n2_ := Aside0.mk ((by rw [hg]; exact (below_size (by repeat (first | (with_reducible first | exact HB.out | apply below_alloc | apply pw_below_drewN | apply below_drew1) | exact HB.out))) : w.heap.size ≤ gb116)); have n3_ := Aside0.mk ((by rw [hg]; exact (below_size (by repeat (first | (with_reducible first | exact HB.out | apply below_alloc | apply pw_below_drewN | apply below_drew1) | exact HB.out))) : w.heap.size ≤ gb116)); clear HB; have HB := n0_; have BK116 := n1_; have GW116 := n2_; have GE116 := n3_; clear n0_ n1_ n2_ n3_; clear hb hbox hg; have hcz12_0 : w11.cell? ⟨gb116, 0, none⟩ = some (.int .i64 0) := (blk_cell BK116.out 0).trans rfl; have hcz12_1 : w11.cell? ⟨gb116, 1, none⟩ = some (.int .i64 0) := (blk_cell BK116.out 1).trans rfl; have hfz12_0 := blk_frozen BK116.out 0; have hfz12_1 := blk_frozen BK116.out 1))
              go_roundg k1
              case measure => have := HK1.out; omega
              case rel => exact ⟨(wrap64 (x9_1 + 1)), (by first | rfl | (simp; done) | (simp [*]; done)), H', ⟨by have := HK1.out; omega⟩, ⟨by repeat (first | (with_reducible first | exact HB.out | apply below_alloc | apply pw_below_drewN | apply below_drew1 | refine below_set ?_ GE116.out) | exact HB.out)⟩⟩
          · rw [if_neg c5] at H
            exact absurd H (by simp)
        · rw [if_neg c4] at H
          exact absurd H (by simp)
      · rw [if_neg c3] at H
        have c3b0 : decide (x9_1 < (l0.length : Int)) = false := decide_eq_false c3
        clear c3
        obtain rfl := Option.some.inj H
        go_wp2
        go_ret
        exact ⟨by first | rfl | (simp [errW_none, errW_some] <;> rfl) | (simp [*, errW_none, errW_some] <;> rfl), by repeat (first | (with_reducible first | exact HB.out | apply below_alloc | apply pw_below_drewN | apply below_drew1) | exact HB.out)⟩

/-! ### jacquardlaw27_LibraryCounts: function 6 -/
def jacquardlaw27_LibraryCounts.l0 : Nat → List (S37) → Int → Int → Int → Option (Bool)
  | 0, _, _, _, _ => none
  | k + 1, x0, x1, x5, x6 => if x6 ≥ 0 then (if 0 ≤ x6 then (if x6 < (x0.length : Int) then (if ((rd_T37 x0 x6).f0) = x1 then (jacquardlaw27_LibraryCounts.l0 k x0 x1 (mn (mx ((rd_T37 x0 x6).f1) 1) 1024) (wrap64 (x6 - 1))) else (jacquardlaw27_LibraryCounts.l0 k x0 x1 x5 (wrap64 (x6 - 1)))) else (none)) else (none)) else ((library_Count.f k x0 x1).bind fun t120 => (some (t120 == x5)))
def jacquardlaw27_LibraryCounts.f (k : Nat) (l0 : List (S37)) (a1 : Int) : Option (Bool) := (jacquardlaw27_awake.f k).bind fun t117 => (if t117 = true then (jacquardlaw27_LibraryCounts.l0 k l0 a1 1024 (wrap64 ((l0.length : Int) - 1))) else (some false))
theorem jacquardlaw27_LibraryCounts.mono_l : ∀ k, (∀ y0 y1 y2 y3, LeO (jacquardlaw27_LibraryCounts.l0 k y0 y1 y2 y3) (jacquardlaw27_LibraryCounts.l0 (k + 1) y0 y1 y2 y3))
  | 0 => fun _ _ _ _ r h => by simp [jacquardlaw27_LibraryCounts.l0] at h
  | k + 1 => by
    have ih0 := jacquardlaw27_LibraryCounts.mono_l k
    · intro y0 y1 y2 y3
      unfold jacquardlaw27_LibraryCounts.l0
      repeat' first
      | (with_reducible exact ih0 _ _ _ _)
      | (with_reducible exact jacquardlaw27_awake.mono _)
      | (with_reducible exact library_Count.mono _ _ _)
      | (with_reducible exact LeO.refl _)
      | (with_reducible exact LeO.none _)
      | (with_reducible refine LeO.ite ?_ ?_)
      | (with_reducible refine LeO.bind ?_ (fun _ => ?_))
      | exact ih0 _ _ _ _
      | exact jacquardlaw27_awake.mono _
      | exact library_Count.mono _ _ _
      | exact LeO.none _
      | refine LeO.ite ?_ ?_
      | refine LeO.bind ?_ (fun _ => ?_)
theorem jacquardlaw27_LibraryCounts.mono : ∀ a0 a1 k, LeO (jacquardlaw27_LibraryCounts.f k a0 a1) (jacquardlaw27_LibraryCounts.f (k + 1) a0 a1) := by
  intro a0 a1 k
  have ih0 := jacquardlaw27_LibraryCounts.mono_l k
  unfold jacquardlaw27_LibraryCounts.f
  repeat' first
      | (with_reducible exact ih0 _ _ _ _)
      | (with_reducible exact jacquardlaw27_awake.mono _)
      | (with_reducible exact library_Count.mono _ _ _)
      | (with_reducible exact LeO.refl _)
      | (with_reducible exact LeO.none _)
      | (with_reducible refine LeO.ite ?_ ?_)
      | (with_reducible refine LeO.bind ?_ (fun _ => ?_))
      | exact ih0 _ _ _ _
      | exact jacquardlaw27_awake.mono _
      | exact library_Count.mono _ _ _
      | exact LeO.none _
      | refine LeO.ite ?_ ?_
      | refine LeO.bind ?_ (fun _ => ?_)
set_option maxHeartbeats 8000000 in
set_option maxRecDepth 100000 in
theorem jacquardlaw27_LibraryCounts.calls (k : Nat) (A0 : Option Addr) (c0 : Nat) (l0 : List (S37)) (a1 : Int) (r : Bool) (w : World) (hr0 : Kd.C k37 w A0 l0.length l0) (hc0 : l0.length ≤ c0) (h : jacquardlaw27_LibraryCounts.f k l0 a1 = some r) (hr_ : r = true) :
    Calls Try.prog 6 #[.slice A0 l0.length c0, .int .i64 a1] w fun e w' => e = .returned (.bool r) ∧ Below w.heap.size w w' := by
  have HR0 := Aside0.mk hr0
  have HC0 := Aside0.mk hc0
  clear hr0 hc0
  have HB := Aside0.mk (Below.refl w.heap.size w)
  have HRT_ := Aside0.mk hr_
  clear hr_
  have H : ((jacquardlaw27_awake.f k).bind fun t117 => (if t117 = true then (jacquardlaw27_LibraryCounts.l0 k l0 a1 1024 (wrap64 ((l0.length : Int) - 1))) else (some false))) = some r := h
  clear h
  replace H := Option.bind_eq_some_iff.mp H
  obtain ⟨t117, A30, H⟩ := H
  replace H : (if t117 = true then (jacquardlaw27_LibraryCounts.l0 k l0 a1 1024 (wrap64 ((l0.length : Int) - 1))) else (some false)) = some r := H
  have A3 := Aside0.mk A30
  clear A30
  by_cases c4 : t117 = true
  · subst c4
    have H1 : (jacquardlaw27_LibraryCounts.l0 k l0 a1 1024 (wrap64 ((l0.length : Int) - 1))) = some r := by rw [if_pos rfl] at H; exact H
    clear H
    have H := H1
    clear H1
    have H' := Aside0.mk H
    clear H
    go_enter Try.func6, Try.ntmps6
    go_wp2_with (first | ((with_reducible refine gate_callee (f := 10) rfl ?_); refine goesL_ (some 7) rfl rfl Try.func10 (by kernel_rfl) rfl #[] rfl (by (try simp only [List.map_toArray, List.map_cons, List.map_nil]); first | done | rfl | (simp only [List.length_drop, List.length_take]; rfl)) ?_; (with_reducible refine (jacquardlaw27_awake.calls k  true _ A3.out).mono ?_); rintro e w5 ⟨rfl, hb⟩; refine ⟨_, rfl, ?_⟩; have n0_ := Aside0.mk (below_step (by repeat (first | (with_reducible first | exact HB.out | apply below_alloc | apply pw_below_drewN | apply below_drew1) | exact HB.out)) hb); clear HB; have HB := n0_; clear n0_; (try clear hb); (try clear hb2); (try clear hk); (try clear hi)))
    go_loopg [5, 6] k (fun kq v5 v6 w' => ∃ (x5_1 : Int) (x6_1 : Int), v5 = .int .i64 x5_1 ∧ v6 = .int .i64 x6_1 ∧ Aside0 (jacquardlaw27_LibraryCounts.l0 kq l0 a1 x5_1 x6_1 = some r) ∧ Aside0 (kq ≤ k) ∧ Aside0 (Below w.heap.size w w'))
    case atStart => exact ⟨(1024), (wrap64 ((l0.length : Int) - 1)), (by first | rfl | (simp; done) | (simp [*]; done)), (by first | rfl | (simp; done) | (simp [*]; done)), H', ⟨Nat.le_refl _⟩, ⟨by repeat (first | (with_reducible first | exact HB.out | apply below_alloc | apply pw_below_drewN | apply below_drew1) | exact HB.out)⟩⟩
    case round =>
      clear H'
      try clear c1
      try clear p2
      try clear c4
      obtain ⟨x5_1, x6_1, rfl, rfl, HA, HK1, HB⟩ := hrel
      cases gk with
      | zero => exact absurd HA.out (by simp [jacquardlaw27_LibraryCounts.l0])
      | succ k1 =>
        have H := HA.out
        clear HA
        simp only [jacquardlaw27_LibraryCounts.l0] at H
        by_cases c6 : x6_1 ≥ 0
        · rw [if_pos c6] at H
          have c6b0 : decide (0 ≤ x6_1) = true := decide_eq_true c6
          clear c6
          by_cases c7 : 0 ≤ x6_1
          · rw [if_pos c7] at H
            have c7b0 : decide (0 ≤ x6_1) = true := decide_eq_true c7
            clear c7
            by_cases c8 : x6_1 < (l0.length : Int)
            · rw [if_pos c8] at H
              have c8b0 : decide (x6_1 < (l0.length : Int)) = true := decide_eq_true c8
              clear c8
              by_cases c9 : ((rd_T37 l0 x6_1).f0) = a1
              · rw [if_pos c9] at H
                have c9b0 : (((rd_T37 l0 x6_1).f0) == a1) = true := beq_iff_eq.mpr c9
                have c9b1 : (((rd_T37 l0 x6_1).f0) != a1) = false := bne_eq_false_iff_eq.mpr c9
                clear c9
                obtain ⟨ji10, hji10⟩ : ∃ j_ : Int, (mx ((rd_T37 l0 x6_1).f1) 1) = j_ := ⟨_, rfl⟩
                replace H : (jacquardlaw27_LibraryCounts.l0 k1 l0 a1 (mn (ji10) 1024) (wrap64 (x6_1 - 1))) = some r := by first | (rw [hji10] at H; exact H) | (simp only [hji10] at H ⊢; exact H)
                have hji10_ : (if ((rd_T37 l0 x6_1).f1) < 1 then 1 else ((rd_T37 l0 x6_1).f1)) = ji10 := hji10
                obtain ⟨ji11, hji11⟩ : ∃ j_ : Int, (mn (ji10) 1024) = j_ := ⟨_, rfl⟩
                replace H : (jacquardlaw27_LibraryCounts.l0 k1 l0 a1 ji11 (wrap64 (x6_1 - 1))) = some r := by first | (rw [hji11] at H; exact H) | (simp only [hji11] at H ⊢; exact H)
                have hji11_ : (if 1024 < (ji10) then 1024 else (ji10)) = ji11 := hji11
                have H' := Aside0.mk H
                clear H
                have p118 : 0 ≤ (x6_1 : Int) := of_decide_eq_true (by first | (with_reducible assumption) | assumption)
                have q118 : x6_1 < (l0.length : Int) := of_decide_eq_true (by first | (with_reducible assumption) | assumption)
                obtain ⟨ad118, e118, hx118_0, hx118_1⟩ := at_T37 HR0.out x6_1 p118 q118
                cases e118
                replace hx118_0 := (HB.out.cell (World.block_lt_of_cell? w _ hx118_0)).trans hx118_0
                replace hx118_1 := (HB.out.cell (World.block_lt_of_cell? w _ hx118_1)).trans hx118_1
                replace p118 := eq_true p118
                replace q118 := eq_true q118
                have p119 : 0 ≤ (x6_1 : Int) := of_decide_eq_true (by first | (with_reducible assumption) | assumption)
                have q119 : x6_1 < (l0.length : Int) := of_decide_eq_true (by first | (with_reducible assumption) | assumption)
                obtain ⟨ad119, e119, hx119_0, hx119_1⟩ := at_T37 HR0.out x6_1 p119 q119
                obtain rfl : ad118 = ad119 := (by injection e119)
                replace hx119_0 := (HB.out.cell (World.block_lt_of_cell? w _ hx119_0)).trans hx119_0
                replace hx119_1 := (HB.out.cell (World.block_lt_of_cell? w _ hx119_1)).trans hx119_1
                replace p119 := eq_true p119
                replace q119 := eq_true q119
                go_wp2
                go_roundg k1
                case measure => have := HK1.out; omega
                case rel => exact ⟨(ji11), (wrap64 (x6_1 - 1)), (by first | rfl | (simp; done) | (simp only [← hji11] <;> (first | rfl | simp)) | (simp [*]; done)), (by first | rfl | (simp; done) | (simp [*]; done)), H', ⟨by have := HK1.out; omega⟩, ⟨by repeat (first | (with_reducible first | exact HB.out | apply below_alloc | apply pw_below_drewN | apply below_drew1) | exact HB.out)⟩⟩
              · rw [if_neg c9] at H
                have c9b0 : (((rd_T37 l0 x6_1).f0) == a1) = false := beq_eq_false_iff_ne.mpr c9
                have c9b1 : (((rd_T37 l0 x6_1).f0) != a1) = true := bne_iff_ne.mpr c9
                have H' := Aside0.mk H
                clear H
                have p118 : 0 ≤ (x6_1 : Int) := of_decide_eq_true (by first | (with_reducible assumption) | assumption)
                have q118 : x6_1 < (l0.length : Int) := of_decide_eq_true (by first | (with_reducible assumption) | assumption)
                obtain ⟨ad118, e118, hx118_0, hx118_1⟩ := at_T37 HR0.out x6_1 p118 q118
                cases e118
                replace hx118_0 := (HB.out.cell (World.block_lt_of_cell? w _ hx118_0)).trans hx118_0
                replace hx118_1 := (HB.out.cell (World.block_lt_of_cell? w _ hx118_1)).trans hx118_1
                replace p118 := eq_true p118
                replace q118 := eq_true q118
                go_wp2
                go_roundg k1
                case measure => have := HK1.out; omega
                case rel => exact ⟨(x5_1), (wrap64 (x6_1 - 1)), (by first | rfl | (simp; done) | (simp [*]; done)), (by first | rfl | (simp; done) | (simp [*]; done)), H', ⟨by have := HK1.out; omega⟩, ⟨by repeat (first | (with_reducible first | exact HB.out | apply below_alloc | apply pw_below_drewN | apply below_drew1) | exact HB.out)⟩⟩
            · rw [if_neg c8] at H
              exact absurd H (by simp)
          · rw [if_neg c7] at H
            exact absurd H (by simp)
        · rw [if_neg c6] at H
          have c6b0 : decide (0 ≤ x6_1) = false := decide_eq_false c6
          clear c6
          replace H := Option.bind_eq_some_iff.mp H
          obtain ⟨t120, A120, H⟩ := H
          replace H : (some (t120 == x5_1)) = some r := H
          have A12 := Aside0.mk A120
          clear A120
          obtain rfl := Option.some.inj H
          go_wp2_with (first | ((with_reducible refine gate_callee (f := 16) rfl ?_); refine goesL_ (some 32) rfl rfl Try.func16 (by kernel_rfl) rfl #[.slice A0 l0.length c0, .int .i64 a1] rfl (by (try simp only [List.map_toArray, List.map_cons, List.map_nil]); first | done | rfl | (simp only [List.length_drop, List.length_take]; rfl)) ?_; (with_reducible refine (library_Count.calls k1 _ _ l0 a1 t120 _ ?side1 ?side2 A12.out).mono ?_); (case side1 => repeat (first | exact (Kd.C_below HR0.out HB.out) | (with_reducible refine Kd.C_alloc ?_ _) | (with_reducible refine Kd.C_drewN ?_ _) | (with_reducible refine Kd.C_drew ?_))); (case side2 => exact HC0.out); rintro e w13 ⟨rfl, hb⟩; refine ⟨_, rfl, ?_⟩; have n0_ := Aside0.mk (below_step (by repeat (first | (with_reducible first | exact HB.out | apply below_alloc | apply pw_below_drewN | apply below_drew1) | exact HB.out)) hb); clear HB; have HB := n0_; clear n0_; (try clear hb); (try clear hb2); (try clear hk); (try clear hi)))
          go_ret
          exact ⟨by first | rfl | (simp [errW_none, errW_some] <;> rfl) | (simp [*, errW_none, errW_some] <;> rfl), by repeat (first | (with_reducible first | exact HB.out | apply below_alloc | apply pw_below_drewN | apply below_drew1) | exact HB.out)⟩
  · replace c4 := Bool.eq_false_iff.mpr c4
    subst c4
    have H1 : (some false) = some r := by rw [if_neg (show ¬ (false = true) by decide)] at H; exact H
    clear H
    have H := H1
    clear H1
    exact absurd ((Option.some.inj H).trans HRT_.out) Bool.false_ne_true

/-! ### jacquardlaw27_LibraryGrows: function 4 -/
def jacquardlaw27_LibraryGrows.f (k : Nat) (a0 : Int) (a1 : Int) (a2 : Int) : Option (Bool) := (jacquardlaw27_awake.f k).bind fun t121 => (if t121 = true then ((library_Of.f k a0 (mn (wrap64 (1 + (Int.tmod (wrap64 (a1)) 64))) (wrap64 (1 + (Int.tmod (wrap64 (a2)) 64))))).bind fun bt122 => ((library_Of.f k a0 (mx (wrap64 (1 + (Int.tmod (wrap64 (a1)) 64))) (wrap64 (1 + (Int.tmod (wrap64 (a2)) 64))))).bind fun bt130 => (if bt122.2.2.2.2.2.2 = bt130.2.2.2.2.2.2 then (if bt122.1 = bt130.1 then (if bt122.2.2.1 ≤ bt130.2.2.1 then (if bt122.2.2.2.1 ≤ bt130.2.2.2.1 then (if bt122.2.2.2.2.1 ≤ bt130.2.2.2.2.1 then (if bt122.2.2.2.2.2.1 ≤ bt130.2.2.2.2.2.1 then (if ((bt122.2.2.2.1 == 0) == (bt122.1 == 0)) = true then (some (decide (bt122.2.2.2.2.1 ≤ bt122.2.2.2.1))) else (some false)) else (some false)) else (some false)) else (some false)) else (some false)) else (some false)) else (some false)))) else (some false))
theorem jacquardlaw27_LibraryGrows.mono : ∀ a0 a1 a2 k, LeO (jacquardlaw27_LibraryGrows.f k a0 a1 a2) (jacquardlaw27_LibraryGrows.f (k + 1) a0 a1 a2) := by
  intro a0 a1 a2 k
  unfold jacquardlaw27_LibraryGrows.f
  repeat' first
      | (with_reducible exact jacquardlaw27_awake.mono _)
      | (with_reducible exact library_Of.mono _ _ _)
      | (with_reducible exact LeO.refl _)
      | (with_reducible exact LeO.none _)
      | (with_reducible refine LeO.ite ?_ ?_)
      | (with_reducible refine LeO.bind ?_ (fun _ => ?_))
      | exact jacquardlaw27_awake.mono _
      | exact library_Of.mono _ _ _
      | exact LeO.none _
      | refine LeO.ite ?_ ?_
      | refine LeO.bind ?_ (fun _ => ?_)
set_option maxHeartbeats 8000000 in
set_option maxRecDepth 100000 in
theorem jacquardlaw27_LibraryGrows.calls (k : Nat) (a0 : Int) (a1 : Int) (a2 : Int) (r : Bool) (w : World) (h : jacquardlaw27_LibraryGrows.f k a0 a1 a2 = some r) (hr_ : r = true) :
    Calls Try.prog 4 #[.int .i64 a0, .int .u8 a1, .int .u8 a2] w fun e w' => e = .returned (.bool r) ∧ Below w.heap.size w w' := by
  have hu24 := Try.underlying24
  have HB := Aside0.mk (Below.refl w.heap.size w)
  have HRT_ := Aside0.mk hr_
  clear hr_
  have H : ((jacquardlaw27_awake.f k).bind fun t121 => (if t121 = true then ((library_Of.f k a0 (mn (wrap64 (1 + (Int.tmod (wrap64 (a1)) 64))) (wrap64 (1 + (Int.tmod (wrap64 (a2)) 64))))).bind fun bt122 => ((library_Of.f k a0 (mx (wrap64 (1 + (Int.tmod (wrap64 (a1)) 64))) (wrap64 (1 + (Int.tmod (wrap64 (a2)) 64))))).bind fun bt130 => (if bt122.2.2.2.2.2.2 = bt130.2.2.2.2.2.2 then (if bt122.1 = bt130.1 then (if bt122.2.2.1 ≤ bt130.2.2.1 then (if bt122.2.2.2.1 ≤ bt130.2.2.2.1 then (if bt122.2.2.2.2.1 ≤ bt130.2.2.2.2.1 then (if bt122.2.2.2.2.2.1 ≤ bt130.2.2.2.2.2.1 then (if ((bt122.2.2.2.1 == 0) == (bt122.1 == 0)) = true then (some (decide (bt122.2.2.2.2.1 ≤ bt122.2.2.2.1))) else (some false)) else (some false)) else (some false)) else (some false)) else (some false)) else (some false)) else (some false)))) else (some false))) = some r := h
  clear h
  replace H := Option.bind_eq_some_iff.mp H
  obtain ⟨t121, A40, H⟩ := H
  replace H : (if t121 = true then ((library_Of.f k a0 (mn (wrap64 (1 + (Int.tmod (wrap64 (a1)) 64))) (wrap64 (1 + (Int.tmod (wrap64 (a2)) 64))))).bind fun bt122 => ((library_Of.f k a0 (mx (wrap64 (1 + (Int.tmod (wrap64 (a1)) 64))) (wrap64 (1 + (Int.tmod (wrap64 (a2)) 64))))).bind fun bt130 => (if bt122.2.2.2.2.2.2 = bt130.2.2.2.2.2.2 then (if bt122.1 = bt130.1 then (if bt122.2.2.1 ≤ bt130.2.2.1 then (if bt122.2.2.2.1 ≤ bt130.2.2.2.1 then (if bt122.2.2.2.2.1 ≤ bt130.2.2.2.2.1 then (if bt122.2.2.2.2.2.1 ≤ bt130.2.2.2.2.2.1 then (if ((bt122.2.2.2.1 == 0) == (bt122.1 == 0)) = true then (some (decide (bt122.2.2.2.2.1 ≤ bt122.2.2.2.1))) else (some false)) else (some false)) else (some false)) else (some false)) else (some false)) else (some false)) else (some false)))) else (some false)) = some r := H
  have A4 := Aside0.mk A40
  clear A40
  by_cases c5 : t121 = true
  · subst c5
    have H1 : ((library_Of.f k a0 (mn (wrap64 (1 + (Int.tmod (wrap64 (a1)) 64))) (wrap64 (1 + (Int.tmod (wrap64 (a2)) 64))))).bind fun bt122 => ((library_Of.f k a0 (mx (wrap64 (1 + (Int.tmod (wrap64 (a1)) 64))) (wrap64 (1 + (Int.tmod (wrap64 (a2)) 64))))).bind fun bt130 => (if bt122.2.2.2.2.2.2 = bt130.2.2.2.2.2.2 then (if bt122.1 = bt130.1 then (if bt122.2.2.1 ≤ bt130.2.2.1 then (if bt122.2.2.2.1 ≤ bt130.2.2.2.1 then (if bt122.2.2.2.2.1 ≤ bt130.2.2.2.2.1 then (if bt122.2.2.2.2.2.1 ≤ bt130.2.2.2.2.2.1 then (if ((bt122.2.2.2.1 == 0) == (bt122.1 == 0)) = true then (some (decide (bt122.2.2.2.2.1 ≤ bt122.2.2.2.1))) else (some false)) else (some false)) else (some false)) else (some false)) else (some false)) else (some false)) else (some false)))) = some r := by rw [if_pos rfl] at H; exact H
    clear H
    have H := H1
    clear H1
    obtain ⟨ji6, hji6⟩ : ∃ j_ : Int, (mn (wrap64 (1 + (Int.tmod (wrap64 (a1)) 64))) (wrap64 (1 + (Int.tmod (wrap64 (a2)) 64)))) = j_ := ⟨_, rfl⟩
    replace H : ((library_Of.f k a0 (ji6)).bind fun bt122 => ((library_Of.f k a0 (mx (wrap64 (1 + (Int.tmod (wrap64 (a1)) 64))) (wrap64 (1 + (Int.tmod (wrap64 (a2)) 64))))).bind fun bt130 => (if bt122.2.2.2.2.2.2 = bt130.2.2.2.2.2.2 then (if bt122.1 = bt130.1 then (if bt122.2.2.1 ≤ bt130.2.2.1 then (if bt122.2.2.2.1 ≤ bt130.2.2.2.1 then (if bt122.2.2.2.2.1 ≤ bt130.2.2.2.2.1 then (if bt122.2.2.2.2.2.1 ≤ bt130.2.2.2.2.2.1 then (if ((bt122.2.2.2.1 == 0) == (bt122.1 == 0)) = true then (some (decide (bt122.2.2.2.2.1 ≤ bt122.2.2.2.1))) else (some false)) else (some false)) else (some false)) else (some false)) else (some false)) else (some false)) else (some false)))) = some r := by first | (rw [hji6] at H; exact H) | (simp only [hji6] at H ⊢; exact H)
    (try rw [hji6] at A4)
    have hji6_ : (if (wrap64 (1 + (Int.tmod (wrap64 (a2)) 64))) < (wrap64 (1 + (Int.tmod (wrap64 (a1)) 64))) then (wrap64 (1 + (Int.tmod (wrap64 (a2)) 64))) else (wrap64 (1 + (Int.tmod (wrap64 (a1)) 64)))) = ji6 := hji6
    replace H := Option.bind_eq_some_iff.mp H
    obtain ⟨⟨t122, t123, t124, t125, t126, t127, t128⟩, A70, H⟩ := H
    replace H : ((library_Of.f k a0 (mx (wrap64 (1 + (Int.tmod (wrap64 (a1)) 64))) (wrap64 (1 + (Int.tmod (wrap64 (a2)) 64))))).bind fun bt130 => (if t128 = bt130.2.2.2.2.2.2 then (if t122 = bt130.1 then (if t124 ≤ bt130.2.2.1 then (if t125 ≤ bt130.2.2.2.1 then (if t126 ≤ bt130.2.2.2.2.1 then (if t127 ≤ bt130.2.2.2.2.2.1 then (if ((t125 == 0) == (t122 == 0)) = true then (some (decide (t126 ≤ t125))) else (some false)) else (some false)) else (some false)) else (some false)) else (some false)) else (some false)) else (some false))) = some r := H
    have A7 := Aside0.mk A70
    clear A70
    obtain ⟨ji8, hji8⟩ : ∃ j_ : Int, (mx (wrap64 (1 + (Int.tmod (wrap64 (a1)) 64))) (wrap64 (1 + (Int.tmod (wrap64 (a2)) 64)))) = j_ := ⟨_, rfl⟩
    replace H : ((library_Of.f k a0 (ji8)).bind fun bt130 => (if t128 = bt130.2.2.2.2.2.2 then (if t122 = bt130.1 then (if t124 ≤ bt130.2.2.1 then (if t125 ≤ bt130.2.2.2.1 then (if t126 ≤ bt130.2.2.2.2.1 then (if t127 ≤ bt130.2.2.2.2.2.1 then (if ((t125 == 0) == (t122 == 0)) = true then (some (decide (t126 ≤ t125))) else (some false)) else (some false)) else (some false)) else (some false)) else (some false)) else (some false)) else (some false))) = some r := by first | (rw [hji8] at H; exact H) | (simp only [hji8] at H ⊢; exact H)
    (try rw [hji8] at A4)
    (try rw [hji8] at A7)
    have hji8_ : (if (wrap64 (1 + (Int.tmod (wrap64 (a1)) 64))) < (wrap64 (1 + (Int.tmod (wrap64 (a2)) 64))) then (wrap64 (1 + (Int.tmod (wrap64 (a2)) 64))) else (wrap64 (1 + (Int.tmod (wrap64 (a1)) 64)))) = ji8 := hji8
    replace H := Option.bind_eq_some_iff.mp H
    obtain ⟨⟨t130, t131, t132, t133, t134, t135, t136⟩, A90, H⟩ := H
    replace H : (if t128 = t136 then (if t122 = t130 then (if t124 ≤ t132 then (if t125 ≤ t133 then (if t126 ≤ t134 then (if t127 ≤ t135 then (if ((t125 == 0) == (t122 == 0)) = true then (some (decide (t126 ≤ t125))) else (some false)) else (some false)) else (some false)) else (some false)) else (some false)) else (some false)) else (some false)) = some r := H
    have A9 := Aside0.mk A90
    clear A90
    by_cases c10 : t128 = t136
    · rw [if_pos c10] at H
      have c10b0 : (t128 == t136) = true := beq_iff_eq.mpr c10
      have c10b1 : (t128 != t136) = false := bne_eq_false_iff_eq.mpr c10
      clear c10
      by_cases c11 : t122 = t130
      · rw [if_pos c11] at H
        have c11b0 : (t122 == t130) = true := beq_iff_eq.mpr c11
        have c11b1 : (t122 != t130) = false := bne_eq_false_iff_eq.mpr c11
        clear c11
        by_cases c12 : t124 ≤ t132
        · rw [if_pos c12] at H
          have c12b0 : decide (t124 ≤ t132) = true := decide_eq_true c12
          clear c12
          by_cases c13 : t125 ≤ t133
          · rw [if_pos c13] at H
            have c13b0 : decide (t125 ≤ t133) = true := decide_eq_true c13
            clear c13
            by_cases c14 : t126 ≤ t134
            · rw [if_pos c14] at H
              have c14b0 : decide (t126 ≤ t134) = true := decide_eq_true c14
              clear c14
              by_cases c15 : t127 ≤ t135
              · rw [if_pos c15] at H
                have c15b0 : decide (t127 ≤ t135) = true := decide_eq_true c15
                clear c15
                by_cases c16 : ((t125 == 0) == (t122 == 0)) = true
                · rw [if_pos c16] at H
                  have c16b0 : ((t125 == 0) == (t122 == 0)) = true := c16
                  (try (have c16b1 : decide ((t125 == 0) = (t122 == 0)) = true := by simpa using c16))
                  (try (have c16b2 : ((t125 == 0) == (t122 == 0)) = true := by simpa using c16))
                  clear c16
                  obtain rfl := Option.some.inj H
                  go_enter Try.func4, Try.ntmps4
                  go_wp2_with (first | ((with_reducible refine gate_callee (f := 10) rfl ?_); refine goesL_ (some 13) rfl rfl Try.func10 (by kernel_rfl) rfl #[] rfl (by (try simp only [List.map_toArray, List.map_cons, List.map_nil]); first | done | rfl | (simp only [List.length_drop, List.length_take]; rfl)) ?_; (with_reducible refine (jacquardlaw27_awake.calls k  true _ A4.out).mono ?_); rintro e w17 ⟨rfl, hb⟩; refine ⟨_, rfl, ?_⟩; have n0_ := Aside0.mk (below_step (by repeat (first | (with_reducible first | exact HB.out | apply below_alloc | apply pw_below_drewN | apply below_drew1) | exact HB.out)) hb); clear HB; have HB := n0_; clear n0_; (try clear hb); (try clear hb2); (try clear hk); (try clear hi)) | ((with_reducible refine gate_callee (f := 11) rfl ?_); refine goesL_ (some 28) rfl rfl Try.func11 (by kernel_rfl) rfl #[.int .i64 a0, .int .i64 ji6] rfl (by (try simp only [List.map_toArray, List.map_cons, List.map_nil]); first | done | (simp only [hji6]; rfl) | rfl | (simp only [List.length_drop, List.length_take]; rfl)) ?_; (with_reducible refine (library_Of.calls k a0 ji6 t122 t123 t124 t125 t126 t127 t128 _ A7.out).mono ?_); rintro e w18 ⟨rfl, hb⟩; refine ⟨_, rfl, ?_⟩; have n0_ := Aside0.mk (below_step (by repeat (first | (with_reducible first | exact HB.out | apply below_alloc | apply pw_below_drewN | apply below_drew1) | exact HB.out)) hb); clear HB; have HB := n0_; clear n0_; (try clear hb); (try clear hb2); (try clear hk); (try clear hi)) | ((with_reducible refine gate_dst (N := 9) rfl ?_); refine box_event ?hg (N := 9) ?hd (cs := #[.int .i64 0, .int .i64 0, .int .i64 0, .int .i64 0, .int .i64 0, .int .i64 0]) (t := 24) ?hr ?_; (case hd => rfl); (case hg => rfl); (case hr => first | (go_simp; done) | (go_simp; rfl)); intro gb129 hg w19 hbox hb; have n0_ := Aside0.mk (below_step (by repeat (first | (with_reducible first | exact HB.out | apply below_alloc | apply pw_below_drewN | apply below_drew1) | exact HB.out)) hb); have n1_ := Aside0.mk (hbox); have n2_ := Aside0.mk ((by rw [hg]; exact (below_size (by repeat (first | (with_reducible first | exact HB.out | apply below_alloc | apply pw_below_drewN | apply below_drew1) | exact HB.out))) : w.heap.size ≤ gb129)); have n3_ := Aside0.mk ((by rw [hg]; exact (below_size (by repeat (first | (with_reducible first | exact HB.out | apply below_alloc | apply pw_below_drewN | apply below_drew1) | exact HB.out))) : w.heap.size ≤ gb129)); clear HB; have HB := n0_; have BK129 := n1_; have GW129 := n2_; have GE129 := n3_; clear n0_ n1_ n2_ n3_; clear hb hbox hg; have hcz20_0 : w19.cell? ⟨gb129, 0, none⟩ = some (.int .i64 0) := (blk_cell BK129.out 0).trans rfl; have hcz20_1 : w19.cell? ⟨gb129, 1, none⟩ = some (.int .i64 0) := (blk_cell BK129.out 1).trans rfl; have hcz20_2 : w19.cell? ⟨gb129, 2, none⟩ = some (.int .i64 0) := (blk_cell BK129.out 2).trans rfl; have hcz20_3 : w19.cell? ⟨gb129, 3, none⟩ = some (.int .i64 0) := (blk_cell BK129.out 3).trans rfl; have hcz20_4 : w19.cell? ⟨gb129, 4, none⟩ = some (.int .i64 0) := (blk_cell BK129.out 4).trans rfl; have hcz20_5 : w19.cell? ⟨gb129, 5, none⟩ = some (.int .i64 0) := (blk_cell BK129.out 5).trans rfl; have hfz20_0 := blk_frozen BK129.out 0; have hfz20_1 := blk_frozen BK129.out 1; have hfz20_2 := blk_frozen BK129.out 2; have hfz20_3 := blk_frozen BK129.out 3; have hfz20_4 := blk_frozen BK129.out 4; have hfz20_5 := blk_frozen BK129.out 5) | ((with_reducible refine gate_callee (f := 11) rfl ?_); refine goesL_ (some 36) rfl rfl Try.func11 (by kernel_rfl) rfl #[.int .i64 a0, .int .i64 ji8] rfl (by (try simp only [List.map_toArray, List.map_cons, List.map_nil]); first | done | (simp only [hji8]; rfl) | rfl | (simp only [List.length_drop, List.length_take]; rfl)) ?_; (with_reducible refine (library_Of.calls k a0 ji8 t130 t131 t132 t133 t134 t135 t136 _ A9.out).mono ?_); rintro e w21 ⟨rfl, hb⟩; refine ⟨_, rfl, ?_⟩; have n0_ := Aside0.mk (blk_below (g := gb129) (o := .cells #[.int .i64 t122, .int .i64 t123, .int .i64 t124, .int .i64 t125, .int .i64 t126, .int .i64 t127] 24 (0, 0)) (by (with_reducible repeat (first | refine blk_drewN ?_ _ | refine blk_drew ?_ | refine blk_alloc ?_ _)); refine blk_put (cs := #[.int .i64 t122, .int .i64 t123, .int .i64 t124, .int .i64 t125, .int .i64 t126, .int .i64 0]) ?_ 5 _ rfl; (with_reducible repeat (first | refine blk_drewN ?_ _ | refine blk_drew ?_ | refine blk_alloc ?_ _)); refine blk_put (cs := #[.int .i64 t122, .int .i64 t123, .int .i64 t124, .int .i64 t125, .int .i64 0, .int .i64 0]) ?_ 4 _ rfl; (with_reducible repeat (first | refine blk_drewN ?_ _ | refine blk_drew ?_ | refine blk_alloc ?_ _)); refine blk_put (cs := #[.int .i64 t122, .int .i64 t123, .int .i64 t124, .int .i64 0, .int .i64 0, .int .i64 0]) ?_ 3 _ rfl; (with_reducible repeat (first | refine blk_drewN ?_ _ | refine blk_drew ?_ | refine blk_alloc ?_ _)); refine blk_put (cs := #[.int .i64 t122, .int .i64 t123, .int .i64 0, .int .i64 0, .int .i64 0, .int .i64 0]) ?_ 2 _ rfl; (with_reducible repeat (first | refine blk_drewN ?_ _ | refine blk_drew ?_ | refine blk_alloc ?_ _)); refine blk_put (cs := #[.int .i64 t122, .int .i64 0, .int .i64 0, .int .i64 0, .int .i64 0, .int .i64 0]) ?_ 1 _ rfl; (with_reducible repeat (first | refine blk_drewN ?_ _ | refine blk_drew ?_ | refine blk_alloc ?_ _)); refine blk_put (cs := #[.int .i64 0, .int .i64 0, .int .i64 0, .int .i64 0, .int .i64 0, .int .i64 0]) ?_ 0 _ rfl; (with_reducible repeat (first | refine blk_drewN ?_ _ | refine blk_drew ?_ | refine blk_alloc ?_ _)); exact BK129.out) hb); have n1_ := Aside0.mk (below_step (by repeat (first | (with_reducible first | exact HB.out | apply below_alloc | apply pw_below_drewN | apply below_drew1 | refine below_set ?_ GE129.out) | exact HB.out)) hb); clear BK129; clear HB; have BK129 := n0_; have HB := n1_; clear n0_ n1_; (try clear hb); (try clear hb2); (try clear hk); (try clear hi)) | ((with_reducible refine gate_dst (N := 11) rfl ?_); refine box_event ?hg (N := 11) ?hd (cs := #[.int .i64 0, .int .i64 0, .int .i64 0, .int .i64 0, .int .i64 0, .int .i64 0]) (t := 24) ?hr ?_; (case hd => rfl); (case hg => rfl); (case hr => first | (go_simp; done) | (go_simp; rfl)); intro gb137 hg w22 hbox hb; have n0_ := Aside0.mk (blk_below (g := gb129) (o := .cells #[.int .i64 t122, .int .i64 t123, .int .i64 t124, .int .i64 t125, .int .i64 t126, .int .i64 t127] 24 (0, 0)) (by (with_reducible repeat (first | refine blk_drewN ?_ _ | refine blk_drew ?_ | refine blk_alloc ?_ _)); exact BK129.out) hb); have n1_ := Aside0.mk (below_step (by repeat (first | (with_reducible first | exact HB.out | apply below_alloc | apply pw_below_drewN | apply below_drew1 | refine below_set ?_ GE129.out) | exact HB.out)) hb); have n2_ := Aside0.mk (hbox); have n3_ := Aside0.mk ((by rw [hg]; exact (below_size (by repeat (first | (with_reducible first | exact HB.out | apply below_alloc | apply pw_below_drewN | apply below_drew1 | refine below_set ?_ GE129.out) | exact HB.out))) : w.heap.size ≤ gb137)); have n4_ := Aside0.mk ((by rw [hg]; exact (below_size (by repeat (first | (with_reducible first | exact HB.out | apply below_alloc | apply pw_below_drewN | apply below_drew1 | refine below_set ?_ GE129.out) | exact HB.out))) : w.heap.size ≤ gb137)); have n5_ := Aside0.mk ((by rw [hg]; exact Nat.ne_of_lt (blk_lt (g := gb129) (o := .cells #[.int .i64 t122, .int .i64 t123, .int .i64 t124, .int .i64 t125, .int .i64 t126, .int .i64 t127] 24 (0, 0)) (by (with_reducible repeat (first | refine blk_drewN ?_ _ | refine blk_drew ?_ | refine blk_alloc ?_ _)); exact BK129.out)) : gb129 ≠ gb137)); have n6_ := Aside0.mk ((by rw [hg]; exact Nat.ne_of_gt (blk_lt (g := gb129) (o := .cells #[.int .i64 t122, .int .i64 t123, .int .i64 t124, .int .i64 t125, .int .i64 t126, .int .i64 t127] 24 (0, 0)) (by (with_reducible repeat (first | refine blk_drewN ?_ _ | refine blk_drew ?_ | refine blk_alloc ?_ _)); exact BK129.out)) : gb137 ≠ gb129)); clear BK129; clear HB; have BK129 := n0_; have HB := n1_; have BK137 := n2_; have GW137 := n3_; have GE137 := n4_; have NB129_137 := n5_; have NB137_129 := n6_; clear n0_ n1_ n2_ n3_ n4_ n5_ n6_; clear hb hbox hg; have hnb23 := NB137_129.out; have hnc23 := NB129_137.out; have hcz24_0 : w22.cell? ⟨gb137, 0, none⟩ = some (.int .i64 0) := (blk_cell BK137.out 0).trans rfl; have hcz24_1 : w22.cell? ⟨gb137, 1, none⟩ = some (.int .i64 0) := (blk_cell BK137.out 1).trans rfl; have hcz24_2 : w22.cell? ⟨gb137, 2, none⟩ = some (.int .i64 0) := (blk_cell BK137.out 2).trans rfl; have hcz24_3 : w22.cell? ⟨gb137, 3, none⟩ = some (.int .i64 0) := (blk_cell BK137.out 3).trans rfl; have hcz24_4 : w22.cell? ⟨gb137, 4, none⟩ = some (.int .i64 0) := (blk_cell BK137.out 4).trans rfl; have hcz24_5 : w22.cell? ⟨gb137, 5, none⟩ = some (.int .i64 0) := (blk_cell BK137.out 5).trans rfl; have hfz24_0 := blk_frozen BK137.out 0; have hfz24_1 := blk_frozen BK137.out 1; have hfz24_2 := blk_frozen BK137.out 2; have hfz24_3 := blk_frozen BK137.out 3; have hfz24_4 := blk_frozen BK137.out 4; have hfz24_5 := blk_frozen BK137.out 5; have hcz25_0 : w22.cell? ⟨gb129, 0, none⟩ = some (.int .i64 t122) := (blk_cell BK129.out 0).trans rfl; have hcz25_1 : w22.cell? ⟨gb129, 1, none⟩ = some (.int .i64 t123) := (blk_cell BK129.out 1).trans rfl; have hcz25_2 : w22.cell? ⟨gb129, 2, none⟩ = some (.int .i64 t124) := (blk_cell BK129.out 2).trans rfl; have hcz25_3 : w22.cell? ⟨gb129, 3, none⟩ = some (.int .i64 t125) := (blk_cell BK129.out 3).trans rfl; have hcz25_4 : w22.cell? ⟨gb129, 4, none⟩ = some (.int .i64 t126) := (blk_cell BK129.out 4).trans rfl; have hcz25_5 : w22.cell? ⟨gb129, 5, none⟩ = some (.int .i64 t127) := (blk_cell BK129.out 5).trans rfl; have hfz25_0 := blk_frozen BK129.out 0; have hfz25_1 := blk_frozen BK129.out 1; have hfz25_2 := blk_frozen BK129.out 2; have hfz25_3 := blk_frozen BK129.out 3; have hfz25_4 := blk_frozen BK129.out 4; have hfz25_5 := blk_frozen BK129.out 5))
                  go_ret
                  exact ⟨by first | rfl | (simp [errW_none, errW_some] <;> rfl) | (simp only [← hji6, ← hji8]; first | rfl | (simp [errW_none, errW_some] <;> rfl)) | (simp [*, errW_none, errW_some] <;> rfl), by repeat (first | (with_reducible first | exact HB.out | apply below_alloc | apply pw_below_drewN | apply below_drew1 | refine below_set ?_ GE129.out | refine below_set ?_ GE137.out) | exact HB.out)⟩
                · rw [if_neg c16] at H
                  have c16b0 : ((t125 == 0) == (t122 == 0)) = false := by simpa using c16
                  (try (have c16b1 : decide ((t125 == 0) = (t122 == 0)) = false := by simpa using c16))
                  (try (have c16b2 : ((t125 == 0) == (t122 == 0)) = false := by simpa using c16))
                  (try (have c16b3 : ¬ ((t125 == 0) = (t122 == 0)) := by simpa using c16))
                  clear c16
                  exact absurd ((Option.some.inj H).trans HRT_.out) Bool.false_ne_true
              · rw [if_neg c15] at H
                have c15b0 : decide (t127 ≤ t135) = false := decide_eq_false c15
                clear c15
                exact absurd ((Option.some.inj H).trans HRT_.out) Bool.false_ne_true
            · rw [if_neg c14] at H
              have c14b0 : decide (t126 ≤ t134) = false := decide_eq_false c14
              clear c14
              exact absurd ((Option.some.inj H).trans HRT_.out) Bool.false_ne_true
          · rw [if_neg c13] at H
            have c13b0 : decide (t125 ≤ t133) = false := decide_eq_false c13
            clear c13
            exact absurd ((Option.some.inj H).trans HRT_.out) Bool.false_ne_true
        · rw [if_neg c12] at H
          have c12b0 : decide (t124 ≤ t132) = false := decide_eq_false c12
          clear c12
          exact absurd ((Option.some.inj H).trans HRT_.out) Bool.false_ne_true
      · rw [if_neg c11] at H
        have c11b0 : (t122 == t130) = false := beq_eq_false_iff_ne.mpr c11
        have c11b1 : (t122 != t130) = true := bne_iff_ne.mpr c11
        exact absurd ((Option.some.inj H).trans HRT_.out) Bool.false_ne_true
    · rw [if_neg c10] at H
      have c10b0 : (t128 == t136) = false := beq_eq_false_iff_ne.mpr c10
      have c10b1 : (t128 != t136) = true := bne_iff_ne.mpr c10
      exact absurd ((Option.some.inj H).trans HRT_.out) Bool.false_ne_true
  · replace c5 := Bool.eq_false_iff.mpr c5
    subst c5
    have H1 : (some false) = some r := by rw [if_neg (show ¬ (false = true) by decide)] at H; exact H
    clear H
    have H := H1
    clear H1
    exact absurd ((Option.some.inj H).trans HRT_.out) Bool.false_ne_true

/-- THE ONE PURE STATEMENT of jacquardlaw27_LibraryGrows: yours. -/
def jacquardlaw27_LibraryGrows.Pure : Prop := ∀ (a0 : Int) (a1 : Int) (a2 : Int), (Lit.int .i64 a0).wf = true → (Lit.int .u8 a1).wf = true → (Lit.int .u8 a2).wf = true → ∃ k, jacquardlaw27_LibraryGrows.f k a0 a1 a2 = some true
theorem jacquardlaw27_LibraryGrows.walk (P : jacquardlaw27_LibraryGrows.Pure) (a0 : Int) (a1 : Int) (a2 : Int) (w : World) (w0 : (Lit.int .i64 a0).wf = true) (w1 : (Lit.int .u8 a1).wf = true) (w2 : (Lit.int .u8 a2).wf = true) :
    Calls Try.prog 4 #[.int .i64 a0, .int .u8 a1, .int .u8 a2] w fun e w' => e = .returned (.bool true) ∧ Below w.heap.size w w' := by
  obtain ⟨k, h⟩ := P a0 a1 a2 w0 w1 w2
  refine (jacquardlaw27_LibraryGrows.calls k a0 a1 a2 true w h rfl).mono ?_
  rintro e w' ⟨rfl, hd⟩
  exact ⟨rfl, hd⟩

/-! ### jacquardlaw27_LibraryLevels: function 5 -/
def jacquardlaw27_LibraryLevels.f (k : Nat) (a0 : Int) : Option (Bool) := (jacquardlaw27_awake.f k).bind fun t138 => (if t138 = true then ((library_Levels.f k (wrap64 (1 + (wrap64 (Int.tmod a0 1099511627776))))).bind fun t139 => (if t139 ≥ 0 then (if t139 ≤ 40 then (if 0 ≤ t139 then (if (shl .i64 1 t139) ≥ (wrap64 (1 + (wrap64 (Int.tmod a0 1099511627776)))) then (if t139 = 0 then ((library_Levels.f k 0).bind fun t140 => (if t140 = 0 then ((library_Levels.f k (-5)).bind fun t141 => (some (t141 == 0))) else (some false))) else (if 0 ≤ (wrap64 (t139 - 1)) then (if (shl .i64 1 (wrap64 (t139 - 1))) < (wrap64 (1 + (wrap64 (Int.tmod a0 1099511627776)))) then ((library_Levels.f k 0).bind fun t142 => (if t142 = 0 then ((library_Levels.f k (-5)).bind fun t143 => (some (t143 == 0))) else (some false))) else (some false)) else (none))) else (some false)) else (none)) else (some false)) else (some false))) else (some false))
theorem jacquardlaw27_LibraryLevels.mono : ∀ a0 k, LeO (jacquardlaw27_LibraryLevels.f k a0) (jacquardlaw27_LibraryLevels.f (k + 1) a0) := by
  intro a0 k
  unfold jacquardlaw27_LibraryLevels.f
  repeat' first
      | (with_reducible exact jacquardlaw27_awake.mono _)
      | (with_reducible exact library_Levels.mono _ _)
      | (with_reducible exact LeO.refl _)
      | (with_reducible exact LeO.none _)
      | (with_reducible refine LeO.ite ?_ ?_)
      | (with_reducible refine LeO.bind ?_ (fun _ => ?_))
      | exact jacquardlaw27_awake.mono _
      | exact library_Levels.mono _ _
      | exact LeO.none _
      | refine LeO.ite ?_ ?_
      | refine LeO.bind ?_ (fun _ => ?_)
set_option maxHeartbeats 8000000 in
set_option maxRecDepth 100000 in
theorem jacquardlaw27_LibraryLevels.calls (k : Nat) (a0 : Int) (r : Bool) (w : World) (h : jacquardlaw27_LibraryLevels.f k a0 = some r) (hr_ : r = true) :
    Calls Try.prog 5 #[.int .u64 a0] w fun e w' => e = .returned (.bool r) ∧ Below w.heap.size w w' := by
  have HB := Aside0.mk (Below.refl w.heap.size w)
  have HRT_ := Aside0.mk hr_
  clear hr_
  have H : ((jacquardlaw27_awake.f k).bind fun t138 => (if t138 = true then ((library_Levels.f k (wrap64 (1 + (wrap64 (Int.tmod a0 1099511627776))))).bind fun t139 => (if t139 ≥ 0 then (if t139 ≤ 40 then (if 0 ≤ t139 then (if (shl .i64 1 t139) ≥ (wrap64 (1 + (wrap64 (Int.tmod a0 1099511627776)))) then (if t139 = 0 then ((library_Levels.f k 0).bind fun t140 => (if t140 = 0 then ((library_Levels.f k (-5)).bind fun t141 => (some (t141 == 0))) else (some false))) else (if 0 ≤ (wrap64 (t139 - 1)) then (if (shl .i64 1 (wrap64 (t139 - 1))) < (wrap64 (1 + (wrap64 (Int.tmod a0 1099511627776)))) then ((library_Levels.f k 0).bind fun t142 => (if t142 = 0 then ((library_Levels.f k (-5)).bind fun t143 => (some (t143 == 0))) else (some false))) else (some false)) else (none))) else (some false)) else (none)) else (some false)) else (some false))) else (some false))) = some r := h
  clear h
  replace H := Option.bind_eq_some_iff.mp H
  obtain ⟨t138, A20, H⟩ := H
  replace H : (if t138 = true then ((library_Levels.f k (wrap64 (1 + (wrap64 (Int.tmod a0 1099511627776))))).bind fun t139 => (if t139 ≥ 0 then (if t139 ≤ 40 then (if 0 ≤ t139 then (if (shl .i64 1 t139) ≥ (wrap64 (1 + (wrap64 (Int.tmod a0 1099511627776)))) then (if t139 = 0 then ((library_Levels.f k 0).bind fun t140 => (if t140 = 0 then ((library_Levels.f k (-5)).bind fun t141 => (some (t141 == 0))) else (some false))) else (if 0 ≤ (wrap64 (t139 - 1)) then (if (shl .i64 1 (wrap64 (t139 - 1))) < (wrap64 (1 + (wrap64 (Int.tmod a0 1099511627776)))) then ((library_Levels.f k 0).bind fun t142 => (if t142 = 0 then ((library_Levels.f k (-5)).bind fun t143 => (some (t143 == 0))) else (some false))) else (some false)) else (none))) else (some false)) else (none)) else (some false)) else (some false))) else (some false)) = some r := H
  have A2 := Aside0.mk A20
  clear A20
  by_cases c3 : t138 = true
  · subst c3
    have H1 : ((library_Levels.f k (wrap64 (1 + (wrap64 (Int.tmod a0 1099511627776))))).bind fun t139 => (if t139 ≥ 0 then (if t139 ≤ 40 then (if 0 ≤ t139 then (if (shl .i64 1 t139) ≥ (wrap64 (1 + (wrap64 (Int.tmod a0 1099511627776)))) then (if t139 = 0 then ((library_Levels.f k 0).bind fun t140 => (if t140 = 0 then ((library_Levels.f k (-5)).bind fun t141 => (some (t141 == 0))) else (some false))) else (if 0 ≤ (wrap64 (t139 - 1)) then (if (shl .i64 1 (wrap64 (t139 - 1))) < (wrap64 (1 + (wrap64 (Int.tmod a0 1099511627776)))) then ((library_Levels.f k 0).bind fun t142 => (if t142 = 0 then ((library_Levels.f k (-5)).bind fun t143 => (some (t143 == 0))) else (some false))) else (some false)) else (none))) else (some false)) else (none)) else (some false)) else (some false))) = some r := by rw [if_pos rfl] at H; exact H
    clear H
    have H := H1
    clear H1
    replace H := Option.bind_eq_some_iff.mp H
    obtain ⟨t139, A40, H⟩ := H
    replace H : (if t139 ≥ 0 then (if t139 ≤ 40 then (if 0 ≤ t139 then (if (shl .i64 1 t139) ≥ (wrap64 (1 + (wrap64 (Int.tmod a0 1099511627776)))) then (if t139 = 0 then ((library_Levels.f k 0).bind fun t140 => (if t140 = 0 then ((library_Levels.f k (-5)).bind fun t141 => (some (t141 == 0))) else (some false))) else (if 0 ≤ (wrap64 (t139 - 1)) then (if (shl .i64 1 (wrap64 (t139 - 1))) < (wrap64 (1 + (wrap64 (Int.tmod a0 1099511627776)))) then ((library_Levels.f k 0).bind fun t142 => (if t142 = 0 then ((library_Levels.f k (-5)).bind fun t143 => (some (t143 == 0))) else (some false))) else (some false)) else (none))) else (some false)) else (none)) else (some false)) else (some false)) = some r := H
    have A4 := Aside0.mk A40
    clear A40
    by_cases c5 : t139 ≥ 0
    · rw [if_pos c5] at H
      have c5b0 : decide (0 ≤ t139) = true := decide_eq_true c5
      clear c5
      by_cases c6 : t139 ≤ 40
      · rw [if_pos c6] at H
        have c6b0 : decide (t139 ≤ 40) = true := decide_eq_true c6
        clear c6
        by_cases c7 : 0 ≤ t139
        · rw [if_pos c7] at H
          have c7b0 := eq_true c7
          have c7b1 : decide (0 ≤ t139) = true := decide_eq_true c7
          clear c7
          obtain ⟨ji8, hji8⟩ : ∃ j_ : Int, (shl .i64 1 t139) = j_ := ⟨_, rfl⟩
          replace H : (if (ji8) ≥ (wrap64 (1 + (wrap64 (Int.tmod a0 1099511627776)))) then (if t139 = 0 then ((library_Levels.f k 0).bind fun t140 => (if t140 = 0 then ((library_Levels.f k (-5)).bind fun t141 => (some (t141 == 0))) else (some false))) else (if 0 ≤ (wrap64 (t139 - 1)) then (if (shl .i64 1 (wrap64 (t139 - 1))) < (wrap64 (1 + (wrap64 (Int.tmod a0 1099511627776)))) then ((library_Levels.f k 0).bind fun t142 => (if t142 = 0 then ((library_Levels.f k (-5)).bind fun t143 => (some (t143 == 0))) else (some false))) else (some false)) else (none))) else (some false)) = some r := by first | (rw [hji8] at H; exact H) | (simp only [hji8] at H ⊢; exact H)
          (try rw [hji8] at A2)
          (try rw [hji8] at A4)
          have hji8_ : (IntKind.i64.wrap (1 * 2 ^ min t139.toNat 64)) = ji8 := hji8
          have hji8z : t139 ≤ 64 → (IntKind.i64.wrap (1 * 2 ^ t139.toNat)) = ji8 := shl_small hji8
          have hji8u : (IntKind.i64.wrap (2 ^ min t139.toNat 64)) = ji8 := by have h_ := hji8_; rw [Int.one_mul] at h_; exact h_
          have hji8v : t139 ≤ 64 → (IntKind.i64.wrap (2 ^ t139.toNat)) = ji8 := fun hle_ => by have h_ := hji8z hle_; rw [Int.one_mul] at h_; exact h_
          have hji8y : (wrap64 (1 * 2 ^ min t139.toNat 64)) = ji8 := (i64_w _).symm.trans hji8_
          have hji8x : t139 ≤ 64 → (wrap64 (1 * 2 ^ t139.toNat)) = ji8 := fun h_ => (i64_w _).symm.trans (hji8z h_)
          (try (have hji8w := hji8x (by simp only [decide_eq_true_eq, decide_eq_false_iff_not] at *; omega); rw [Int.one_mul] at hji8w))
          by_cases c9 : (ji8) ≥ (wrap64 (1 + (wrap64 (Int.tmod a0 1099511627776))))
          · rw [if_pos c9] at H
            have c9b0 : decide ((wrap64 (1 + (wrap64 (Int.tmod a0 1099511627776)))) ≤ (ji8)) = true := decide_eq_true c9
            clear c9
            by_cases c10 : t139 = 0
            · rw [if_pos c10] at H
              have c10b0 : (t139 == 0) = true := beq_iff_eq.mpr c10
              have c10b1 : (t139 != 0) = false := bne_eq_false_iff_eq.mpr c10
              clear c10
              replace H := Option.bind_eq_some_iff.mp H
              obtain ⟨t140, A110, H⟩ := H
              replace H : (if t140 = 0 then ((library_Levels.f k (-5)).bind fun t141 => (some (t141 == 0))) else (some false)) = some r := H
              have A11 := Aside0.mk A110
              clear A110
              by_cases c12 : t140 = 0
              · rw [if_pos c12] at H
                have c12b0 : (t140 == 0) = true := beq_iff_eq.mpr c12
                have c12b1 : (t140 != 0) = false := bne_eq_false_iff_eq.mpr c12
                clear c12
                replace H := Option.bind_eq_some_iff.mp H
                obtain ⟨t141, A130, H⟩ := H
                replace H : (some (t141 == 0)) = some r := H
                have A13 := Aside0.mk A130
                clear A130
                obtain rfl := Option.some.inj H
                go_enter Try.func5, Try.ntmps5
                go_wp2_with (first | ((with_reducible refine gate_callee (f := 10) rfl ?_); refine goesL_ (some 5) rfl rfl Try.func10 (by kernel_rfl) rfl #[] rfl (by (try simp only [List.map_toArray, List.map_cons, List.map_nil]); first | done | rfl | (simp only [List.length_drop, List.length_take]; rfl)) ?_; (with_reducible refine (jacquardlaw27_awake.calls k  true _ A2.out).mono ?_); rintro e w14 ⟨rfl, hb⟩; refine ⟨_, rfl, ?_⟩; have n0_ := Aside0.mk (below_step (by repeat (first | (with_reducible first | exact HB.out | apply below_alloc | apply pw_below_drewN | apply below_drew1) | exact HB.out)) hb); clear HB; have HB := n0_; clear n0_; (try clear hb); (try clear hb2); (try clear hk); (try clear hi)) | ((with_reducible refine gate_callee (f := 15) rfl ?_); refine goesL_ (some 12) rfl rfl Try.func15 (by kernel_rfl) rfl #[.int .i64 (wrap64 (1 + (wrap64 (Int.tmod a0 1099511627776))))] rfl (by (try simp only [List.map_toArray, List.map_cons, List.map_nil]); first | done | rfl | (simp only [List.length_drop, List.length_take]; rfl)) ?_; (with_reducible refine (library_Levels.calls k (wrap64 (1 + (wrap64 (Int.tmod a0 1099511627776)))) t139 _ A4.out).mono ?_); rintro e w' ⟨rfl, ⟨nd, rfl⟩⟩; refine ⟨_, rfl, ?_⟩) | (go_at_call 15; (with_reducible refine (library_Levels.calls k 0 t140 _ A11.out).mono ?_); rintro e w' ⟨rfl, ⟨nd, rfl⟩⟩) | (go_at_call 15; (with_reducible refine (library_Levels.calls k (-5) t141 _ A13.out).mono ?_); rintro e w' ⟨rfl, ⟨nd, rfl⟩⟩))
                go_ret
                exact ⟨by first | rfl | (simp [errW_none, errW_some] <;> rfl) | (simp only [← hji8]; first | rfl | (simp [errW_none, errW_some] <;> rfl)) | (simp [*, errW_none, errW_some] <;> rfl), by repeat (first | (with_reducible first | exact HB.out | apply below_alloc | apply pw_below_drewN | apply below_drew1) | exact HB.out)⟩
              · rw [if_neg c12] at H
                have c12b0 : (t140 == 0) = false := beq_eq_false_iff_ne.mpr c12
                have c12b1 : (t140 != 0) = true := bne_iff_ne.mpr c12
                exact absurd ((Option.some.inj H).trans HRT_.out) Bool.false_ne_true
            · rw [if_neg c10] at H
              have c10b0 : (t139 == 0) = false := beq_eq_false_iff_ne.mpr c10
              have c10b1 : (t139 != 0) = true := bne_iff_ne.mpr c10
              obtain ⟨ji15, hji15⟩ : ∃ j_ : Int, (wrap64 (t139 - 1)) = j_ := ⟨_, rfl⟩
              replace H : (if 0 ≤ (ji15) then (if (shl .i64 1 (ji15)) < (wrap64 (1 + (wrap64 (Int.tmod a0 1099511627776)))) then ((library_Levels.f k 0).bind fun t142 => (if t142 = 0 then ((library_Levels.f k (-5)).bind fun t143 => (some (t143 == 0))) else (some false))) else (some false)) else (none)) = some r := by first | (rw [hji15] at H; exact H) | (simp only [hji15] at H ⊢; exact H)
              (try rw [hji15] at A2)
              (try rw [hji15] at A4)
              have hji15w : (IntKind.i64.wrap (t139 - 1)) = ji15 := (i64_w _).trans hji15
              by_cases c16 : 0 ≤ (ji15)
              · rw [if_pos c16] at H
                have c16b0 := eq_true c16
                have c16b1 : decide (0 ≤ (ji15)) = true := decide_eq_true c16
                clear c16
                obtain ⟨ji17, hji17⟩ : ∃ j_ : Int, (shl .i64 1 (ji15)) = j_ := ⟨_, rfl⟩
                replace H : (if (ji17) < (wrap64 (1 + (wrap64 (Int.tmod a0 1099511627776)))) then ((library_Levels.f k 0).bind fun t142 => (if t142 = 0 then ((library_Levels.f k (-5)).bind fun t143 => (some (t143 == 0))) else (some false))) else (some false)) = some r := by first | (rw [hji17] at H; exact H) | (simp only [hji17] at H ⊢; exact H)
                (try rw [hji17] at A2)
                (try rw [hji17] at A4)
                have hji17_ : (IntKind.i64.wrap (1 * 2 ^ min (ji15).toNat 64)) = ji17 := hji17
                have hji17z : (ji15) ≤ 64 → (IntKind.i64.wrap (1 * 2 ^ (ji15).toNat)) = ji17 := shl_small hji17
                have hji17u : (IntKind.i64.wrap (2 ^ min (ji15).toNat 64)) = ji17 := by have h_ := hji17_; rw [Int.one_mul] at h_; exact h_
                have hji17v : (ji15) ≤ 64 → (IntKind.i64.wrap (2 ^ (ji15).toNat)) = ji17 := fun hle_ => by have h_ := hji17z hle_; rw [Int.one_mul] at h_; exact h_
                have hji17y : (wrap64 (1 * 2 ^ min (ji15).toNat 64)) = ji17 := (i64_w _).symm.trans hji17_
                have hji17x : (ji15) ≤ 64 → (wrap64 (1 * 2 ^ (ji15).toNat)) = ji17 := fun h_ => (i64_w _).symm.trans (hji17z h_)
                (try (have hji17w := hji17x (by simp only [decide_eq_true_eq, decide_eq_false_iff_not] at *; omega); rw [Int.one_mul] at hji17w))
                by_cases c18 : (ji17) < (wrap64 (1 + (wrap64 (Int.tmod a0 1099511627776))))
                · rw [if_pos c18] at H
                  have c18b0 : decide ((ji17) < (wrap64 (1 + (wrap64 (Int.tmod a0 1099511627776))))) = true := decide_eq_true c18
                  clear c18
                  replace H := Option.bind_eq_some_iff.mp H
                  obtain ⟨t142, A190, H⟩ := H
                  replace H : (if t142 = 0 then ((library_Levels.f k (-5)).bind fun t143 => (some (t143 == 0))) else (some false)) = some r := H
                  have A19 := Aside0.mk A190
                  clear A190
                  by_cases c20 : t142 = 0
                  · rw [if_pos c20] at H
                    have c20b0 : (t142 == 0) = true := beq_iff_eq.mpr c20
                    have c20b1 : (t142 != 0) = false := bne_eq_false_iff_eq.mpr c20
                    clear c20
                    replace H := Option.bind_eq_some_iff.mp H
                    obtain ⟨t143, A210, H⟩ := H
                    replace H : (some (t143 == 0)) = some r := H
                    have A21 := Aside0.mk A210
                    clear A210
                    obtain rfl := Option.some.inj H
                    go_enter Try.func5, Try.ntmps5
                    go_wp2_with (first | ((with_reducible refine gate_callee (f := 10) rfl ?_); refine goesL_ (some 5) rfl rfl Try.func10 (by kernel_rfl) rfl #[] rfl (by (try simp only [List.map_toArray, List.map_cons, List.map_nil]); first | done | rfl | (simp only [List.length_drop, List.length_take]; rfl)) ?_; (with_reducible refine (jacquardlaw27_awake.calls k  true _ A2.out).mono ?_); rintro e w22 ⟨rfl, hb⟩; refine ⟨_, rfl, ?_⟩; have n0_ := Aside0.mk (below_step (by repeat (first | (with_reducible first | exact HB.out | apply below_alloc | apply pw_below_drewN | apply below_drew1) | exact HB.out)) hb); clear HB; have HB := n0_; clear n0_; (try clear hb); (try clear hb2); (try clear hk); (try clear hi)) | ((with_reducible refine gate_callee (f := 15) rfl ?_); refine goesL_ (some 12) rfl rfl Try.func15 (by kernel_rfl) rfl #[.int .i64 (wrap64 (1 + (wrap64 (Int.tmod a0 1099511627776))))] rfl (by (try simp only [List.map_toArray, List.map_cons, List.map_nil]); first | done | rfl | (simp only [List.length_drop, List.length_take]; rfl)) ?_; (with_reducible refine (library_Levels.calls k (wrap64 (1 + (wrap64 (Int.tmod a0 1099511627776)))) t139 _ A4.out).mono ?_); rintro e w' ⟨rfl, ⟨nd, rfl⟩⟩; refine ⟨_, rfl, ?_⟩) | (go_at_call 15; (with_reducible refine (library_Levels.calls k 0 t142 _ A19.out).mono ?_); rintro e w' ⟨rfl, ⟨nd, rfl⟩⟩) | (go_at_call 15; (with_reducible refine (library_Levels.calls k (-5) t143 _ A21.out).mono ?_); rintro e w' ⟨rfl, ⟨nd, rfl⟩⟩))
                    go_ret
                    exact ⟨by first | rfl | (simp [errW_none, errW_some] <;> rfl) | (simp only [← hji8, ← hji15, ← hji17]; first | rfl | (simp [errW_none, errW_some] <;> rfl)) | (simp [*, errW_none, errW_some] <;> rfl), by repeat (first | (with_reducible first | exact HB.out | apply below_alloc | apply pw_below_drewN | apply below_drew1) | exact HB.out)⟩
                  · rw [if_neg c20] at H
                    have c20b0 : (t142 == 0) = false := beq_eq_false_iff_ne.mpr c20
                    have c20b1 : (t142 != 0) = true := bne_iff_ne.mpr c20
                    exact absurd ((Option.some.inj H).trans HRT_.out) Bool.false_ne_true
                · rw [if_neg c18] at H
                  have c18b0 : decide ((ji17) < (wrap64 (1 + (wrap64 (Int.tmod a0 1099511627776))))) = false := decide_eq_false c18
                  clear c18
                  exact absurd ((Option.some.inj H).trans HRT_.out) Bool.false_ne_true
              · rw [if_neg c16] at H
                exact absurd H (by simp)
          · rw [if_neg c9] at H
            have c9b0 : decide ((wrap64 (1 + (wrap64 (Int.tmod a0 1099511627776)))) ≤ (ji8)) = false := decide_eq_false c9
            clear c9
            exact absurd ((Option.some.inj H).trans HRT_.out) Bool.false_ne_true
        · rw [if_neg c7] at H
          exact absurd H (by simp)
      · rw [if_neg c6] at H
        have c6b0 : decide (t139 ≤ 40) = false := decide_eq_false c6
        clear c6
        exact absurd ((Option.some.inj H).trans HRT_.out) Bool.false_ne_true
    · rw [if_neg c5] at H
      have c5b0 : decide (0 ≤ t139) = false := decide_eq_false c5
      clear c5
      exact absurd ((Option.some.inj H).trans HRT_.out) Bool.false_ne_true
  · replace c3 := Bool.eq_false_iff.mpr c3
    subst c3
    have H1 : (some false) = some r := by rw [if_neg (show ¬ (false = true) by decide)] at H; exact H
    clear H
    have H := H1
    clear H1
    exact absurd ((Option.some.inj H).trans HRT_.out) Bool.false_ne_true

/-- THE ONE PURE STATEMENT of jacquardlaw27_LibraryLevels: yours. -/
def jacquardlaw27_LibraryLevels.Pure : Prop := ∀ (a0 : Int), (Lit.int .u64 a0).wf = true → ∃ k, jacquardlaw27_LibraryLevels.f k a0 = some true
theorem jacquardlaw27_LibraryLevels.walk (P : jacquardlaw27_LibraryLevels.Pure) (a0 : Int) (w : World) (w0 : (Lit.int .u64 a0).wf = true) :
    Calls Try.prog 5 #[.int .u64 a0] w fun e w' => e = .returned (.bool true) ∧ Below w.heap.size w w' := by
  obtain ⟨k, h⟩ := P a0 w0
  refine (jacquardlaw27_LibraryLevels.calls k a0 true w h rfl).mono ?_
  rintro e w' ⟨rfl, hd⟩
  exact ⟨rfl, hd⟩

/-! ### jacquardref27_Levels: function 17 -/
def jacquardref27_Levels.l0 : Nat → Int → Int → Int → Option (Int)
  | 0, _, _, _ => none
  | k + 1, x0, x3, x4 => if x4 < x0 then (if x3 < 62 then (jacquardref27_Levels.l0 k x0 (wrap64 (x3 + 1)) (wrap64 (2 * x4))) else (some x3)) else (some x3)
def jacquardref27_Levels.f (k : Nat) (a0 : Int) : Option (Int) := jacquardref27_Levels.l0 k a0 0 1
theorem jacquardref27_Levels.mono_l : ∀ k, (∀ y0 y1 y2, LeO (jacquardref27_Levels.l0 k y0 y1 y2) (jacquardref27_Levels.l0 (k + 1) y0 y1 y2))
  | 0 => fun _ _ _ r h => by simp [jacquardref27_Levels.l0] at h
  | k + 1 => by
    have ih0 := jacquardref27_Levels.mono_l k
    · intro y0 y1 y2
      unfold jacquardref27_Levels.l0
      repeat' first
      | (with_reducible exact ih0 _ _ _)
      | (with_reducible exact LeO.refl _)
      | (with_reducible exact LeO.none _)
      | (with_reducible refine LeO.ite ?_ ?_)
      | (with_reducible refine LeO.bind ?_ (fun _ => ?_))
      | exact ih0 _ _ _
      | exact LeO.none _
      | refine LeO.ite ?_ ?_
      | refine LeO.bind ?_ (fun _ => ?_)
theorem jacquardref27_Levels.mono : ∀ a0 k, LeO (jacquardref27_Levels.f k a0) (jacquardref27_Levels.f (k + 1) a0) := by
  intro a0 k
  have ih0 := jacquardref27_Levels.mono_l k
  unfold jacquardref27_Levels.f
  repeat' first
      | (with_reducible exact ih0 _ _ _)
      | (with_reducible exact LeO.refl _)
      | (with_reducible exact LeO.none _)
      | (with_reducible refine LeO.ite ?_ ?_)
      | (with_reducible refine LeO.bind ?_ (fun _ => ?_))
      | exact ih0 _ _ _
      | exact LeO.none _
      | refine LeO.ite ?_ ?_
      | refine LeO.bind ?_ (fun _ => ?_)
set_option maxHeartbeats 8000000 in
set_option maxRecDepth 100000 in
theorem jacquardref27_Levels.calls (k : Nat) (a0 : Int) (r : Int) (w : World) (h : jacquardref27_Levels.f k a0 = some r) :
    Calls Try.prog 17 #[.int .i64 a0] w fun e w' => e = .returned (.int .i64 r) ∧ Drawn0 w w' := by
  have H : (jacquardref27_Levels.l0 k a0 0 1) = some r := h
  clear h
  have H' := Aside0.mk H
  clear H
  go_enter Try.func17, Try.ntmps17
  go_wp2
  go_loopg [3, 4] k (fun kq v3 v4 w' => ∃ (x3_1 : Int) (x4_1 : Int), v3 = .int .i64 x3_1 ∧ v4 = .int .i64 x4_1 ∧ Aside0 (jacquardref27_Levels.l0 kq a0 x3_1 x4_1 = some r) ∧ Aside0 (kq ≤ k) ∧ Drawn0 w w')
  case atStart => exact ⟨(0), (1), (by first | rfl | (simp; done) | (simp [*]; done)), (by first | rfl | (simp; done) | (simp [*]; done)), H', ⟨Nat.le_refl _⟩, by repeat (first | exact Drawn0.refl _ | apply Drawn0.step)⟩
  case round =>
    clear H'
    try clear c1
    obtain ⟨x3_1, x4_1, rfl, rfl, HA, HK1, ⟨m1, rfl⟩⟩ := hrel
    cases gk with
    | zero => exact absurd HA.out (by simp [jacquardref27_Levels.l0])
    | succ k1 =>
      have H := HA.out
      clear HA
      simp only [jacquardref27_Levels.l0] at H
      by_cases c2 : x4_1 < a0
      · rw [if_pos c2] at H
        have c2b0 : decide (x4_1 < a0) = true := decide_eq_true c2
        clear c2
        by_cases c3 : x3_1 < 62
        · rw [if_pos c3] at H
          have c3b0 : decide (x3_1 < 62) = true := decide_eq_true c3
          clear c3
          have H' := Aside0.mk H
          clear H
          go_wp2
          go_roundg k1
          case measure => have := HK1.out; omega
          case rel => exact ⟨(wrap64 (x3_1 + 1)), (wrap64 (2 * x4_1)), (by first | rfl | (simp; done) | (simp [*]; done)), (by first | rfl | (simp; done) | (simp [*]; done)), H', ⟨by have := HK1.out; omega⟩, by repeat (first | exact Drawn0.refl _ | apply Drawn0.step)⟩
        · rw [if_neg c3] at H
          have c3b0 : decide (x3_1 < 62) = false := decide_eq_false c3
          clear c3
          obtain rfl := Option.some.inj H
          go_wp2
          go_ret
          exact ⟨by first | rfl | (simp; done) | (simp [*]; done), by repeat (first | exact Drawn0.refl _ | apply Drawn0.step)⟩
      · rw [if_neg c2] at H
        have c2b0 : decide (x4_1 < a0) = false := decide_eq_false c2
        clear c2
        obtain rfl := Option.some.inj H
        go_wp2
        go_ret
        exact ⟨by first | rfl | (simp; done) | (simp [*]; done), by repeat (first | exact Drawn0.refl _ | apply Drawn0.step)⟩

/-! ### library_Reserve: function 18 -/
def library_Reserve.f (k : Nat) (a0 : Int) : Option (Int × Int × Int) := (library_Levels.f k a0).bind fun t145 => ((library_Levels.f k a0).bind fun t146 => (some (30, wrap64 (300 + (wrap64 (20 * t145))), wrap64 (320 + (wrap64 (40 * t146))))))
theorem library_Reserve.mono : ∀ a0 k, LeO (library_Reserve.f k a0) (library_Reserve.f (k + 1) a0) := by
  intro a0 k
  unfold library_Reserve.f
  repeat' first
      | (with_reducible exact library_Levels.mono _ _)
      | (with_reducible exact LeO.refl _)
      | (with_reducible exact LeO.none _)
      | (with_reducible refine LeO.ite ?_ ?_)
      | (with_reducible refine LeO.bind ?_ (fun _ => ?_))
      | exact library_Levels.mono _ _
      | exact LeO.none _
      | refine LeO.ite ?_ ?_
      | refine LeO.bind ?_ (fun _ => ?_)
set_option maxHeartbeats 8000000 in
set_option maxRecDepth 100000 in
theorem library_Reserve.calls (k : Nat) (a0 : Int) (r1 : Int) (r2 : Int) (r3 : Int) (w : World) (h : library_Reserve.f k a0 = some (r1, r2, r3)) :
    Calls Try.prog 18 #[.int .i64 a0] w fun e w' => e = .returned (.agg #[.int .i64 r1, .int .i64 r2, .int .i64 r3]) ∧ Below w.heap.size w w' := by
  have hu47 := Try.underlying47
  have HB := Aside0.mk (Below.refl w.heap.size w)
  have H : ((library_Levels.f k a0).bind fun t145 => ((library_Levels.f k a0).bind fun t146 => (some (30, wrap64 (300 + (wrap64 (20 * t145))), wrap64 (320 + (wrap64 (40 * t146))))))) = some (r1, r2, r3) := h
  clear h
  replace H := Option.bind_eq_some_iff.mp H
  obtain ⟨t145, A20, H⟩ := H
  replace H : ((library_Levels.f k a0).bind fun t146 => (some (30, wrap64 (300 + (wrap64 (20 * t145))), wrap64 (320 + (wrap64 (40 * t146)))))) = some (r1, r2, r3) := H
  have A2 := Aside0.mk A20
  clear A20
  replace H := Option.bind_eq_some_iff.mp H
  obtain ⟨t146, A30, H⟩ := H
  replace H : (some (30, wrap64 (300 + (wrap64 (20 * t145))), wrap64 (320 + (wrap64 (40 * t146))))) = some (r1, r2, r3) := H
  have A3 := Aside0.mk A30
  clear A30
  simp only [Option.some.injEq, Prod.mk.injEq] at H
  obtain ⟨rfl, rfl, rfl⟩ := H
  go_enter Try.func18, Try.ntmps18
  go_wp2_with (first | ((with_reducible refine gate_dst (N := 2) rfl ?_); refine box_event ?hg (N := 2) ?hd (cs := #[.int .i64 0, .int .i64 0, .int .i64 0]) (t := 47) ?hr ?_; (case hd => rfl); (case hg => rfl); (case hr => first | (go_simp; done) | (go_simp; rfl)); intro gb144 hg w4 hbox hb; have n0_ := Aside0.mk (below_step (by repeat (first | (with_reducible first | exact HB.out | apply below_alloc | apply pw_below_drewN | apply below_drew1) | exact HB.out)) hb); have n1_ := Aside0.mk (hbox); have n2_ := Aside0.mk ((by rw [hg]; exact (below_size (by repeat (first | (with_reducible first | exact HB.out | apply below_alloc | apply pw_below_drewN | apply below_drew1) | exact HB.out))) : w.heap.size ≤ gb144)); have n3_ := Aside0.mk ((by rw [hg]; exact (below_size (by repeat (first | (with_reducible first | exact HB.out | apply below_alloc | apply pw_below_drewN | apply below_drew1) | exact HB.out))) : w.heap.size ≤ gb144)); clear HB; have HB := n0_; have BK144 := n1_; have GW144 := n2_; have GE144 := n3_; clear n0_ n1_ n2_ n3_; clear hb hbox hg) | ((with_reducible refine gate_callee (f := 15) rfl ?_); refine goesL_ (some 4) rfl rfl Try.func15 (by kernel_rfl) rfl #[.int .i64 a0] rfl (by (try simp only [List.map_toArray, List.map_cons, List.map_nil]); first | done | rfl | (simp only [List.length_drop, List.length_take]; rfl)) ?_; (with_reducible refine (library_Levels.calls k a0 t145 _ A2.out).mono ?_); rintro e w' ⟨rfl, ⟨nd, rfl⟩⟩; refine ⟨_, rfl, ?_⟩; (try (rw [drewN_self w4]; generalize hq_ : World.drewN w4 _ = w4; have n0_ : Aside0 (w4.heap[gb144]? = some (.cells #[.int .i64 0, .int .i64 0, .int .i64 0] 47 (0, 0))) := ⟨by rw [← hq_]; exact (by (with_reducible repeat (first | refine blk_drewN ?_ _ | refine blk_drew ?_ | refine blk_alloc ?_ _)); exact BK144.out)⟩; have n1_ : Aside0 (Below w.heap.size w w4) := ⟨by rw [← hq_]; exact (by repeat (first | (with_reducible first | exact HB.out | apply below_alloc | apply pw_below_drewN | apply below_drew1 | refine below_set ?_ GE144.out) | exact HB.out))⟩; clear BK144 HB hq_; have BK144 := n0_; have HB := n1_; clear n0_ n1_))) | ((with_reducible refine gate_callee (f := 15) rfl ?_); refine goesL_ (some 8) rfl rfl Try.func15 (by kernel_rfl) rfl #[.int .i64 a0] rfl (by (try simp only [List.map_toArray, List.map_cons, List.map_nil]); first | done | rfl | (simp only [List.length_drop, List.length_take]; rfl)) ?_; (with_reducible refine (library_Levels.calls k a0 t146 _ A3.out).mono ?_); rintro e w' ⟨rfl, ⟨nd, rfl⟩⟩; refine ⟨_, rfl, ?_⟩; (try (rw [drewN_self w4]; generalize hq_ : World.drewN w4 _ = w4; have n0_ : Aside0 (w4.heap[gb144]? = some (.cells #[.int .i64 0, .int .i64 0, .int .i64 0] 47 (0, 0))) := ⟨by rw [← hq_]; exact (by (with_reducible repeat (first | refine blk_drewN ?_ _ | refine blk_drew ?_ | refine blk_alloc ?_ _)); exact BK144.out)⟩; have n1_ : Aside0 (Below w.heap.size w w4) := ⟨by rw [← hq_]; exact (by repeat (first | (with_reducible first | exact HB.out | apply below_alloc | apply pw_below_drewN | apply below_drew1 | refine below_set ?_ GE144.out) | exact HB.out))⟩; clear BK144 HB hq_; have BK144 := n0_; have HB := n1_; clear n0_ n1_)); have hcz5_0 : w4.cell? ⟨gb144, 0, none⟩ = some (.int .i64 0) := (blk_cell BK144.out 0).trans rfl; have hcz5_1 : w4.cell? ⟨gb144, 1, none⟩ = some (.int .i64 0) := (blk_cell BK144.out 1).trans rfl; have hcz5_2 : w4.cell? ⟨gb144, 2, none⟩ = some (.int .i64 0) := (blk_cell BK144.out 2).trans rfl; have hfz5_0 := blk_frozen BK144.out 0; have hfz5_1 := blk_frozen BK144.out 1; have hfz5_2 := blk_frozen BK144.out 2))
  refine bodyPost_ret (results_cell_row rfl _ _ gb144 47 #[.int .i64 30, .int .i64 (wrap64 (300 + (wrap64 (20 * t145)))), .int .i64 (wrap64 (320 + (wrap64 (40 * t146))))] (0, 0) _ rfl (by (with_reducible repeat (first | refine blk_drewN ?_ _ | refine blk_drew ?_ | refine blk_alloc ?_ _)); refine blk_put (cs := #[.int .i64 30, .int .i64 (wrap64 (300 + (wrap64 (20 * t145)))), .int .i64 0]) ?_ 2 _ rfl; (with_reducible repeat (first | refine blk_drewN ?_ _ | refine blk_drew ?_ | refine blk_alloc ?_ _)); refine blk_put (cs := #[.int .i64 30, .int .i64 0, .int .i64 0]) ?_ 1 _ rfl; (with_reducible repeat (first | refine blk_drewN ?_ _ | refine blk_drew ?_ | refine blk_alloc ?_ _)); refine blk_put (cs := #[.int .i64 0, .int .i64 0, .int .i64 0]) ?_ 0 _ rfl; (with_reducible repeat (first | refine blk_drewN ?_ _ | refine blk_drew ?_ | refine blk_alloc ?_ _)); exact BK144.out) Try.underlying47 rfl (by kernel_rfl)) rfl ?_
  exact ⟨by first | rfl | (simp [errW_none, errW_some] <;> rfl) | (simp [*, errW_none, errW_some] <;> rfl), by repeat (first | (with_reducible first | exact HB.out | apply below_alloc | apply pw_below_drewN | apply below_drew1 | refine below_set ?_ GE144.out) | exact HB.out)⟩

/-! ### jacquardref27_Reserve: function 19 -/
def jacquardref27_Reserve.f (k : Nat) (a0 : Int) : Option (Int × Int × Int) := (jacquardref27_Levels.f k a0).bind fun t148 => ((jacquardref27_Levels.f k a0).bind fun t149 => (some (30, wrap64 (300 + (wrap64 (20 * t148))), wrap64 (320 + (wrap64 (40 * t149))))))
theorem jacquardref27_Reserve.mono : ∀ a0 k, LeO (jacquardref27_Reserve.f k a0) (jacquardref27_Reserve.f (k + 1) a0) := by
  intro a0 k
  unfold jacquardref27_Reserve.f
  repeat' first
      | (with_reducible exact jacquardref27_Levels.mono _ _)
      | (with_reducible exact LeO.refl _)
      | (with_reducible exact LeO.none _)
      | (with_reducible refine LeO.ite ?_ ?_)
      | (with_reducible refine LeO.bind ?_ (fun _ => ?_))
      | exact jacquardref27_Levels.mono _ _
      | exact LeO.none _
      | refine LeO.ite ?_ ?_
      | refine LeO.bind ?_ (fun _ => ?_)
set_option maxHeartbeats 8000000 in
set_option maxRecDepth 100000 in
theorem jacquardref27_Reserve.calls (k : Nat) (a0 : Int) (r1 : Int) (r2 : Int) (r3 : Int) (w : World) (h : jacquardref27_Reserve.f k a0 = some (r1, r2, r3)) :
    Calls Try.prog 19 #[.int .i64 a0] w fun e w' => e = .returned (.agg #[.int .i64 r1, .int .i64 r2, .int .i64 r3]) ∧ Below w.heap.size w w' := by
  have hu47 := Try.underlying47
  have HB := Aside0.mk (Below.refl w.heap.size w)
  have H : ((jacquardref27_Levels.f k a0).bind fun t148 => ((jacquardref27_Levels.f k a0).bind fun t149 => (some (30, wrap64 (300 + (wrap64 (20 * t148))), wrap64 (320 + (wrap64 (40 * t149))))))) = some (r1, r2, r3) := h
  clear h
  replace H := Option.bind_eq_some_iff.mp H
  obtain ⟨t148, A20, H⟩ := H
  replace H : ((jacquardref27_Levels.f k a0).bind fun t149 => (some (30, wrap64 (300 + (wrap64 (20 * t148))), wrap64 (320 + (wrap64 (40 * t149)))))) = some (r1, r2, r3) := H
  have A2 := Aside0.mk A20
  clear A20
  replace H := Option.bind_eq_some_iff.mp H
  obtain ⟨t149, A30, H⟩ := H
  replace H : (some (30, wrap64 (300 + (wrap64 (20 * t148))), wrap64 (320 + (wrap64 (40 * t149))))) = some (r1, r2, r3) := H
  have A3 := Aside0.mk A30
  clear A30
  simp only [Option.some.injEq, Prod.mk.injEq] at H
  obtain ⟨rfl, rfl, rfl⟩ := H
  go_enter Try.func19, Try.ntmps19
  go_wp2_with (first | ((with_reducible refine gate_dst (N := 2) rfl ?_); refine box_event ?hg (N := 2) ?hd (cs := #[.int .i64 0, .int .i64 0, .int .i64 0]) (t := 47) ?hr ?_; (case hd => rfl); (case hg => rfl); (case hr => first | (go_simp; done) | (go_simp; rfl)); intro gb147 hg w4 hbox hb; have n0_ := Aside0.mk (below_step (by repeat (first | (with_reducible first | exact HB.out | apply below_alloc | apply pw_below_drewN | apply below_drew1) | exact HB.out)) hb); have n1_ := Aside0.mk (hbox); have n2_ := Aside0.mk ((by rw [hg]; exact (below_size (by repeat (first | (with_reducible first | exact HB.out | apply below_alloc | apply pw_below_drewN | apply below_drew1) | exact HB.out))) : w.heap.size ≤ gb147)); have n3_ := Aside0.mk ((by rw [hg]; exact (below_size (by repeat (first | (with_reducible first | exact HB.out | apply below_alloc | apply pw_below_drewN | apply below_drew1) | exact HB.out))) : w.heap.size ≤ gb147)); clear HB; have HB := n0_; have BK147 := n1_; have GW147 := n2_; have GE147 := n3_; clear n0_ n1_ n2_ n3_; clear hb hbox hg) | ((with_reducible refine gate_callee (f := 17) rfl ?_); refine goesL_ (some 4) rfl rfl Try.func17 (by kernel_rfl) rfl #[.int .i64 a0] rfl (by (try simp only [List.map_toArray, List.map_cons, List.map_nil]); first | done | rfl | (simp only [List.length_drop, List.length_take]; rfl)) ?_; (with_reducible refine (jacquardref27_Levels.calls k a0 t148 _ A2.out).mono ?_); rintro e w' ⟨rfl, ⟨nd, rfl⟩⟩; refine ⟨_, rfl, ?_⟩; (try (rw [drewN_self w4]; generalize hq_ : World.drewN w4 _ = w4; have n0_ : Aside0 (w4.heap[gb147]? = some (.cells #[.int .i64 0, .int .i64 0, .int .i64 0] 47 (0, 0))) := ⟨by rw [← hq_]; exact (by (with_reducible repeat (first | refine blk_drewN ?_ _ | refine blk_drew ?_ | refine blk_alloc ?_ _)); exact BK147.out)⟩; have n1_ : Aside0 (Below w.heap.size w w4) := ⟨by rw [← hq_]; exact (by repeat (first | (with_reducible first | exact HB.out | apply below_alloc | apply pw_below_drewN | apply below_drew1 | refine below_set ?_ GE147.out) | exact HB.out))⟩; clear BK147 HB hq_; have BK147 := n0_; have HB := n1_; clear n0_ n1_))) | ((with_reducible refine gate_callee (f := 17) rfl ?_); refine goesL_ (some 8) rfl rfl Try.func17 (by kernel_rfl) rfl #[.int .i64 a0] rfl (by (try simp only [List.map_toArray, List.map_cons, List.map_nil]); first | done | rfl | (simp only [List.length_drop, List.length_take]; rfl)) ?_; (with_reducible refine (jacquardref27_Levels.calls k a0 t149 _ A3.out).mono ?_); rintro e w' ⟨rfl, ⟨nd, rfl⟩⟩; refine ⟨_, rfl, ?_⟩; (try (rw [drewN_self w4]; generalize hq_ : World.drewN w4 _ = w4; have n0_ : Aside0 (w4.heap[gb147]? = some (.cells #[.int .i64 0, .int .i64 0, .int .i64 0] 47 (0, 0))) := ⟨by rw [← hq_]; exact (by (with_reducible repeat (first | refine blk_drewN ?_ _ | refine blk_drew ?_ | refine blk_alloc ?_ _)); exact BK147.out)⟩; have n1_ : Aside0 (Below w.heap.size w w4) := ⟨by rw [← hq_]; exact (by repeat (first | (with_reducible first | exact HB.out | apply below_alloc | apply pw_below_drewN | apply below_drew1 | refine below_set ?_ GE147.out) | exact HB.out))⟩; clear BK147 HB hq_; have BK147 := n0_; have HB := n1_; clear n0_ n1_)); have hcz5_0 : w4.cell? ⟨gb147, 0, none⟩ = some (.int .i64 0) := (blk_cell BK147.out 0).trans rfl; have hcz5_1 : w4.cell? ⟨gb147, 1, none⟩ = some (.int .i64 0) := (blk_cell BK147.out 1).trans rfl; have hcz5_2 : w4.cell? ⟨gb147, 2, none⟩ = some (.int .i64 0) := (blk_cell BK147.out 2).trans rfl; have hfz5_0 := blk_frozen BK147.out 0; have hfz5_1 := blk_frozen BK147.out 1; have hfz5_2 := blk_frozen BK147.out 2))
  refine bodyPost_ret (results_cell_row rfl _ _ gb147 47 #[.int .i64 30, .int .i64 (wrap64 (300 + (wrap64 (20 * t148)))), .int .i64 (wrap64 (320 + (wrap64 (40 * t149))))] (0, 0) _ rfl (by (with_reducible repeat (first | refine blk_drewN ?_ _ | refine blk_drew ?_ | refine blk_alloc ?_ _)); refine blk_put (cs := #[.int .i64 30, .int .i64 (wrap64 (300 + (wrap64 (20 * t148)))), .int .i64 0]) ?_ 2 _ rfl; (with_reducible repeat (first | refine blk_drewN ?_ _ | refine blk_drew ?_ | refine blk_alloc ?_ _)); refine blk_put (cs := #[.int .i64 30, .int .i64 0, .int .i64 0]) ?_ 1 _ rfl; (with_reducible repeat (first | refine blk_drewN ?_ _ | refine blk_drew ?_ | refine blk_alloc ?_ _)); refine blk_put (cs := #[.int .i64 0, .int .i64 0, .int .i64 0]) ?_ 0 _ rfl; (with_reducible repeat (first | refine blk_drewN ?_ _ | refine blk_drew ?_ | refine blk_alloc ?_ _)); exact BK147.out) Try.underlying47 rfl (by kernel_rfl)) rfl ?_
  exact ⟨by first | rfl | (simp [errW_none, errW_some] <;> rfl) | (simp [*, errW_none, errW_some] <;> rfl), by repeat (first | (with_reducible first | exact HB.out | apply below_alloc | apply pw_below_drewN | apply below_drew1 | refine below_set ?_ GE147.out) | exact HB.out)⟩

end Go.Proofs.Ytmacdopdogodoaa.PAll
