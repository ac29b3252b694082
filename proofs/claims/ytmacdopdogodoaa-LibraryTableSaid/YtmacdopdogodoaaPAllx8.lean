-- Written for this claim by a program of this session (wip/print2 in its repo), which runs a changed printer. Lean checks it.
import Derived.Test.YtmacdopdogodoaaPAllx0
import Derived.Test.YtmacdopdogodoaaPAllx1
import Derived.Test.YtmacdopdogodoaaPAllx4
import Derived.Test.YtmacdopdogodoaaPAllx5
import Derived.Test.YtmacdopdogodoaaPAllx6
import Derived.Test.YtmacdopdogodoaaPAllx7
namespace Go.Proofs.Ytmacdopdogodoaa.PAll
open Go.RowKit Go.Proofs.YtmacdopdogodoaaW.PrintWords Go.Proofs.YtmacdopdogodoaaW.PrintLast Go.Proofs.YtmacdopdogodoaaW.PrintMore
attribute [local go_sem] max2_int min2_int max_two min_two max_three min_three max_four min_four   -- for this text's walks alone
set_option linter.unusedVariables false
set_option linter.unusedSimpArgs false

attribute [local go_sem high] eqA24
/-! ### jacquardlaw27_LibraryTable: function 3 -/
def jacquardlaw27_LibraryTable.f (k : Nat) (a0 : Int) (a1 : Int) : Option (Bool) := (jacquardlaw27_awake.f k).bind fun t234 => (if t234 = true then ((library_Of.f k a0 a1).bind fun bt235 => ((jacquardref27_Has.f a0).bind fun t243 => (if t243 = true then ((jacquardref01_Right.f a1).bind fun t244 => (if t244 = true then (if bt235.2.2.2.2.2.2 = 0 then ((jacquardref27_Of.f k a0 a1).bind fun bt245 => (some (bt235.1 == bt245.1 && (bt235.2.1 == bt245.2.1 && (bt235.2.2.1 == bt245.2.2.1 && (bt235.2.2.2.1 == bt245.2.2.2.1 && (bt235.2.2.2.2.1 == bt245.2.2.2.2.1 && (bt235.2.2.2.2.2.1 == bt245.2.2.2.2.2)))))))) else (some false)) else (if bt235.2.2.2.2.2.2 = 13 then (some (bt235.1 == 0 && (bt235.2.1 == 0 && (bt235.2.2.1 == 0 && (bt235.2.2.2.1 == 0 && (bt235.2.2.2.2.1 == 0 && (bt235.2.2.2.2.2.1 == 0))))))) else (some false)))) else (if bt235.2.2.2.2.2.2 = 1 then (some (bt235.1 == 0 && (bt235.2.1 == 0 && (bt235.2.2.1 == 0 && (bt235.2.2.2.1 == 0 && (bt235.2.2.2.2.1 == 0 && (bt235.2.2.2.2.2.1 == 0))))))) else (some false))))) else (some false))
theorem jacquardlaw27_LibraryTable.mono : ∀ a0 a1 k, LeO (jacquardlaw27_LibraryTable.f k a0 a1) (jacquardlaw27_LibraryTable.f (k + 1) a0 a1) := by
  intro a0 a1 k
  unfold jacquardlaw27_LibraryTable.f
  repeat' first
      | (with_reducible exact jacquardlaw27_awake.mono _)
      | (with_reducible exact jacquardref27_Of.mono _ _ _)
      | (with_reducible exact library_Of.mono _ _ _)
      | (with_reducible exact LeO.refl _)
      | (with_reducible exact LeO.none _)
      | (with_reducible refine LeO.ite ?_ ?_)
      | (with_reducible refine LeO.bind ?_ (fun _ => ?_))
      | exact jacquardlaw27_awake.mono _
      | exact jacquardref27_Of.mono _ _ _
      | exact library_Of.mono _ _ _
      | exact LeO.none _
      | refine LeO.ite ?_ ?_
      | refine LeO.bind ?_ (fun _ => ?_)
def jacquardlaw27_LibraryTable.T8 : Bool × List (List Nat × List Nat) := (true, [([], []), ([0], [0]), ([1], [1]), ([2], [2]), ([2], [2]), ([2], [2]), ([4, 5, 2, 2], [2, 4, 5]), ([3, 6, 2], [2, 3, 6]), ([2, 7], [2, 7]), ([8, 6, 0, 1, 2, 3, 4, 5, 6, 7, 8], [8])])
def jacquardlaw27_LibraryTable.B8 : List Nat := [0, 1, 3, 7, 7, 7, 55, 127, 255, 511]
theorem jacquardlaw27_LibraryTable.tab8 : rtab .any (opsOf Try.f3 8) = jacquardlaw27_LibraryTable.T8 := by kernel_rfl
theorem jacquardlaw27_LibraryTable.bits8 : waitsOk jacquardlaw27_LibraryTable.T8.2 jacquardlaw27_LibraryTable.B8 = true := by kernel_rfl
set_option maxHeartbeats 8000000 in
set_option maxRecDepth 100000 in
theorem jacquardlaw27_LibraryTable.calls (k : Nat) (a0 : Int) (a1 : Int) (r : Bool) (w : World) (h : jacquardlaw27_LibraryTable.f k a0 a1 = some r) (hr_ : r = true) :
    Calls Try.prog 3 #[.int .i64 a0, .int .i64 a1] w fun e w' => e = .returned (.bool r) ∧ Below w.heap.size w w' := by
  have hu24 := Try.underlying24
  have HB := Aside0.mk (Below.refl w.heap.size w)
  have HRT_ := Aside0.mk hr_
  clear hr_
  have H : ((jacquardlaw27_awake.f k).bind fun t234 => (if t234 = true then ((library_Of.f k a0 a1).bind fun bt235 => ((jacquardref27_Has.f a0).bind fun t243 => (if t243 = true then ((jacquardref01_Right.f a1).bind fun t244 => (if t244 = true then (if bt235.2.2.2.2.2.2 = 0 then ((jacquardref27_Of.f k a0 a1).bind fun bt245 => (some (bt235.1 == bt245.1 && (bt235.2.1 == bt245.2.1 && (bt235.2.2.1 == bt245.2.2.1 && (bt235.2.2.2.1 == bt245.2.2.2.1 && (bt235.2.2.2.2.1 == bt245.2.2.2.2.1 && (bt235.2.2.2.2.2.1 == bt245.2.2.2.2.2)))))))) else (some false)) else (if bt235.2.2.2.2.2.2 = 13 then (some (bt235.1 == 0 && (bt235.2.1 == 0 && (bt235.2.2.1 == 0 && (bt235.2.2.2.1 == 0 && (bt235.2.2.2.2.1 == 0 && (bt235.2.2.2.2.2.1 == 0))))))) else (some false)))) else (if bt235.2.2.2.2.2.2 = 1 then (some (bt235.1 == 0 && (bt235.2.1 == 0 && (bt235.2.2.1 == 0 && (bt235.2.2.2.1 == 0 && (bt235.2.2.2.2.1 == 0 && (bt235.2.2.2.2.2.1 == 0))))))) else (some false))))) else (some false))) = some r := h
  clear h
  replace H := Option.bind_eq_some_iff.mp H
  obtain ⟨t234, A30, H⟩ := H
  replace H : (if t234 = true then ((library_Of.f k a0 a1).bind fun bt235 => ((jacquardref27_Has.f a0).bind fun t243 => (if t243 = true then ((jacquardref01_Right.f a1).bind fun t244 => (if t244 = true then (if bt235.2.2.2.2.2.2 = 0 then ((jacquardref27_Of.f k a0 a1).bind fun bt245 => (some (bt235.1 == bt245.1 && (bt235.2.1 == bt245.2.1 && (bt235.2.2.1 == bt245.2.2.1 && (bt235.2.2.2.1 == bt245.2.2.2.1 && (bt235.2.2.2.2.1 == bt245.2.2.2.2.1 && (bt235.2.2.2.2.2.1 == bt245.2.2.2.2.2)))))))) else (some false)) else (if bt235.2.2.2.2.2.2 = 13 then (some (bt235.1 == 0 && (bt235.2.1 == 0 && (bt235.2.2.1 == 0 && (bt235.2.2.2.1 == 0 && (bt235.2.2.2.2.1 == 0 && (bt235.2.2.2.2.2.1 == 0))))))) else (some false)))) else (if bt235.2.2.2.2.2.2 = 1 then (some (bt235.1 == 0 && (bt235.2.1 == 0 && (bt235.2.2.1 == 0 && (bt235.2.2.2.1 == 0 && (bt235.2.2.2.2.1 == 0 && (bt235.2.2.2.2.2.1 == 0))))))) else (some false))))) else (some false)) = some r := H
  have A3 := Aside0.mk A30
  clear A30
  by_cases c4 : t234 = true
  · subst c4
    have H1 : ((library_Of.f k a0 a1).bind fun bt235 => ((jacquardref27_Has.f a0).bind fun t243 => (if t243 = true then ((jacquardref01_Right.f a1).bind fun t244 => (if t244 = true then (if bt235.2.2.2.2.2.2 = 0 then ((jacquardref27_Of.f k a0 a1).bind fun bt245 => (some (bt235.1 == bt245.1 && (bt235.2.1 == bt245.2.1 && (bt235.2.2.1 == bt245.2.2.1 && (bt235.2.2.2.1 == bt245.2.2.2.1 && (bt235.2.2.2.2.1 == bt245.2.2.2.2.1 && (bt235.2.2.2.2.2.1 == bt245.2.2.2.2.2)))))))) else (some false)) else (if bt235.2.2.2.2.2.2 = 13 then (some (bt235.1 == 0 && (bt235.2.1 == 0 && (bt235.2.2.1 == 0 && (bt235.2.2.2.1 == 0 && (bt235.2.2.2.2.1 == 0 && (bt235.2.2.2.2.2.1 == 0))))))) else (some false)))) else (if bt235.2.2.2.2.2.2 = 1 then (some (bt235.1 == 0 && (bt235.2.1 == 0 && (bt235.2.2.1 == 0 && (bt235.2.2.2.1 == 0 && (bt235.2.2.2.2.1 == 0 && (bt235.2.2.2.2.2.1 == 0))))))) else (some false))))) = some r := by rw [if_pos rfl] at H; exact H
    clear H
    have H := H1
    clear H1
    replace H := Option.bind_eq_some_iff.mp H
    obtain ⟨⟨t235, t236, t237, t238, t239, t240, t241⟩, A50, H⟩ := H
    replace H : ((jacquardref27_Has.f a0).bind fun t243 => (if t243 = true then ((jacquardref01_Right.f a1).bind fun t244 => (if t244 = true then (if t241 = 0 then ((jacquardref27_Of.f k a0 a1).bind fun bt245 => (some (t235 == bt245.1 && (t236 == bt245.2.1 && (t237 == bt245.2.2.1 && (t238 == bt245.2.2.2.1 && (t239 == bt245.2.2.2.2.1 && (t240 == bt245.2.2.2.2.2)))))))) else (some false)) else (if t241 = 13 then (some (t235 == 0 && (t236 == 0 && (t237 == 0 && (t238 == 0 && (t239 == 0 && (t240 == 0))))))) else (some false)))) else (if t241 = 1 then (some (t235 == 0 && (t236 == 0 && (t237 == 0 && (t238 == 0 && (t239 == 0 && (t240 == 0))))))) else (some false)))) = some r := H
    have A5 := Aside0.mk A50
    clear A50
    replace H := Option.bind_eq_some_iff.mp H
    obtain ⟨t243, A60, H⟩ := H
    replace H : (if t243 = true then ((jacquardref01_Right.f a1).bind fun t244 => (if t244 = true then (if t241 = 0 then ((jacquardref27_Of.f k a0 a1).bind fun bt245 => (some (t235 == bt245.1 && (t236 == bt245.2.1 && (t237 == bt245.2.2.1 && (t238 == bt245.2.2.2.1 && (t239 == bt245.2.2.2.2.1 && (t240 == bt245.2.2.2.2.2)))))))) else (some false)) else (if t241 = 13 then (some (t235 == 0 && (t236 == 0 && (t237 == 0 && (t238 == 0 && (t239 == 0 && (t240 == 0))))))) else (some false)))) else (if t241 = 1 then (some (t235 == 0 && (t236 == 0 && (t237 == 0 && (t238 == 0 && (t239 == 0 && (t240 == 0))))))) else (some false))) = some r := H
    have A6 := Aside0.mk A60
    clear A60
    by_cases c7 : t243 = true
    · subst c7
      have H1 : ((jacquardref01_Right.f a1).bind fun t244 => (if t244 = true then (if t241 = 0 then ((jacquardref27_Of.f k a0 a1).bind fun bt245 => (some (t235 == bt245.1 && (t236 == bt245.2.1 && (t237 == bt245.2.2.1 && (t238 == bt245.2.2.2.1 && (t239 == bt245.2.2.2.2.1 && (t240 == bt245.2.2.2.2.2)))))))) else (some false)) else (if t241 = 13 then (some (t235 == 0 && (t236 == 0 && (t237 == 0 && (t238 == 0 && (t239 == 0 && (t240 == 0))))))) else (some false)))) = some r := by rw [if_pos rfl] at H; exact H
      clear H
      have H := H1
      clear H1
      replace H := Option.bind_eq_some_iff.mp H
      obtain ⟨t244, A80, H⟩ := H
      replace H : (if t244 = true then (if t241 = 0 then ((jacquardref27_Of.f k a0 a1).bind fun bt245 => (some (t235 == bt245.1 && (t236 == bt245.2.1 && (t237 == bt245.2.2.1 && (t238 == bt245.2.2.2.1 && (t239 == bt245.2.2.2.2.1 && (t240 == bt245.2.2.2.2.2)))))))) else (some false)) else (if t241 = 13 then (some (t235 == 0 && (t236 == 0 && (t237 == 0 && (t238 == 0 && (t239 == 0 && (t240 == 0))))))) else (some false))) = some r := H
      have A8 := Aside0.mk A80
      clear A80
      by_cases c9 : t244 = true
      · subst c9
        have H1 : (if t241 = 0 then ((jacquardref27_Of.f k a0 a1).bind fun bt245 => (some (t235 == bt245.1 && (t236 == bt245.2.1 && (t237 == bt245.2.2.1 && (t238 == bt245.2.2.2.1 && (t239 == bt245.2.2.2.2.1 && (t240 == bt245.2.2.2.2.2)))))))) else (some false)) = some r := by rw [if_pos rfl] at H; exact H
        clear H
        have H := H1
        clear H1
        by_cases c10 : t241 = 0
        · rw [if_pos c10] at H
          have c10b0 : (t241 == 0) = true := beq_iff_eq.mpr c10
          have c10b1 : (t241 != 0) = false := bne_eq_false_iff_eq.mpr c10
          clear c10
          replace H := Option.bind_eq_some_iff.mp H
          obtain ⟨⟨t245, t246, t247, t248, t249, t250⟩, A110, H⟩ := H
          replace H : (some (t235 == t245 && (t236 == t246 && (t237 == t247 && (t238 == t248 && (t239 == t249 && (t240 == t250))))))) = some r := H
          have A11 := Aside0.mk A110
          clear A110
          obtain rfl := Option.some.inj H
          go_enter Try.func3, Try.ntmps3
          try go_wp2_with (first | ((with_reducible refine gate_callee (f := 10) rfl ?_); refine goesL_ (some 7) rfl rfl Try.func10 (by kernel_rfl) rfl #[] rfl (by (try simp only [List.map_toArray, List.map_cons, List.map_nil]); first | done | rfl | (simp only [List.length_drop, List.length_take]; rfl)) ?_; (with_reducible refine (jacquardlaw27_awake.calls k  true _ A3.out).mono ?_); rintro e w12 ⟨rfl, hb⟩; refine ⟨_, rfl, ?_⟩; have n0_ := Aside0.mk (below_step (by repeat (first | (with_reducible first | exact HB.out | apply below_alloc | apply pw_below_drewN | apply below_drew1) | exact HB.out)) hb); clear HB; have HB := n0_; clear n0_; (try clear hb); (try clear hb2); (try clear hk); (try clear hi)) | ((with_reducible refine gate_callee (f := 11) rfl ?_); refine goesL_ (some 12) rfl rfl Try.func11 (by kernel_rfl) rfl #[.int .i64 a0, .int .i64 a1] rfl (by (try simp only [List.map_toArray, List.map_cons, List.map_nil]); first | done | rfl | (simp only [List.length_drop, List.length_take]; rfl)) ?_; (with_reducible refine (library_Of.calls k a0 a1 t235 t236 t237 t238 t239 t240 t241 _ A5.out).mono ?_); rintro e w13 ⟨rfl, hb⟩; refine ⟨_, rfl, ?_⟩; have n0_ := Aside0.mk (below_step (by repeat (first | (with_reducible first | exact HB.out | apply below_alloc | apply pw_below_drewN | apply below_drew1) | exact HB.out)) hb); clear HB; have HB := n0_; clear n0_; (try clear hb); (try clear hb2); (try clear hk); (try clear hi)) | ((with_reducible refine gate_dst (N := 5) rfl ?_); refine box_event ?hg (N := 5) ?hd (cs := #[.int .i64 0, .int .i64 0, .int .i64 0, .int .i64 0, .int .i64 0, .int .i64 0]) (t := 24) ?hr ?_; (case hd => rfl); (case hg => rfl); (case hr => first | (go_simp; done) | (go_simp; rfl)); intro gb242 hg w14 hbox hb; have n0_ := Aside0.mk (below_step (by repeat (first | (with_reducible first | exact HB.out | apply below_alloc | apply pw_below_drewN | apply below_drew1) | exact HB.out)) hb); have n1_ := Aside0.mk (hbox); have n2_ := Aside0.mk ((by rw [hg]; exact (below_size (by repeat (first | (with_reducible first | exact HB.out | apply below_alloc | apply pw_below_drewN | apply below_drew1) | exact HB.out))) : w.heap.size ≤ gb242)); have n3_ := Aside0.mk ((by rw [hg]; exact (below_size (by repeat (first | (with_reducible first | exact HB.out | apply below_alloc | apply pw_below_drewN | apply below_drew1) | exact HB.out))) : w.heap.size ≤ gb242)); clear HB; have HB := n0_; have BK242 := n1_; have GW242 := n2_; have GE242 := n3_; clear n0_ n1_ n2_ n3_; clear hb hbox hg; have hcz15_0 : w14.cell? ⟨gb242, 0, none⟩ = some (.int .i64 0) := (blk_cell BK242.out 0).trans rfl; have hcz15_1 : w14.cell? ⟨gb242, 1, none⟩ = some (.int .i64 0) := (blk_cell BK242.out 1).trans rfl; have hcz15_2 : w14.cell? ⟨gb242, 2, none⟩ = some (.int .i64 0) := (blk_cell BK242.out 2).trans rfl; have hcz15_3 : w14.cell? ⟨gb242, 3, none⟩ = some (.int .i64 0) := (blk_cell BK242.out 3).trans rfl; have hcz15_4 : w14.cell? ⟨gb242, 4, none⟩ = some (.int .i64 0) := (blk_cell BK242.out 4).trans rfl; have hcz15_5 : w14.cell? ⟨gb242, 5, none⟩ = some (.int .i64 0) := (blk_cell BK242.out 5).trans rfl; have hfz15_0 := blk_frozen BK242.out 0; have hfz15_1 := blk_frozen BK242.out 1; have hfz15_2 := blk_frozen BK242.out 2; have hfz15_3 := blk_frozen BK242.out 3; have hfz15_4 := blk_frozen BK242.out 4; have hfz15_5 := blk_frozen BK242.out 5) | ((with_reducible refine gate_callee (f := 12) rfl ?_); refine goesL_ (some 16) rfl rfl Try.func12 (by kernel_rfl) rfl #[.int .i64 a0] rfl (by (try simp only [List.map_toArray, List.map_cons, List.map_nil]); first | done | rfl | (simp only [List.length_drop, List.length_take]; rfl)) ?_; (with_reducible refine (jacquardref27_Has.calls a0 true _ A6.out).mono ?_); rintro e w' ⟨rfl, ⟨nd, rfl⟩⟩; refine ⟨_, rfl, ?_⟩) | ((with_reducible refine gate_callee (f := 13) rfl ?_); refine goesL_ (some 26) rfl rfl Try.func13 (by kernel_rfl) rfl #[.int .i64 a1] rfl (by (try simp only [List.map_toArray, List.map_cons, List.map_nil]); first | done | rfl | (simp only [List.length_drop, List.length_take]; rfl)) ?_; (with_reducible refine (jacquardref01_Right.calls a1 true _ A8.out).mono ?_); rintro e w' ⟨rfl, ⟨nd, rfl⟩⟩; refine ⟨_, rfl, ?_⟩))
          have n0_ : Aside0 (((((((w14.setCell ⟨gb242, 0, none⟩ (.int .i64 t235)).setCell ⟨gb242, 1, none⟩ (.int .i64 t236)).setCell ⟨gb242, 2, none⟩ (.int .i64 t237)).setCell ⟨gb242, 3, none⟩ (.int .i64 t238)).setCell ⟨gb242, 4, none⟩ (.int .i64 t239)).setCell ⟨gb242, 5, none⟩ (.int .i64 t240)).heap[gb242]? = some (.cells #[.int .i64 t235, .int .i64 t236, .int .i64 t237, .int .i64 t238, .int .i64 t239, .int .i64 t240] 24 (0, 0))) := ⟨by (with_reducible repeat (first | refine blk_drewN ?_ _ | refine blk_drew ?_ | refine blk_alloc ?_ _)); refine blk_put (cs := #[.int .i64 t235, .int .i64 t236, .int .i64 t237, .int .i64 t238, .int .i64 t239, .int .i64 0]) ?_ 5 _ rfl; (with_reducible repeat (first | refine blk_drewN ?_ _ | refine blk_drew ?_ | refine blk_alloc ?_ _)); refine blk_put (cs := #[.int .i64 t235, .int .i64 t236, .int .i64 t237, .int .i64 t238, .int .i64 0, .int .i64 0]) ?_ 4 _ rfl; (with_reducible repeat (first | refine blk_drewN ?_ _ | refine blk_drew ?_ | refine blk_alloc ?_ _)); refine blk_put (cs := #[.int .i64 t235, .int .i64 t236, .int .i64 t237, .int .i64 0, .int .i64 0, .int .i64 0]) ?_ 3 _ rfl; (with_reducible repeat (first | refine blk_drewN ?_ _ | refine blk_drew ?_ | refine blk_alloc ?_ _)); refine blk_put (cs := #[.int .i64 t235, .int .i64 t236, .int .i64 0, .int .i64 0, .int .i64 0, .int .i64 0]) ?_ 2 _ rfl; (with_reducible repeat (first | refine blk_drewN ?_ _ | refine blk_drew ?_ | refine blk_alloc ?_ _)); refine blk_put (cs := #[.int .i64 t235, .int .i64 0, .int .i64 0, .int .i64 0, .int .i64 0, .int .i64 0]) ?_ 1 _ rfl; (with_reducible repeat (first | refine blk_drewN ?_ _ | refine blk_drew ?_ | refine blk_alloc ?_ _)); refine blk_put (cs := #[.int .i64 0, .int .i64 0, .int .i64 0, .int .i64 0, .int .i64 0, .int .i64 0]) ?_ 0 _ rfl; (with_reducible repeat (first | refine blk_drewN ?_ _ | refine blk_drew ?_ | refine blk_alloc ?_ _)); exact BK242.out⟩
          have n1_ : Aside0 (Below w.heap.size w ((((((w14.setCell ⟨gb242, 0, none⟩ (.int .i64 t235)).setCell ⟨gb242, 1, none⟩ (.int .i64 t236)).setCell ⟨gb242, 2, none⟩ (.int .i64 t237)).setCell ⟨gb242, 3, none⟩ (.int .i64 t238)).setCell ⟨gb242, 4, none⟩ (.int .i64 t239)).setCell ⟨gb242, 5, none⟩ (.int .i64 t240))) := ⟨by repeat (first | (with_reducible first | exact HB.out | apply below_alloc | apply pw_below_drewN | apply below_drew1 | refine below_set ?_ GE242.out) | exact HB.out)⟩
          (try clear BK242)
          (try clear HB)
          generalize ((((((w14.setCell ⟨gb242, 0, none⟩ (.int .i64 t235)).setCell ⟨gb242, 1, none⟩ (.int .i64 t236)).setCell ⟨gb242, 2, none⟩ (.int .i64 t237)).setCell ⟨gb242, 3, none⟩ (.int .i64 t238)).setCell ⟨gb242, 4, none⟩ (.int .i64 t239)).setCell ⟨gb242, 5, none⟩ (.int .i64 t240)) = w16 at n0_ n1_ ⊢
          have BK242 := n0_
          have HB := n1_
          clear n0_ n1_
          (try (rw [drewN_self w16]; generalize hq_ : World.drewN w16 _ = w16; have n0_ : Aside0 (w16.heap[gb242]? = some (.cells #[.int .i64 t235, .int .i64 t236, .int .i64 t237, .int .i64 t238, .int .i64 t239, .int .i64 t240] 24 (0, 0))) := ⟨by rw [← hq_]; exact (by (with_reducible repeat (first | refine blk_drewN ?_ _ | refine blk_drew ?_ | refine blk_alloc ?_ _)); exact BK242.out)⟩; have n1_ : Aside0 (Below w.heap.size w w16) := ⟨by rw [← hq_]; exact (by repeat (first | (with_reducible first | exact HB.out | apply below_alloc | apply pw_below_drewN | apply below_drew1 | refine below_set ?_ GE242.out) | exact HB.out))⟩; clear BK242 HB hq_; have BK242 := n0_; have HB := n1_; clear n0_ n1_))
          have n0_ := Aside0.mk (blk_drew BK242.out)
          have n1_ := Aside0.mk (below_drew1 HB.out)
          clear BK242
          clear HB
          have BK242 := n0_
          have HB := n1_
          clear n0_ n1_
          refine start_ (n := 10) (S := fun w' => w'.cell? ⟨gb242, 0, none⟩ = some (.int .i64 t235) ∧ w'.cell? ⟨gb242, 1, none⟩ = some (.int .i64 t236) ∧ w'.cell? ⟨gb242, 2, none⟩ = some (.int .i64 t237) ∧ w'.cell? ⟨gb242, 3, none⟩ = some (.int .i64 t238) ∧ w'.cell? ⟨gb242, 4, none⟩ = some (.int .i64 t239) ∧ w'.cell? ⟨gb242, 5, none⟩ = some (.int .i64 t240)) (ds := []) #[false, false, false, false, false, false, false, false, false, false] (by kernel_rfl) rfl rfl ⟨(blk_cell BK242.out 0).trans rfl, (blk_cell BK242.out 1).trans rfl, (blk_cell BK242.out 2).trans rfl, (blk_cell BK242.out 3).trans rfl, (blk_cell BK242.out 4).trans rfl, (blk_cell BK242.out 5).trans rfl⟩ (fun hHeld => ?_); refine with_tabW jacquardlaw27_LibraryTable.tab8 jacquardlaw27_LibraryTable.bits8 (fun HT_ HW_ => ?_)
          generalize w16.drew = w17 at BK242 HB hHeld ⊢
          refine pure_ (i := 0) (N := some 35) (v := ?_) (a' := ?_) #[true, false, false, false, false, false, false, false, false, false] rfl rfl (any_of HT_.out (by kernel_rfl)) (fun _ _ _ h => h) (Or.inl ⟨by rfl, ?_⟩) ?_ ?_
          rotate_left
          · intro w'
            go_simp
            with_reducible rfl
          rotate_left
          · simp only [Act.put, List.setIfInBounds_toArray, List.set_cons_zero, List.set_cons_succ, i64_w, i32_w]
            rfl
          refine pure_ (i := 1) (N := some 36) (v := ?_) (a' := ?_) #[true, true, false, false, false, false, false, false, false, false] rfl rfl (any_of HT_.out (by kernel_rfl)) (fun _ _ _ h => h) (Or.inl ⟨by rfl, ?_⟩) ?_ ?_
          rotate_left
          · intro w'
            go_simp
            with_reducible rfl
          rotate_left
          · simp only [Act.put, List.setIfInBounds_toArray, List.set_cons_zero, List.set_cons_succ, i64_w, i32_w]
            rfl
          refine pure_ (i := 2) (N := some 37) (v := ?_) (a' := ?_) #[true, true, true, false, false, false, false, false, false, false] rfl rfl (any_of HT_.out (by kernel_rfl)) (fun _ _ _ h => h) (Or.inl ⟨by rfl, ?_⟩) ?_ ?_
          rotate_left
          · intro w'
            go_simp
            with_reducible rfl
          rotate_left
          · simp only [Act.put, List.setIfInBounds_toArray, List.set_cons_zero, List.set_cons_succ, i64_w, i32_w]
            rfl
          refine pure_ (i := 4) (N := some 39) (v := ?_) (a' := ?_) #[true, true, true, false, true, false, false, false, false, false] rfl rfl (any_of HT_.out (by kernel_rfl)) (fun _ _ _ h => h) (Or.inl ⟨by rfl, ?_⟩) ?_ ?_
          rotate_left
          · intro w'
            go_simp
            with_reducible rfl
          rotate_left
          · simp only [Act.put, List.setIfInBounds_toArray, List.set_cons_zero, List.set_cons_succ, i64_w, i32_w]
            rfl
          refine pure_ (i := 5) (N := some 40) (v := ?_) (a' := ?_) #[true, true, true, false, true, true, false, false, false, false] rfl rfl (any_of HT_.out (by kernel_rfl)) (fun _ _ _ h => h) (Or.inl ⟨by rfl, ?_⟩) ?_ ?_
          rotate_left
          · intro w'
            go_simp
            with_reducible rfl
          rotate_left
          · simp only [Act.put, List.setIfInBounds_toArray, List.set_cons_zero, List.set_cons_succ, i64_w, i32_w]
            rfl
          refine take_ (i := 3) (N := some 38) (v := ?_) (a' := ?_) #[true, true, true, true, true, true, false, false, false, false] rfl rfl (take_ofW HT_.out HW_.out (by kernel_rfl)) (fun _ _ _ h => h) (Or.inl ⟨by rfl, ?_⟩) hHeld ?_ ?_
          rotate_left
          · rintro w' ⟨s0, s1, s2, s3, s4, s5⟩
            go_simp
            with_reducible rfl
          rotate_left
          · simp only [Act.put, List.setIfInBounds_toArray, List.set_cons_zero, List.set_cons_succ, i64_w, i32_w]
            rfl
          refine one_ (i := 6) (N := some 41) #[true, true, true, true, true, true, true, false, false, false] rfl rfl (one_of HT_.out (by kernel_rfl)) (by decide) (fun K hK => ?_)
          refine goes_ Try.func14 (by kernel_rfl) rfl #[.int .i64 a0, .int .i64 a1] (by rfl) rfl rfl (by (try simp only [List.map_toArray, List.map_cons, List.map_nil]); first | done | rfl | (simp only [List.length_drop, List.length_take]; rfl)) ?_
          with_reducible refine (jacquardref27_Of.calls k a0 a1 t245 t246 t247 t248 t249 t250 _ A11.out).mono ?_
          rintro e w18 ⟨rfl, hb⟩
          refine ⟨_, rfl, ?_⟩
          have n0_ := Aside0.mk (blk_below (g := gb242) (o := .cells #[.int .i64 t235, .int .i64 t236, .int .i64 t237, .int .i64 t238, .int .i64 t239, .int .i64 t240] 24 (0, 0)) (by (with_reducible repeat (first | refine blk_drewN ?_ _ | refine blk_drew ?_ | refine blk_alloc ?_ _)); exact BK242.out) hb)
          have n1_ := Aside0.mk (below_step (by repeat (first | (with_reducible first | exact HB.out | apply below_alloc | apply pw_below_drewN | apply below_drew1 | refine below_set ?_ GE242.out) | exact HB.out)) hb)
          clear BK242
          clear HB
          have BK242 := n0_
          have HB := n1_
          clear n0_ n1_
          (try clear hb)
          (try clear hb2)
          (try clear hk)
          (try clear hi)
          refine hK.out _ _ ⟨(blk_cell BK242.out 0).trans rfl, (blk_cell BK242.out 1).trans rfl, (blk_cell BK242.out 2).trans rfl, (blk_cell BK242.out 3).trans rfl, (blk_cell BK242.out 4).trans rfl, (blk_cell BK242.out 5).trans rfl⟩ (fun hHeld => ?_)
          clear hK K
          refine norm_ (a' := ?_) ?_ ?_
          rotate_left
          · show Act.put _ (some 41) _ = _
            simp only [Act.put, List.setIfInBounds_toArray, List.set_cons_zero, List.set_cons_succ, i64_w, i32_w]
            rfl
          refine pure_ (i := 7) (N := some 42) (v := ?_) (a' := ?_) #[true, true, true, true, true, true, true, true, false, false] rfl rfl (any_of HT_.out (by kernel_rfl)) (fun _ _ _ h => h) (Or.inl ⟨by rfl, ?_⟩) ?_ ?_
          rotate_left
          · intro w'
            go_simp
            with_reducible rfl
          rotate_left
          · simp only [Act.put, List.setIfInBounds_toArray, List.set_cons_zero, List.set_cons_succ, i64_w, i32_w]
            rfl
          refine pure_ (i := 8) (N := some 43) (v := ?_) (a' := ?_) #[true, true, true, true, true, true, true, true, true, false] rfl rfl (any_of HT_.out (by kernel_rfl)) (fun _ _ _ h => h) (Or.inl ⟨by rfl, ?_⟩) ?_ ?_
          rotate_left
          · intro w'
            go_simp
            with_reducible rfl
          rotate_left
          · simp only [Act.put, List.setIfInBounds_toArray, List.set_cons_zero, List.set_cons_succ, i64_w, i32_w]
            rfl
          refine pure_ (i := 9) (N := some 4) (v := ?_) (a' := ?_) #[true, true, true, true, true, true, true, true, true, true] rfl rfl (any_of HT_.out (by kernel_rfl)) (fun _ _ _ h => h) (Or.inl ⟨by rfl, ?_⟩) ?_ ?_
          rotate_left
          · intro w'
            go_simp
            with_reducible rfl
          rotate_left
          · simp only [Act.put, List.setIfInBounds_toArray, List.set_cons_zero, List.set_cons_succ, i64_w, i32_w]
            rfl
          refine done_ (done_of HT_.out (by kernel_rfl)) ?_
          try go_wp2
          go_ret
          exact ⟨by first | rfl | (simp [errW_none, errW_some] <;> rfl) | (simp [*, errW_none, errW_some] <;> rfl), by repeat (first | (with_reducible first | exact HB.out | apply below_alloc | apply pw_below_drewN | apply below_drew1 | refine below_set ?_ GE242.out) | exact HB.out)⟩
        · rw [if_neg c10] at H
          have c10b0 : (t241 == 0) = false := beq_eq_false_iff_ne.mpr c10
          have c10b1 : (t241 != 0) = true := bne_iff_ne.mpr c10
          exact absurd ((Option.some.inj H).trans HRT_.out) Bool.false_ne_true
      · replace c9 := Bool.eq_false_iff.mpr c9
        subst c9
        have H1 : (if t241 = 13 then (some (t235 == 0 && (t236 == 0 && (t237 == 0 && (t238 == 0 && (t239 == 0 && (t240 == 0))))))) else (some false)) = some r := by rw [if_neg (show ¬ (false = true) by decide)] at H; exact H
        clear H
        have H := H1
        clear H1
        by_cases c19 : t241 = 13
        · rw [if_pos c19] at H
          have c19b0 : (t241 == 13) = true := beq_iff_eq.mpr c19
          have c19b1 : (t241 != 13) = false := bne_eq_false_iff_eq.mpr c19
          clear c19
          obtain rfl := Option.some.inj H
          go_enter Try.func3, Try.ntmps3
          go_wp2_with (first | ((with_reducible refine gate_callee (f := 10) rfl ?_); refine goesL_ (some 7) rfl rfl Try.func10 (by kernel_rfl) rfl #[] rfl (by (try simp only [List.map_toArray, List.map_cons, List.map_nil]); first | done | rfl | (simp only [List.length_drop, List.length_take]; rfl)) ?_; (with_reducible refine (jacquardlaw27_awake.calls k  true _ A3.out).mono ?_); rintro e w20 ⟨rfl, hb⟩; refine ⟨_, rfl, ?_⟩; have n0_ := Aside0.mk (below_step (by repeat (first | (with_reducible first | exact HB.out | apply below_alloc | apply pw_below_drewN | apply below_drew1) | exact HB.out)) hb); clear HB; have HB := n0_; clear n0_; (try clear hb); (try clear hb2); (try clear hk); (try clear hi)) | ((with_reducible refine gate_callee (f := 11) rfl ?_); refine goesL_ (some 12) rfl rfl Try.func11 (by kernel_rfl) rfl #[.int .i64 a0, .int .i64 a1] rfl (by (try simp only [List.map_toArray, List.map_cons, List.map_nil]); first | done | rfl | (simp only [List.length_drop, List.length_take]; rfl)) ?_; (with_reducible refine (library_Of.calls k a0 a1 t235 t236 t237 t238 t239 t240 t241 _ A5.out).mono ?_); rintro e w21 ⟨rfl, hb⟩; refine ⟨_, rfl, ?_⟩; have n0_ := Aside0.mk (below_step (by repeat (first | (with_reducible first | exact HB.out | apply below_alloc | apply pw_below_drewN | apply below_drew1) | exact HB.out)) hb); clear HB; have HB := n0_; clear n0_; (try clear hb); (try clear hb2); (try clear hk); (try clear hi)) | ((with_reducible refine gate_dst (N := 5) rfl ?_); refine box_event ?hg (N := 5) ?hd (cs := #[.int .i64 0, .int .i64 0, .int .i64 0, .int .i64 0, .int .i64 0, .int .i64 0]) (t := 24) ?hr ?_; (case hd => rfl); (case hg => rfl); (case hr => first | (go_simp; done) | (go_simp; rfl)); intro gb242 hg w22 hbox hb; have n0_ := Aside0.mk (below_step (by repeat (first | (with_reducible first | exact HB.out | apply below_alloc | apply pw_below_drewN | apply below_drew1) | exact HB.out)) hb); have n1_ := Aside0.mk (hbox); have n2_ := Aside0.mk ((by rw [hg]; exact (below_size (by repeat (first | (with_reducible first | exact HB.out | apply below_alloc | apply pw_below_drewN | apply below_drew1) | exact HB.out))) : w.heap.size ≤ gb242)); have n3_ := Aside0.mk ((by rw [hg]; exact (below_size (by repeat (first | (with_reducible first | exact HB.out | apply below_alloc | apply pw_below_drewN | apply below_drew1) | exact HB.out))) : w.heap.size ≤ gb242)); clear HB; have HB := n0_; have BK242 := n1_; have GW242 := n2_; have GE242 := n3_; clear n0_ n1_ n2_ n3_; clear hb hbox hg; have hcz23_0 : w22.cell? ⟨gb242, 0, none⟩ = some (.int .i64 0) := (blk_cell BK242.out 0).trans rfl; have hcz23_1 : w22.cell? ⟨gb242, 1, none⟩ = some (.int .i64 0) := (blk_cell BK242.out 1).trans rfl; have hcz23_2 : w22.cell? ⟨gb242, 2, none⟩ = some (.int .i64 0) := (blk_cell BK242.out 2).trans rfl; have hcz23_3 : w22.cell? ⟨gb242, 3, none⟩ = some (.int .i64 0) := (blk_cell BK242.out 3).trans rfl; have hcz23_4 : w22.cell? ⟨gb242, 4, none⟩ = some (.int .i64 0) := (blk_cell BK242.out 4).trans rfl; have hcz23_5 : w22.cell? ⟨gb242, 5, none⟩ = some (.int .i64 0) := (blk_cell BK242.out 5).trans rfl; have hfz23_0 := blk_frozen BK242.out 0; have hfz23_1 := blk_frozen BK242.out 1; have hfz23_2 := blk_frozen BK242.out 2; have hfz23_3 := blk_frozen BK242.out 3; have hfz23_4 := blk_frozen BK242.out 4; have hfz23_5 := blk_frozen BK242.out 5) | ((with_reducible refine gate_callee (f := 12) rfl ?_); refine goesL_ (some 16) rfl rfl Try.func12 (by kernel_rfl) rfl #[.int .i64 a0] rfl (by (try simp only [List.map_toArray, List.map_cons, List.map_nil]); first | done | rfl | (simp only [List.length_drop, List.length_take]; rfl)) ?_; (with_reducible refine (jacquardref27_Has.calls a0 true _ A6.out).mono ?_); rintro e w' ⟨rfl, ⟨nd, rfl⟩⟩; refine ⟨_, rfl, ?_⟩) | ((with_reducible refine gate_callee (f := 13) rfl ?_); refine goesL_ (some 26) rfl rfl Try.func13 (by kernel_rfl) rfl #[.int .i64 a1] rfl (by (try simp only [List.map_toArray, List.map_cons, List.map_nil]); first | done | rfl | (simp only [List.length_drop, List.length_take]; rfl)) ?_; (with_reducible refine (jacquardref01_Right.calls a1 false _ A8.out).mono ?_); rintro e w' ⟨rfl, ⟨nd, rfl⟩⟩; refine ⟨_, rfl, ?_⟩))
          go_ret
          exact ⟨by first | rfl | (simp [errW_none, errW_some] <;> rfl) | (simp [*, errW_none, errW_some] <;> rfl), by repeat (first | (with_reducible first | exact HB.out | apply below_alloc | apply pw_below_drewN | apply below_drew1 | refine below_set ?_ GE242.out) | exact HB.out)⟩
        · rw [if_neg c19] at H
          have c19b0 : (t241 == 13) = false := beq_eq_false_iff_ne.mpr c19
          have c19b1 : (t241 != 13) = true := bne_iff_ne.mpr c19
          exact absurd ((Option.some.inj H).trans HRT_.out) Bool.false_ne_true
    · replace c7 := Bool.eq_false_iff.mpr c7
      subst c7
      have H1 : (if t241 = 1 then (some (t235 == 0 && (t236 == 0 && (t237 == 0 && (t238 == 0 && (t239 == 0 && (t240 == 0))))))) else (some false)) = some r := by rw [if_neg (show ¬ (false = true) by decide)] at H; exact H
      clear H
      have H := H1
      clear H1
      by_cases c24 : t241 = 1
      · rw [if_pos c24] at H
        have c24b0 : (t241 == 1) = true := beq_iff_eq.mpr c24
        have c24b1 : (t241 != 1) = false := bne_eq_false_iff_eq.mpr c24
        clear c24
        obtain rfl := Option.some.inj H
        go_enter Try.func3, Try.ntmps3
        go_wp2_with (first | ((with_reducible refine gate_callee (f := 10) rfl ?_); refine goesL_ (some 7) rfl rfl Try.func10 (by kernel_rfl) rfl #[] rfl (by (try simp only [List.map_toArray, List.map_cons, List.map_nil]); first | done | rfl | (simp only [List.length_drop, List.length_take]; rfl)) ?_; (with_reducible refine (jacquardlaw27_awake.calls k  true _ A3.out).mono ?_); rintro e w25 ⟨rfl, hb⟩; refine ⟨_, rfl, ?_⟩; have n0_ := Aside0.mk (below_step (by repeat (first | (with_reducible first | exact HB.out | apply below_alloc | apply pw_below_drewN | apply below_drew1) | exact HB.out)) hb); clear HB; have HB := n0_; clear n0_; (try clear hb); (try clear hb2); (try clear hk); (try clear hi)) | ((with_reducible refine gate_callee (f := 11) rfl ?_); refine goesL_ (some 12) rfl rfl Try.func11 (by kernel_rfl) rfl #[.int .i64 a0, .int .i64 a1] rfl (by (try simp only [List.map_toArray, List.map_cons, List.map_nil]); first | done | rfl | (simp only [List.length_drop, List.length_take]; rfl)) ?_; (with_reducible refine (library_Of.calls k a0 a1 t235 t236 t237 t238 t239 t240 t241 _ A5.out).mono ?_); rintro e w26 ⟨rfl, hb⟩; refine ⟨_, rfl, ?_⟩; have n0_ := Aside0.mk (below_step (by repeat (first | (with_reducible first | exact HB.out | apply below_alloc | apply pw_below_drewN | apply below_drew1) | exact HB.out)) hb); clear HB; have HB := n0_; clear n0_; (try clear hb); (try clear hb2); (try clear hk); (try clear hi)) | ((with_reducible refine gate_dst (N := 5) rfl ?_); refine box_event ?hg (N := 5) ?hd (cs := #[.int .i64 0, .int .i64 0, .int .i64 0, .int .i64 0, .int .i64 0, .int .i64 0]) (t := 24) ?hr ?_; (case hd => rfl); (case hg => rfl); (case hr => first | (go_simp; done) | (go_simp; rfl)); intro gb242 hg w27 hbox hb; have n0_ := Aside0.mk (below_step (by repeat (first | (with_reducible first | exact HB.out | apply below_alloc | apply pw_below_drewN | apply below_drew1) | exact HB.out)) hb); have n1_ := Aside0.mk (hbox); have n2_ := Aside0.mk ((by rw [hg]; exact (below_size (by repeat (first | (with_reducible first | exact HB.out | apply below_alloc | apply pw_below_drewN | apply below_drew1) | exact HB.out))) : w.heap.size ≤ gb242)); have n3_ := Aside0.mk ((by rw [hg]; exact (below_size (by repeat (first | (with_reducible first | exact HB.out | apply below_alloc | apply pw_below_drewN | apply below_drew1) | exact HB.out))) : w.heap.size ≤ gb242)); clear HB; have HB := n0_; have BK242 := n1_; have GW242 := n2_; have GE242 := n3_; clear n0_ n1_ n2_ n3_; clear hb hbox hg; have hcz28_0 : w27.cell? ⟨gb242, 0, none⟩ = some (.int .i64 0) := (blk_cell BK242.out 0).trans rfl; have hcz28_1 : w27.cell? ⟨gb242, 1, none⟩ = some (.int .i64 0) := (blk_cell BK242.out 1).trans rfl; have hcz28_2 : w27.cell? ⟨gb242, 2, none⟩ = some (.int .i64 0) := (blk_cell BK242.out 2).trans rfl; have hcz28_3 : w27.cell? ⟨gb242, 3, none⟩ = some (.int .i64 0) := (blk_cell BK242.out 3).trans rfl; have hcz28_4 : w27.cell? ⟨gb242, 4, none⟩ = some (.int .i64 0) := (blk_cell BK242.out 4).trans rfl; have hcz28_5 : w27.cell? ⟨gb242, 5, none⟩ = some (.int .i64 0) := (blk_cell BK242.out 5).trans rfl; have hfz28_0 := blk_frozen BK242.out 0; have hfz28_1 := blk_frozen BK242.out 1; have hfz28_2 := blk_frozen BK242.out 2; have hfz28_3 := blk_frozen BK242.out 3; have hfz28_4 := blk_frozen BK242.out 4; have hfz28_5 := blk_frozen BK242.out 5) | ((with_reducible refine gate_callee (f := 12) rfl ?_); refine goesL_ (some 16) rfl rfl Try.func12 (by kernel_rfl) rfl #[.int .i64 a0] rfl (by (try simp only [List.map_toArray, List.map_cons, List.map_nil]); first | done | rfl | (simp only [List.length_drop, List.length_take]; rfl)) ?_; (with_reducible refine (jacquardref27_Has.calls a0 false _ A6.out).mono ?_); rintro e w' ⟨rfl, ⟨nd, rfl⟩⟩; refine ⟨_, rfl, ?_⟩))
        go_ret
        exact ⟨by first | rfl | (simp [errW_none, errW_some] <;> rfl) | (simp [*, errW_none, errW_some] <;> rfl), by repeat (first | (with_reducible first | exact HB.out | apply below_alloc | apply pw_below_drewN | apply below_drew1 | refine below_set ?_ GE242.out) | exact HB.out)⟩
      · rw [if_neg c24] at H
        have c24b0 : (t241 == 1) = false := beq_eq_false_iff_ne.mpr c24
        have c24b1 : (t241 != 1) = true := bne_iff_ne.mpr c24
        exact absurd ((Option.some.inj H).trans HRT_.out) Bool.false_ne_true
  · replace c4 := Bool.eq_false_iff.mpr c4
    subst c4
    have H1 : (some false) = some r := by rw [if_neg (show ¬ (false = true) by decide)] at H; exact H
    clear H
    have H := H1
    clear H1
    exact absurd ((Option.some.inj H).trans HRT_.out) Bool.false_ne_true

/-- THE ONE PURE STATEMENT of jacquardlaw27_LibraryTable: yours. -/
def jacquardlaw27_LibraryTable.Pure : Prop := ∀ (a0 : Int) (a1 : Int), (Lit.int .i64 a0).wf = true → (Lit.int .i64 a1).wf = true → ∃ k, jacquardlaw27_LibraryTable.f k a0 a1 = some true
theorem jacquardlaw27_LibraryTable.walk (P : jacquardlaw27_LibraryTable.Pure) (a0 : Int) (a1 : Int) (w : World) (w0 : (Lit.int .i64 a0).wf = true) (w1 : (Lit.int .i64 a1).wf = true) :
    Calls Try.prog 3 #[.int .i64 a0, .int .i64 a1] w fun e w' => e = .returned (.bool true) ∧ Below w.heap.size w w' := by
  obtain ⟨k, h⟩ := P a0 a1 w0 w1
  refine (jacquardlaw27_LibraryTable.calls k a0 a1 true w h rfl).mono ?_
  rintro e w' ⟨rfl, hd⟩
  exact ⟨rfl, hd⟩

end Go.Proofs.Ytmacdopdogodoaa.PAll
