-- Written for this claim by programs of this session (wip/print2 in its repo: a changed printer, a shortener, a packer). Lean checks it.
import Derived.Test.YtmefaegcoogmiaaP0
import Derived.Test.YtmefaegcoogmiaaF40
namespace Go.Proofs.Ytmefaegcoogmiaa.PAll
open Go.RowKit Go.Proofs.YtmefaegcoogmiaaW.PrintWords Go.Proofs.YtmefaegcoogmiaaW.PrintLast Go.Proofs.YtmefaegcoogmiaaW.PrintMore
attribute [local go_sem] max2_int min2_int max_two min_two max_three min_three max_four min_four   -- for this text's walks alone
set_option linter.unusedVariables false
set_option linter.unusedSimpArgs false

/-! ### jacquardref08_Succs: function 41 -/
mutual
def jacquardref08_Succs.l0 : Nat → Int → List Int → Int → ByteArray → List Int → List (S75) → List (S77) → List Int → List (S66) → Option (List Int)
  | 0, _, _, _, _, _, _, _, _, _ => none
  | k + 1, x1, x5, x6, x326000, x326001, x326002, x326003, x326004, x326005 => if x1 ≥ 0 then (if x1 < (x326005.length : Int) then (jacquardref08_Succs.j1 k x1 x5 x6 (decide (x6 < (x326005.length : Int))) x326000 x326001 x326002 x326003 x326004 x326005) else (jacquardref08_Succs.j1 k x1 x5 x6 false x326000 x326001 x326002 x326003 x326004 x326005)) else (jacquardref08_Succs.j1 k x1 x5 x6 false x326000 x326001 x326002 x326003 x326004 x326005)
def jacquardref08_Succs.j1 : Nat → Int → List Int → Int → Bool → ByteArray → List Int → List (S75) → List (S77) → List Int → List (S66) → Option (List Int)
  | 0, _, _, _, _, _, _, _, _, _, _ => none
  | k + 1, x1, x5, x6, x23, x326000, x326001, x326002, x326003, x326004, x326005 => if x23 = true then (jacquardref08_Succs.l1 k x1 x5 x6 0 x326000 x326001 x326002 x326003 x326004 x326005) else (some x5)
def jacquardref08_Succs.l1 : Nat → Int → List Int → Int → Int → ByteArray → List Int → List (S75) → List (S77) → List Int → List (S66) → Option (List Int)
  | 0, _, _, _, _, _, _, _, _, _, _ => none
  | k + 1, x1, x5, x6, x7, x326000, x326001, x326002, x326003, x326004, x326005 => if 0 ≤ x1 then (if x1 < (x326005.length : Int) then (if x7 < (((rd_T66 x326005 x1).f2.f2).length : Int) then (if 0 ≤ x7 then (if ((rd_T71 ((rd_T66 x326005 x1).f2.f2) x7).f0) = x6 then ((jacquardref08_Has.f k x5 x6).bind fun t329 => (if t329 = true then (jacquardref08_Succs.l1 k x1 x5 x6 (wrap64 (x7 + 1)) x326000 x326001 x326002 x326003 x326004 x326005) else (if x5.length < 17592186044416 then (jacquardref08_Succs.l1 k x1 (x5 ++ [x6]) x6 (wrap64 (x7 + 1)) x326000 x326001 x326002 x326003 x326004 x326005) else (none)))) else (jacquardref08_Succs.l1 k x1 x5 x6 (wrap64 (x7 + 1)) x326000 x326001 x326002 x326003 x326004 x326005)) else (none)) else (jacquardref08_Succs.l0 k x1 x5 (wrap64 (x6 + 1)) x326000 x326001 x326002 x326003 x326004 x326005)) else (none)) else (none)
end
def jacquardref08_Succs.f (k : Nat) (a0_0 : ByteArray) (l0_1 : List Int) (l0_2 : List (S75)) (l0_3 : List (S77)) (l0_4 : List Int) (l0_5 : List (S66)) (a1 : Int) : Option (List Int) := jacquardref08_Succs.l0 k a1 ([] : List Int) 0 a0_0 l0_1 l0_2 l0_3 l0_4 l0_5
theorem jacquardref08_Succs.mono_l : ∀ k, (∀ y0 y1 y2 y3 y4 y5 y6 y7 y8, LeO (jacquardref08_Succs.l0 k y0 y1 y2 y3 y4 y5 y6 y7 y8) (jacquardref08_Succs.l0 (k + 1) y0 y1 y2 y3 y4 y5 y6 y7 y8)) ∧ (∀ y0 y1 y2 y3 y4 y5 y6 y7 y8 y9, LeO (jacquardref08_Succs.j1 k y0 y1 y2 y3 y4 y5 y6 y7 y8 y9) (jacquardref08_Succs.j1 (k + 1) y0 y1 y2 y3 y4 y5 y6 y7 y8 y9)) ∧ (∀ y0 y1 y2 y3 y4 y5 y6 y7 y8 y9, LeO (jacquardref08_Succs.l1 k y0 y1 y2 y3 y4 y5 y6 y7 y8 y9) (jacquardref08_Succs.l1 (k + 1) y0 y1 y2 y3 y4 y5 y6 y7 y8 y9))
  | 0 => ⟨fun _ _ _ _ _ _ _ _ _ r h => by simp [jacquardref08_Succs.l0] at h, fun _ _ _ _ _ _ _ _ _ _ r h => by simp [jacquardref08_Succs.j1] at h, fun _ _ _ _ _ _ _ _ _ _ r h => by simp [jacquardref08_Succs.l1] at h⟩
  | k + 1 => by
    obtain ⟨ih0, ih1, ih2⟩ := jacquardref08_Succs.mono_l k
    refine ⟨?_, ?_, ?_⟩
    · intro y0 y1 y2 y3 y4 y5 y6 y7 y8
      unfold jacquardref08_Succs.l0
      repeat' first
      | (with_reducible exact ih0 _ _ _ _ _ _ _ _ _)
      | (with_reducible exact ih1 _ _ _ _ _ _ _ _ _ _)
      | (with_reducible exact ih2 _ _ _ _ _ _ _ _ _ _)
      | (with_reducible exact jacquardref08_Has.mono _ _ _)
      | (with_reducible exact LeO.refl _)
      | (with_reducible exact LeO.none _)
      | (with_reducible refine LeO.ite ?_ ?_)
      | (with_reducible refine LeO.bind ?_ (fun _ => ?_))
      | exact ih0 _ _ _ _ _ _ _ _ _
      | exact ih1 _ _ _ _ _ _ _ _ _ _
      | exact ih2 _ _ _ _ _ _ _ _ _ _
      | exact jacquardref08_Has.mono _ _ _
      | exact LeO.none _
      | refine LeO.ite ?_ ?_
      | refine LeO.bind ?_ (fun _ => ?_)
    · intro y0 y1 y2 y3 y4 y5 y6 y7 y8 y9
      unfold jacquardref08_Succs.j1
      repeat' first
      | (with_reducible exact ih0 _ _ _ _ _ _ _ _ _)
      | (with_reducible exact ih1 _ _ _ _ _ _ _ _ _ _)
      | (with_reducible exact ih2 _ _ _ _ _ _ _ _ _ _)
      | (with_reducible exact jacquardref08_Has.mono _ _ _)
      | (with_reducible exact LeO.refl _)
      | (with_reducible exact LeO.none _)
      | (with_reducible refine LeO.ite ?_ ?_)
      | (with_reducible refine LeO.bind ?_ (fun _ => ?_))
      | exact ih0 _ _ _ _ _ _ _ _ _
      | exact ih1 _ _ _ _ _ _ _ _ _ _
      | exact ih2 _ _ _ _ _ _ _ _ _ _
      | exact jacquardref08_Has.mono _ _ _
      | exact LeO.none _
      | refine LeO.ite ?_ ?_
      | refine LeO.bind ?_ (fun _ => ?_)
    · intro y0 y1 y2 y3 y4 y5 y6 y7 y8 y9
      unfold jacquardref08_Succs.l1
      repeat' first
      | (with_reducible exact ih0 _ _ _ _ _ _ _ _ _)
      | (with_reducible exact ih1 _ _ _ _ _ _ _ _ _ _)
      | (with_reducible exact ih2 _ _ _ _ _ _ _ _ _ _)
      | (with_reducible exact jacquardref08_Has.mono _ _ _)
      | (with_reducible exact LeO.refl _)
      | (with_reducible exact LeO.none _)
      | (with_reducible refine LeO.ite ?_ ?_)
      | (with_reducible refine LeO.bind ?_ (fun _ => ?_))
      | exact ih0 _ _ _ _ _ _ _ _ _
      | exact ih1 _ _ _ _ _ _ _ _ _ _
      | exact ih2 _ _ _ _ _ _ _ _ _ _
      | exact jacquardref08_Has.mono _ _ _
      | exact LeO.none _
      | refine LeO.ite ?_ ?_
      | refine LeO.bind ?_ (fun _ => ?_)
theorem jacquardref08_Succs.mono : ∀ a0 a1 a2 a3 a4 a5 a6 k, LeO (jacquardref08_Succs.f k a0 a1 a2 a3 a4 a5 a6) (jacquardref08_Succs.f (k + 1) a0 a1 a2 a3 a4 a5 a6) := by
 intro a0 a1 a2 a3 a4 a5 a6 k
 obtain ⟨ih0, ih1, ih2⟩ := jacquardref08_Succs.mono_l k
 unfold jacquardref08_Succs.f
 repeat' first
     | (with_reducible exact ih0 _ _ _ _ _ _ _ _ _)
     | (with_reducible exact ih1 _ _ _ _ _ _ _ _ _ _)
     | (with_reducible exact ih2 _ _ _ _ _ _ _ _ _ _)
     | (with_reducible exact jacquardref08_Has.mono _ _ _)
     | (with_reducible exact LeO.refl _)
     | (with_reducible exact LeO.none _)
     | (with_reducible refine LeO.ite ?_ ?_)
     | (with_reducible refine LeO.bind ?_ (fun _ => ?_))
     | exact ih0 _ _ _ _ _ _ _ _ _
     | exact ih1 _ _ _ _ _ _ _ _ _ _
     | exact ih2 _ _ _ _ _ _ _ _ _ _
     | exact jacquardref08_Has.mono _ _ _
     | exact LeO.none _
     | refine LeO.ite ?_ ?_
     | refine LeO.bind ?_ (fun _ => ?_)
set_option maxHeartbeats 8000000 in
set_option maxRecDepth 100000 in
theorem jacquardref08_Succs.calls (k : Nat) (a0_0 : ByteArray) (A0_1 : Option Addr) (c0_1 : Nat) (l0_1 : List Int) (A0_2 : Option Addr) (c0_2 : Nat) (l0_2 : List (S75)) (A0_3 : Option Addr) (c0_3 : Nat) (l0_3 : List (S77)) (A0_4 : Option Addr) (c0_4 : Nat) (l0_4 : List Int) (A0_5 : Option Addr) (c0_5 : Nat) (l0_5 : List (S66)) (a1 : Int) (r : List Int) (w : World) (hr0_1 : Kd.C (Kd.int .i64) w A0_1 l0_1.length l0_1) (hc0_1 : l0_1.length ≤ c0_1) (hr0_2 : Kd.C k75 w A0_2 l0_2.length l0_2) (hc0_2 : l0_2.length ≤ c0_2) (hr0_3 : Kd.C k77 w A0_3 l0_3.length l0_3) (hc0_3 : l0_3.length ≤ c0_3) (hr0_4 : Kd.C (Kd.int .i64) w A0_4 l0_4.length l0_4) (hc0_4 : l0_4.length ≤ c0_4) (hr0_5 : Kd.C k66 w A0_5 l0_5.length l0_5) (hc0_5 : l0_5.length ≤ c0_5) (h : jacquardref08_Succs.f k a0_0 l0_1 l0_2 l0_3 l0_4 l0_5 a1 = some r) :
    Calls Try.prog 41 #[.agg #[.string a0_0, .slice A0_1 l0_1.length c0_1, .slice A0_2 l0_2.length c0_2, .slice A0_3 l0_3.length c0_3, .slice A0_4 l0_4.length c0_4, .slice A0_5 l0_5.length c0_5], .int .i64 a1] w fun e w' => ∃ v0_ : Value, e = .returned (v0_) ∧ Kd.R (Kd.int .i64) 3 w' w.heap.size (fun _ => True) v0_ r ∧ Below w.heap.size w w' := by
 have hu27 := Try.underlying27
 have HR0_1 := Aside0.mk hr0_1
 have HC0_1 := Aside0.mk hc0_1
 clear hr0_1 hc0_1
 have HR0_2 := Aside0.mk hr0_2
 have HC0_2 := Aside0.mk hc0_2
 clear hr0_2 hc0_2
 have HR0_3 := Aside0.mk hr0_3
 have HC0_3 := Aside0.mk hc0_3
 clear hr0_3 hc0_3
 have HR0_4 := Aside0.mk hr0_4
 have HC0_4 := Aside0.mk hc0_4
 clear hr0_4 hc0_4
 have HR0_5 := Aside0.mk hr0_5
 have HC0_5 := Aside0.mk hc0_5
 clear hr0_5 hc0_5
 have HB := Aside0.mk (Below.refl w.heap.size w)
 have H : (jacquardref08_Succs.l0 k a1 ([] : List Int) 0 a0_0 l0_1 l0_2 l0_3 l0_4 l0_5) = some r := h
 clear h
 have H' := Aside0.mk H
 clear H
 go_enter Try.func41, Try.ntmps41
 go_wp2_with (first | ((with_reducible refine gate_dst (N := 2) rfl ?_); (try (refine gate_guard (by rfl) ?_; dsimp only)); refine box_event ?hg (N := 2) ?hd (cs := #[.string a0_0, .slice A0_1 l0_1.length c0_1, .slice A0_2 l0_2.length c0_2, .slice A0_3 l0_3.length c0_3, .slice A0_4 l0_4.length c0_4, .slice A0_5 l0_5.length c0_5]) (t := 27) ?hr ?_; (case hd => rfl); (case hg => rfl); (case hr => first | (go_simp; done) | (go_simp; rfl)); intro gb325 hg w3 hbox hb; have n0_ := Aside0.mk (below_step bl_ hb); have n1_ := Aside0.mk (hbox); have n2_ := Aside0.mk (gl_ (w := w) hg); have n3_ := Aside0.mk (gl_ (w := w) hg); clear HB; have HB := n0_; have BK325 := n1_; have GW325 := n2_; have GE325 := n3_; clear n0_ n1_ n2_ n3_; clear hb hbox hg))
 go_loopg [5, 6] k (fun kq v5 v6 w' => ∃ (x5_1 : List Int) (x6_1 : Int), v6 = .int .i64 x6_1 ∧ Aside0 (jacquardref08_Succs.l0 kq a1 x5_1 x6_1 a0_0 l0_1 l0_2 l0_3 l0_4 l0_5 = some r) ∧ Aside0 (kq ≤ k) ∧ Aside0 (Kd.R (Kd.int .i64) 3 w' w.heap.size (fun _ => True) v5 x5_1) ∧ Aside0 (w'.heap[gb325]? = some (.cells #[.string a0_0, (.slice A0_1 l0_1.length c0_1), (.slice A0_2 l0_2.length c0_2), (.slice A0_3 l0_3.length c0_3), (.slice A0_4 l0_4.length c0_4), (.slice A0_5 l0_5.length c0_5)] 27 (0, 0))) ∧ Aside0 (Below w.heap.size w w'))
 case atStart => exact ⟨(([] : List Int)), (0), (by first | rfl | (simp; done) | (simp [*]; done)), H', ⟨Nat.le_refl _⟩, ⟨by first | exact Kd.R_nil _ _ _ _ _ | exact Kd.N_nil _ _ _ _ _ | exact Kd.V_nil _ _ _ _ _ | exact Kd.Q_nil _ _ _ _ _ | exact Kd.S_nil _ _ _ _ _⟩, ⟨K_ BK325⟩, ⟨bl_⟩⟩
 clear H'
 try clear p2
 obtain ⟨x5_1, x6_1, rfl, HA, HK1, HO_5, BK325, HB⟩ := hrel
 cases gk with
 | zero => exact absurd HA.out (by simp [jacquardref08_Succs.l0])
 | succ k1 => ?_
 have H := HA.out
 clear HA
 simp only [jacquardref08_Succs.l0] at H
 have HC4 := Aside0.mk H
 clear H
 go_upto_region 3 with (fail)
 go_cut [23] (fun v23 wc => ∃ (kq : Nat) (x23_3 : Bool), v23 = .bool x23_3 ∧ Aside0 (jacquardref08_Succs.j1 kq a1 x5_1 x6_1 x23_3 a0_0 l0_1 l0_2 l0_3 l0_4 l0_5 = some r) ∧ Aside0 (kq ≤ k1) ∧ Aside0 (Kd.R (Kd.int .i64) 3 wc w.heap.size (fun _ => True) u5 x5_1) ∧ Aside0 (wc.heap[gb325]? = some (.cells #[.string a0_0, (.slice A0_1 l0_1.length c0_1), (.slice A0_2 l0_2.length c0_2), (.slice A0_3 l0_3.length c0_3), (.slice A0_4 l0_4.length c0_4), (.slice A0_5 l0_5.length c0_5)] 27 (0, 0))) ∧ Aside0 (Below w.heap.size w wc))
 case first =>
  have H := HC4.out
  clear HC4
  by_cases c5 : a1 ≥ 0
  · rw [if_pos c5] at H
    have c5b0 : decide (0 ≤ a1) = true := decide_eq_true c5
    clear c5
    (first | rw [c5b0] | (simp only [i64_w, i32_w]; rw [c5b0]) | skip)
    by_cases c6 : a1 < (l0_5.length : Int)
    · rw [if_pos c6] at H
      have c6b0 : decide (a1 < (l0_5.length : Int)) = true := decide_eq_true c6
      clear c6
      have H' := Aside0.mk H
      clear H
      obtain ⟨hcz7_0, hcz7_1, hcz7_2, hcz7_3, hcz7_4, hcz7_5⟩ := cells6 BK325
      obtain ⟨hfz7_0, hfz7_1, hfz7_2, hfz7_3, hfz7_4, hfz7_5⟩ := fz6 BK325
      go_wp2
      go_meet
      case rel => exact ⟨_, (decide (x6_1 < (l0_5.length : Int))), (by first | rfl | (simp; done) | (simp [*]; done)), H', ⟨by have := HK1.out; first | omega | exact Nat.le_refl _⟩, ⟨R_ HO_5⟩, ⟨K_ BK325⟩, ⟨bl_⟩⟩
    rw [if_neg c6] at H
    have c6b0 : decide (a1 < (l0_5.length : Int)) = false := decide_eq_false c6
    clear c6
    have H' := Aside0.mk H
    clear H
    obtain ⟨hcz8_0, hcz8_1, hcz8_2, hcz8_3, hcz8_4, hcz8_5⟩ := cells6 BK325
    obtain ⟨hfz8_0, hfz8_1, hfz8_2, hfz8_3, hfz8_4, hfz8_5⟩ := fz6 BK325
    go_wp2
    go_meet
    case rel => exact ⟨_, (false), (by first | rfl | (simp; done) | (simp [*]; done)), H', ⟨by have := HK1.out; first | omega | exact Nat.le_refl _⟩, ⟨R_ HO_5⟩, ⟨K_ BK325⟩, ⟨bl_⟩⟩
  rw [if_neg c5] at H
  have c5b0 : decide (0 ≤ a1) = false := decide_eq_false c5
  clear c5
  (first | rw [c5b0] | (simp only [i64_w, i32_w]; rw [c5b0]) | skip)
  have H' := Aside0.mk H
  clear H
  go_wp2
  go_meet
  case rel => exact ⟨_, (false), (by first | rfl | (simp; done) | (simp [*]; done)), H', ⟨by have := HK1.out; first | omega | exact Nat.le_refl _⟩, ⟨R_ HO_5⟩, ⟨K_ BK325⟩, ⟨bl_⟩⟩
 clear HC4
 (try clear p2); (try clear c4); (try clear c5); (try clear c5b0); (try clear c6); (try clear c6b0); (try clear hcz7_0); (try clear hcz7_1); (try clear hcz7_2); (try clear hcz7_3); (try clear hcz7_4); (try clear hcz7_5); (try clear hcz8_0); (try clear hcz8_1); (try clear hcz8_2); (try clear hcz8_3); (try clear hcz8_4); (try clear hcz8_5); (try clear hfz7_0); (try clear hfz7_1); (try clear hfz7_2); (try clear hfz7_3); (try clear hfz7_4); (try clear hfz7_5); (try clear hfz8_0); (try clear hfz8_1); (try clear hfz8_2); (try clear hfz8_3); (try clear hfz8_4); (try clear hfz8_5); (try clear p2)
 obtain ⟨kq, x23_3, rfl, HA, HJ3, HO_5, BK325, HB⟩ := hcut
 cases kq with
 | zero => exact absurd HA.out (by simp [jacquardref08_Succs.j1])
 | succ kj3 => ?_
 have H := HA.out
 clear HA
 simp only [jacquardref08_Succs.j1] at H
 by_cases c9 : x23_3 = true
 · subst c9
   have H1 : (jacquardref08_Succs.l1 kj3 a1 x5_1 x6_1 0 a0_0 l0_1 l0_2 l0_3 l0_4 l0_5) = some r := by rw [if_pos rfl] at H; exact H
   clear H
   have H := H1
   clear H1
   have H' := Aside0.mk H
   clear H
   go_wp2
   go_loopg [5, 7] kj3 (fun kq v5 v7 w' => ∃ (x5_3 : List Int) (x7_3 : Int), v7 = .int .i64 x7_3 ∧ Aside0 (jacquardref08_Succs.l1 kq a1 x5_3 x6_1 x7_3 a0_0 l0_1 l0_2 l0_3 l0_4 l0_5 = some r) ∧ Aside0 (kq ≤ kj3) ∧ Aside0 (Kd.R (Kd.int .i64) 3 w' w.heap.size (fun _ => True) v5 x5_3) ∧ Aside0 (w'.heap[gb325]? = some (.cells #[.string a0_0, (.slice A0_1 l0_1.length c0_1), (.slice A0_2 l0_2.length c0_2), (.slice A0_3 l0_3.length c0_3), (.slice A0_4 l0_4.length c0_4), (.slice A0_5 l0_5.length c0_5)] 27 (0, 0))) ∧ Aside0 (Below w.heap.size w w'))
   case atStart => exact ⟨(x5_1), (0), (by first | rfl | (simp; done) | (simp [*]; done)), H', ⟨Nat.le_refl _⟩, ⟨R_ HO_5⟩, ⟨K_ BK325⟩, ⟨bl_⟩⟩
   clear H'
   (try clear p2); (try clear c4); (try clear c5); (try clear c5b0); (try clear c6); (try clear c6b0); (try clear c9); (try clear hcz7_0); (try clear hcz7_1); (try clear hcz7_2); (try clear hcz7_3); (try clear hcz7_4); (try clear hcz7_5); (try clear hcz8_0); (try clear hcz8_1); (try clear hcz8_2); (try clear hcz8_3); (try clear hcz8_4); (try clear hcz8_5); (try clear hfz7_0); (try clear hfz7_1); (try clear hfz7_2); (try clear hfz7_3); (try clear hfz7_4); (try clear hfz7_5); (try clear hfz8_0); (try clear hfz8_1); (try clear hfz8_2); (try clear hfz8_3); (try clear hfz8_4); (try clear hfz8_5); (try clear p2)
   obtain ⟨x5_3, x7_3, rfl, HA, HK3, HO_5, BK325, HB⟩ := hrel
   cases gk with
   | zero => exact absurd HA.out (by simp [jacquardref08_Succs.l1])
   | succ k3 => ?_
   have H := HA.out
   clear HA
   simp only [jacquardref08_Succs.l1] at H
   by_cases c10 : 0 ≤ a1
   · rw [if_pos c10] at H
     have c10b0 : decide (0 ≤ a1) = true := decide_eq_true c10
     clear c10
     by_cases c11 : a1 < (l0_5.length : Int)
     · rw [if_pos c11] at H
       have c11b0 : decide (a1 < (l0_5.length : Int)) = true := decide_eq_true c11
       clear c11
       by_cases c12 : x7_3 < (((rd_T66 l0_5 a1).f2.f2).length : Int)
       · rw [if_pos c12] at H
         have c12b0 : decide (x7_3 < (((rd_T66 l0_5 a1).f2.f2).length : Int)) = true := decide_eq_true c12
         clear c12
         by_cases c13 : 0 ≤ x7_3
         · rw [if_pos c13] at H
           have c13b0 : decide (0 ≤ x7_3) = true := decide_eq_true c13
           clear c13
           by_cases c14 : ((rd_T71 ((rd_T66 l0_5 a1).f2.f2) x7_3).f0) = x6_1
           · rw [if_pos c14] at H
             have c14b0 : (((rd_T71 ((rd_T66 l0_5 a1).f2.f2) x7_3).f0) == x6_1) = true := beq_iff_eq.mpr c14
             have c14b1 : (((rd_T71 ((rd_T66 l0_5 a1).f2.f2) x7_3).f0) != x6_1) = false := bne_eq_false_iff_eq.mpr c14
             clear c14
             replace H := Option.bind_eq_some_iff.mp H
             obtain ⟨t329, A150, H⟩ := H
             replace H : (if t329 = true then (jacquardref08_Succs.l1 k3 a1 x5_3 x6_1 (wrap64 (x7_3 + 1)) a0_0 l0_1 l0_2 l0_3 l0_4 l0_5) else (if x5_3.length < 17592186044416 then (jacquardref08_Succs.l1 k3 a1 (x5_3 ++ [x6_1]) x6_1 (wrap64 (x7_3 + 1)) a0_0 l0_1 l0_2 l0_3 l0_4 l0_5) else (none))) = some r := H
             have A15 := Aside0.mk A150
             clear A150
             by_cases c16 : t329 = true
             · subst c16
               have H1 : (jacquardref08_Succs.l1 k3 a1 x5_3 x6_1 (wrap64 (x7_3 + 1)) a0_0 l0_1 l0_2 l0_3 l0_4 l0_5) = some r := by rw [if_pos rfl] at H; exact H
               clear H
               have H := H1
               clear H1
               have H' := Aside0.mk H
               clear H
               obtain ⟨hcz17_0, hcz17_1, hcz17_2, hcz17_3, hcz17_4, hcz17_5⟩ := cells6 BK325
               obtain ⟨hfz17_0, hfz17_1, hfz17_2, hfz17_3, hfz17_4, hfz17_5⟩ := fz6 BK325
               have p326 : 0 ≤ (a1 : Int) := of_decide_eq_true (by first | (with_reducible assumption) | assumption)
               have q326 : a1 < (l0_5.length : Int) := of_decide_eq_true (by first | (with_reducible assumption) | assumption)
               obtain ⟨ad326, A326_0, c326_0, A326_1, c326_1, A326_4, c326_4, A326_5, c326_5, e326, hx326_0, hx326_1, hx326_2, hx326_3, hx326_4, hx326_5, hx326_6, hx326_7, hx326_8, hl326_0, hi326_0, hl326_1, hi326_1, hl326_4, hi326_4, hl326_5, hi326_5⟩ := at_T66 HR0_5.out a1 p326 q326
               cases e326
               replace hx326_0 := hc_ HB hx326_0
               replace hx326_1 := hc_ HB hx326_1
               replace hx326_2 := hc_ HB hx326_2
               replace hx326_3 := hc_ HB hx326_3
               replace hx326_4 := hc_ HB hx326_4
               replace hx326_5 := hc_ HB hx326_5
               replace hx326_6 := hc_ HB hx326_6
               replace hx326_7 := hc_ HB hx326_7
               replace hx326_8 := hc_ HB hx326_8
               have HR326_0 := Aside0.mk hi326_0
               have HC326_0 := Aside0.mk hl326_0
               clear hi326_0 hl326_0
               have HR326_1 := Aside0.mk hi326_1
               have HC326_1 := Aside0.mk hl326_1
               clear hi326_1 hl326_1
               have HR326_4 := Aside0.mk hi326_4
               have HC326_4 := Aside0.mk hl326_4
               clear hi326_4 hl326_4
               have HR326_5 := Aside0.mk hi326_5
               have HC326_5 := Aside0.mk hl326_5
               clear hi326_5 hl326_5
               replace p326 := eq_true p326
               replace q326 := eq_true q326
               have p327 : 0 ≤ (a1 : Int) := of_decide_eq_true (by first | (with_reducible assumption) | assumption)
               have q327 : a1 < (l0_5.length : Int) := of_decide_eq_true (by first | (with_reducible assumption) | assumption)
               obtain ⟨ad327, A327_0, c327_0, A327_1, c327_1, A327_4, c327_4, A327_5, c327_5, e327, hx327_0, hx327_1, hx327_2, hx327_3, hx327_4, hx327_5, hx327_6, hx327_7, hx327_8, hl327_0, hi327_0, hl327_1, hi327_1, hl327_4, hi327_4, hl327_5, hi327_5⟩ := at_T66 HR0_5.out a1 p327 q327
               obtain rfl : ad326 = ad327 := (by injection e327)
               replace hx327_0 := hc_ HB hx327_0
               replace hx327_1 := hc_ HB hx327_1
               replace hx327_2 := hc_ HB hx327_2
               replace hx327_3 := hc_ HB hx327_3
               replace hx327_4 := hc_ HB hx327_4
               replace hx327_5 := hc_ HB hx327_5
               replace hx327_6 := hc_ HB hx327_6
               replace hx327_7 := hc_ HB hx327_7
               replace hx327_8 := hc_ HB hx327_8
               have HR327_0 := Aside0.mk hi327_0
               have HC327_0 := Aside0.mk hl327_0
               clear hi327_0 hl327_0
               have HR327_1 := Aside0.mk hi327_1
               have HC327_1 := Aside0.mk hl327_1
               clear hi327_1 hl327_1
               have HR327_4 := Aside0.mk hi327_4
               have HC327_4 := Aside0.mk hl327_4
               clear hi327_4 hl327_4
               have HR327_5 := Aside0.mk hi327_5
               have HC327_5 := Aside0.mk hl327_5
               clear hi327_5 hl327_5
               replace p327 := eq_true p327
               replace q327 := eq_true q327
               have ea_ := Option.some.inj (hx326_0.symm.trans hx327_0)
               injection ea_ with ea_ en_ ec_
               subst ea_
               subst ec_
               clear en_
               have ea_ := Option.some.inj (hx326_1.symm.trans hx327_1)
               injection ea_ with ea_ en_ ec_
               subst ea_
               subst ec_
               clear en_
               have ea_ := Option.some.inj (hx326_4.symm.trans hx327_4)
               injection ea_ with ea_ en_ ec_
               subst ea_
               subst ec_
               clear en_
               have ea_ := Option.some.inj (hx326_5.symm.trans hx327_5)
               injection ea_ with ea_ en_ ec_
               subst ea_
               subst ec_
               clear en_
               have p328 : 0 ≤ (x7_3 : Int) := of_decide_eq_true (by first | (with_reducible assumption) | assumption)
               have q328 : x7_3 < (((rd_T66 l0_5 a1).f2.f2).length : Int) := of_decide_eq_true (by first | (with_reducible assumption) | assumption)
               obtain ⟨ad328, A328_1, c328_1, e328, hx328_0, hx328_1, hl328_1, hi328_1⟩ := at_T71 HR327_4.out x7_3 p328 q328
               cases e328
               replace hx328_0 := hc_ HB hx328_0
               replace hx328_1 := hc_ HB hx328_1
               have HR328_1 := Aside0.mk hi328_1
               have HC328_1 := Aside0.mk hl328_1
               clear hi328_1 hl328_1
               replace p328 := eq_true p328
               replace q328 := eq_true q328
               obtain ⟨Ao18, co18, eo18⟩ := Kd.R_slice HO_5.out
               subst eo18
               go_wp2_with (first | (go_at_call 40; (with_reducible refine (jacquardref08_Has.calls k3 _ _ x5_3 x6_1 true _ ?side1 ?side2 A15.out).mono ?_); (case side1 => exact CR_ HO_5); (case side2 => exact (Kd.R_reads' HO_5.out).2.1); rintro e w' ⟨rfl, ⟨nd, rfl⟩⟩))
               go_roundg k3
               case measure => have := HK1.out; have := HJ3.out; have := HK3.out; omega
               case rel => exact ⟨(x5_3), (wrap64 (x7_3 + 1)), (by first | rfl | (simp; done) | (simp [*]; done)), H', ⟨by have := HK1.out; have := HJ3.out; have := HK3.out; omega⟩, ⟨R_ HO_5⟩, ⟨K_ BK325⟩, ⟨bl_⟩⟩
             replace c16 := Bool.eq_false_iff.mpr c16
             subst c16
             have H1 : (if x5_3.length < 17592186044416 then (jacquardref08_Succs.l1 k3 a1 (x5_3 ++ [x6_1]) x6_1 (wrap64 (x7_3 + 1)) a0_0 l0_1 l0_2 l0_3 l0_4 l0_5) else (none)) = some r := by rw [if_neg (show ¬ (false = true) by decide)] at H; exact H
             clear H
             have H := H1
             clear H1
             by_cases c19 : x5_3.length < 17592186044416
             · rw [if_pos c19] at H
               have LMc19 := Aside0.mk c19
               clear c19
               obtain ⟨y330, hy330⟩ : ∃ y_ : List Int, y_ = (x5_3 ++ [x6_1]) := ⟨_, rfl⟩
               replace H : (jacquardref08_Succs.l1 k3 a1 y330 x6_1 (wrap64 (x7_3 + 1)) a0_0 l0_1 l0_2 l0_3 l0_4 l0_5) = some r := by first | (rw [hy330]; with_reducible exact H) | (have H2_ := (Option.bind_some _ _).symm.trans H; rw [hy330]; with_reducible exact H2_) | (have H2_ := (Option.bind_some _ _).symm.trans H; with_reducible exact H2_) | with_reducible exact H | (rw [hy330]; exact H) | exact H
               have Ny330 := Aside0.mk hy330
               clear hy330
               have H' := Aside0.mk H
               clear H
               obtain ⟨hcz20_0, hcz20_1, hcz20_2, hcz20_3, hcz20_4, hcz20_5⟩ := cells6 BK325
               obtain ⟨hfz20_0, hfz20_1, hfz20_2, hfz20_3, hfz20_4, hfz20_5⟩ := fz6 BK325
               have p326 : 0 ≤ (a1 : Int) := of_decide_eq_true (by first | (with_reducible assumption) | assumption)
               have q326 : a1 < (l0_5.length : Int) := of_decide_eq_true (by first | (with_reducible assumption) | assumption)
               obtain ⟨ad326, A326_0, c326_0, A326_1, c326_1, A326_4, c326_4, A326_5, c326_5, e326, hx326_0, hx326_1, hx326_2, hx326_3, hx326_4, hx326_5, hx326_6, hx326_7, hx326_8, hl326_0, hi326_0, hl326_1, hi326_1, hl326_4, hi326_4, hl326_5, hi326_5⟩ := at_T66 HR0_5.out a1 p326 q326
               cases e326
               replace hx326_0 := hc_ HB hx326_0
               replace hx326_1 := hc_ HB hx326_1
               replace hx326_2 := hc_ HB hx326_2
               replace hx326_3 := hc_ HB hx326_3
               replace hx326_4 := hc_ HB hx326_4
               replace hx326_5 := hc_ HB hx326_5
               replace hx326_6 := hc_ HB hx326_6
               replace hx326_7 := hc_ HB hx326_7
               replace hx326_8 := hc_ HB hx326_8
               have HR326_0 := Aside0.mk hi326_0
               have HC326_0 := Aside0.mk hl326_0
               clear hi326_0 hl326_0
               have HR326_1 := Aside0.mk hi326_1
               have HC326_1 := Aside0.mk hl326_1
               clear hi326_1 hl326_1
               have HR326_4 := Aside0.mk hi326_4
               have HC326_4 := Aside0.mk hl326_4
               clear hi326_4 hl326_4
               have HR326_5 := Aside0.mk hi326_5
               have HC326_5 := Aside0.mk hl326_5
               clear hi326_5 hl326_5
               replace p326 := eq_true p326
               replace q326 := eq_true q326
               have p327 : 0 ≤ (a1 : Int) := of_decide_eq_true (by first | (with_reducible assumption) | assumption)
               have q327 : a1 < (l0_5.length : Int) := of_decide_eq_true (by first | (with_reducible assumption) | assumption)
               obtain ⟨ad327, A327_0, c327_0, A327_1, c327_1, A327_4, c327_4, A327_5, c327_5, e327, hx327_0, hx327_1, hx327_2, hx327_3, hx327_4, hx327_5, hx327_6, hx327_7, hx327_8, hl327_0, hi327_0, hl327_1, hi327_1, hl327_4, hi327_4, hl327_5, hi327_5⟩ := at_T66 HR0_5.out a1 p327 q327
               obtain rfl : ad326 = ad327 := (by injection e327)
               replace hx327_0 := hc_ HB hx327_0
               replace hx327_1 := hc_ HB hx327_1
               replace hx327_2 := hc_ HB hx327_2
               replace hx327_3 := hc_ HB hx327_3
               replace hx327_4 := hc_ HB hx327_4
               replace hx327_5 := hc_ HB hx327_5
               replace hx327_6 := hc_ HB hx327_6
               replace hx327_7 := hc_ HB hx327_7
               replace hx327_8 := hc_ HB hx327_8
               have HR327_0 := Aside0.mk hi327_0
               have HC327_0 := Aside0.mk hl327_0
               clear hi327_0 hl327_0
               have HR327_1 := Aside0.mk hi327_1
               have HC327_1 := Aside0.mk hl327_1
               clear hi327_1 hl327_1
               have HR327_4 := Aside0.mk hi327_4
               have HC327_4 := Aside0.mk hl327_4
               clear hi327_4 hl327_4
               have HR327_5 := Aside0.mk hi327_5
               have HC327_5 := Aside0.mk hl327_5
               clear hi327_5 hl327_5
               replace p327 := eq_true p327
               replace q327 := eq_true q327
               have ea_ := Option.some.inj (hx326_0.symm.trans hx327_0)
               injection ea_ with ea_ en_ ec_
               subst ea_
               subst ec_
               clear en_
               have ea_ := Option.some.inj (hx326_1.symm.trans hx327_1)
               injection ea_ with ea_ en_ ec_
               subst ea_
               subst ec_
               clear en_
               have ea_ := Option.some.inj (hx326_4.symm.trans hx327_4)
               injection ea_ with ea_ en_ ec_
               subst ea_
               subst ec_
               clear en_
               have ea_ := Option.some.inj (hx326_5.symm.trans hx327_5)
               injection ea_ with ea_ en_ ec_
               subst ea_
               subst ec_
               clear en_
               have p328 : 0 ≤ (x7_3 : Int) := of_decide_eq_true (by first | (with_reducible assumption) | assumption)
               have q328 : x7_3 < (((rd_T66 l0_5 a1).f2.f2).length : Int) := of_decide_eq_true (by first | (with_reducible assumption) | assumption)
               obtain ⟨ad328, A328_1, c328_1, e328, hx328_0, hx328_1, hl328_1, hi328_1⟩ := at_T71 HR327_4.out x7_3 p328 q328
               cases e328
               replace hx328_0 := hc_ HB hx328_0
               replace hx328_1 := hc_ HB hx328_1
               have HR328_1 := Aside0.mk hi328_1
               have HC328_1 := Aside0.mk hl328_1
               clear hi328_1 hl328_1
               replace p328 := eq_true p328
               replace q328 := eq_true q328
               obtain ⟨Ao21, co21, eo21⟩ := Kd.R_slice HO_5.out
               subst eo21
               go_wp2_with (first | (go_at_call 40; (with_reducible refine (jacquardref08_Has.calls k3 _ _ x5_3 x6_1 false _ ?side1 ?side2 A15.out).mono ?_); (case side1 => exact CR_ HO_5); (case side2 => exact (Kd.R_reads' HO_5.out).2.1); rintro e w' ⟨rfl, ⟨nd, rfl⟩⟩) | ((with_reducible refine gate_builtin (b := .append) (xs := #[.tmp 57, .tmp 59]) rfl ?_); (try (refine gate_guard (by rfl) ?_; dsimp only)); at_builtin; refine Kd.R_append (Kd.int .i64) (w0 := w) w.heap.size rfl (.tmp 57) (.tmp 59) 22 3 (.int .i64 0) 8 rfl Try.underlying22 info3 rfl (by decide) (by omega) (.slice Ao21 x5_3.length co21) x5_3 x6_1 [.int .i64 x6_1] (fun _ => True) (fun _ => False) rfl rfl ?aP (fun _ hk => hk.elim) ?aF ?aO ?aB ?aS ?aL ?_; (case aP => exact rfl); (case aB => exact bl_); (case aF => exact (fun _ _ => trivial)); (case aO => exact (R_ HO_5)); (case aS => exact (below_size bl_)); (case aL => have := LMc19.out; omega); intro v331 w22 ho hb hg hat; rw [← Ny330.out] at ho; have n0_ := Aside0.mk (blk_grown (K_ BK325) hg (Kd.R_ne HO_5.out BK325.out (by decide))); have n1_ := Aside0.mk (hb); have n2_ := Aside0.mk (ho); clear BK325; clear HB; clear HO_5; have BK325 := n0_; have HB := n1_; have HO332 := n2_; clear n0_ n1_ n2_; clear ho hb hg hat))
               go_roundg k3
               case measure => have := HK1.out; have := HJ3.out; have := HK3.out; omega
               case rel => exact ⟨(y330), (wrap64 (x7_3 + 1)), (by first | rfl | (simp; done) | (simp [*]; done)), H', ⟨by have := HK1.out; have := HJ3.out; have := HK3.out; omega⟩, ⟨R_ HO332⟩, ⟨K_ BK325⟩, ⟨bl_⟩⟩
             rw [if_neg c19] at H
             exact absurd H (by simp)
           rw [if_neg c14] at H
           have c14b0 : (((rd_T71 ((rd_T66 l0_5 a1).f2.f2) x7_3).f0) == x6_1) = false := beq_eq_false_iff_ne.mpr c14
           have c14b1 : (((rd_T71 ((rd_T66 l0_5 a1).f2.f2) x7_3).f0) != x6_1) = true := bne_iff_ne.mpr c14
           have H' := Aside0.mk H
           clear H
           obtain ⟨hcz23_0, hcz23_1, hcz23_2, hcz23_3, hcz23_4, hcz23_5⟩ := cells6 BK325
           obtain ⟨hfz23_0, hfz23_1, hfz23_2, hfz23_3, hfz23_4, hfz23_5⟩ := fz6 BK325
           have p326 : 0 ≤ (a1 : Int) := of_decide_eq_true (by first | (with_reducible assumption) | assumption)
           have q326 : a1 < (l0_5.length : Int) := of_decide_eq_true (by first | (with_reducible assumption) | assumption)
           obtain ⟨ad326, A326_0, c326_0, A326_1, c326_1, A326_4, c326_4, A326_5, c326_5, e326, hx326_0, hx326_1, hx326_2, hx326_3, hx326_4, hx326_5, hx326_6, hx326_7, hx326_8, hl326_0, hi326_0, hl326_1, hi326_1, hl326_4, hi326_4, hl326_5, hi326_5⟩ := at_T66 HR0_5.out a1 p326 q326
           cases e326
           replace hx326_0 := hc_ HB hx326_0
           replace hx326_1 := hc_ HB hx326_1
           replace hx326_2 := hc_ HB hx326_2
           replace hx326_3 := hc_ HB hx326_3
           replace hx326_4 := hc_ HB hx326_4
           replace hx326_5 := hc_ HB hx326_5
           replace hx326_6 := hc_ HB hx326_6
           replace hx326_7 := hc_ HB hx326_7
           replace hx326_8 := hc_ HB hx326_8
           have HR326_0 := Aside0.mk hi326_0
           have HC326_0 := Aside0.mk hl326_0
           clear hi326_0 hl326_0
           have HR326_1 := Aside0.mk hi326_1
           have HC326_1 := Aside0.mk hl326_1
           clear hi326_1 hl326_1
           have HR326_4 := Aside0.mk hi326_4
           have HC326_4 := Aside0.mk hl326_4
           clear hi326_4 hl326_4
           have HR326_5 := Aside0.mk hi326_5
           have HC326_5 := Aside0.mk hl326_5
           clear hi326_5 hl326_5
           replace p326 := eq_true p326
           replace q326 := eq_true q326
           have p327 : 0 ≤ (a1 : Int) := of_decide_eq_true (by first | (with_reducible assumption) | assumption)
           have q327 : a1 < (l0_5.length : Int) := of_decide_eq_true (by first | (with_reducible assumption) | assumption)
           obtain ⟨ad327, A327_0, c327_0, A327_1, c327_1, A327_4, c327_4, A327_5, c327_5, e327, hx327_0, hx327_1, hx327_2, hx327_3, hx327_4, hx327_5, hx327_6, hx327_7, hx327_8, hl327_0, hi327_0, hl327_1, hi327_1, hl327_4, hi327_4, hl327_5, hi327_5⟩ := at_T66 HR0_5.out a1 p327 q327
           obtain rfl : ad326 = ad327 := (by injection e327)
           replace hx327_0 := hc_ HB hx327_0
           replace hx327_1 := hc_ HB hx327_1
           replace hx327_2 := hc_ HB hx327_2
           replace hx327_3 := hc_ HB hx327_3
           replace hx327_4 := hc_ HB hx327_4
           replace hx327_5 := hc_ HB hx327_5
           replace hx327_6 := hc_ HB hx327_6
           replace hx327_7 := hc_ HB hx327_7
           replace hx327_8 := hc_ HB hx327_8
           have HR327_0 := Aside0.mk hi327_0
           have HC327_0 := Aside0.mk hl327_0
           clear hi327_0 hl327_0
           have HR327_1 := Aside0.mk hi327_1
           have HC327_1 := Aside0.mk hl327_1
           clear hi327_1 hl327_1
           have HR327_4 := Aside0.mk hi327_4
           have HC327_4 := Aside0.mk hl327_4
           clear hi327_4 hl327_4
           have HR327_5 := Aside0.mk hi327_5
           have HC327_5 := Aside0.mk hl327_5
           clear hi327_5 hl327_5
           replace p327 := eq_true p327
           replace q327 := eq_true q327
           have ea_ := Option.some.inj (hx326_0.symm.trans hx327_0)
           injection ea_ with ea_ en_ ec_
           subst ea_
           subst ec_
           clear en_
           have ea_ := Option.some.inj (hx326_1.symm.trans hx327_1)
           injection ea_ with ea_ en_ ec_
           subst ea_
           subst ec_
           clear en_
           have ea_ := Option.some.inj (hx326_4.symm.trans hx327_4)
           injection ea_ with ea_ en_ ec_
           subst ea_
           subst ec_
           clear en_
           have ea_ := Option.some.inj (hx326_5.symm.trans hx327_5)
           injection ea_ with ea_ en_ ec_
           subst ea_
           subst ec_
           clear en_
           have p328 : 0 ≤ (x7_3 : Int) := of_decide_eq_true (by first | (with_reducible assumption) | assumption)
           have q328 : x7_3 < (((rd_T66 l0_5 a1).f2.f2).length : Int) := of_decide_eq_true (by first | (with_reducible assumption) | assumption)
           obtain ⟨ad328, A328_1, c328_1, e328, hx328_0, hx328_1, hl328_1, hi328_1⟩ := at_T71 HR327_4.out x7_3 p328 q328
           cases e328
           replace hx328_0 := hc_ HB hx328_0
           replace hx328_1 := hc_ HB hx328_1
           have HR328_1 := Aside0.mk hi328_1
           have HC328_1 := Aside0.mk hl328_1
           clear hi328_1 hl328_1
           replace p328 := eq_true p328
           replace q328 := eq_true q328
           go_wp2
           go_roundg k3
           case measure => have := HK1.out; have := HJ3.out; have := HK3.out; omega
           case rel => exact ⟨(x5_3), (wrap64 (x7_3 + 1)), (by first | rfl | (simp; done) | (simp [*]; done)), H', ⟨by have := HK1.out; have := HJ3.out; have := HK3.out; omega⟩, ⟨R_ HO_5⟩, ⟨K_ BK325⟩, ⟨bl_⟩⟩
         rw [if_neg c13] at H
         exact absurd H (by simp)
       rw [if_neg c12] at H
       have c12b0 : decide (x7_3 < (((rd_T66 l0_5 a1).f2.f2).length : Int)) = false := decide_eq_false c12
       clear c12
       have H' := Aside0.mk H
       clear H
       obtain ⟨hcz24_0, hcz24_1, hcz24_2, hcz24_3, hcz24_4, hcz24_5⟩ := cells6 BK325
       obtain ⟨hfz24_0, hfz24_1, hfz24_2, hfz24_3, hfz24_4, hfz24_5⟩ := fz6 BK325
       have p326 : 0 ≤ (a1 : Int) := of_decide_eq_true (by first | (with_reducible assumption) | assumption)
       have q326 : a1 < (l0_5.length : Int) := of_decide_eq_true (by first | (with_reducible assumption) | assumption)
       obtain ⟨ad326, A326_0, c326_0, A326_1, c326_1, A326_4, c326_4, A326_5, c326_5, e326, hx326_0, hx326_1, hx326_2, hx326_3, hx326_4, hx326_5, hx326_6, hx326_7, hx326_8, hl326_0, hi326_0, hl326_1, hi326_1, hl326_4, hi326_4, hl326_5, hi326_5⟩ := at_T66 HR0_5.out a1 p326 q326
       cases e326
       replace hx326_0 := hc_ HB hx326_0
       replace hx326_1 := hc_ HB hx326_1
       replace hx326_2 := hc_ HB hx326_2
       replace hx326_3 := hc_ HB hx326_3
       replace hx326_4 := hc_ HB hx326_4
       replace hx326_5 := hc_ HB hx326_5
       replace hx326_6 := hc_ HB hx326_6
       replace hx326_7 := hc_ HB hx326_7
       replace hx326_8 := hc_ HB hx326_8
       have HR326_0 := Aside0.mk hi326_0
       have HC326_0 := Aside0.mk hl326_0
       clear hi326_0 hl326_0
       have HR326_1 := Aside0.mk hi326_1
       have HC326_1 := Aside0.mk hl326_1
       clear hi326_1 hl326_1
       have HR326_4 := Aside0.mk hi326_4
       have HC326_4 := Aside0.mk hl326_4
       clear hi326_4 hl326_4
       have HR326_5 := Aside0.mk hi326_5
       have HC326_5 := Aside0.mk hl326_5
       clear hi326_5 hl326_5
       replace p326 := eq_true p326
       replace q326 := eq_true q326
       go_wp2
       go_roundg k3
       case measure => have := HK1.out; have := HJ3.out; have := HK3.out; omega
       case rel => exact ⟨(x5_3), (wrap64 (x6_1 + 1)), (by first | rfl | (simp; done) | (simp [*]; done)), H', ⟨by have := HK1.out; have := HJ3.out; have := HK3.out; omega⟩, ⟨R_ HO_5⟩, ⟨K_ BK325⟩, ⟨bl_⟩⟩
     rw [if_neg c11] at H
     exact absurd H (by simp)
   rw [if_neg c10] at H
   exact absurd H (by simp)
 replace c9 := Bool.eq_false_iff.mpr c9
 subst c9
 have H1 : (some x5_1) = some r := by rw [if_neg (show ¬ (false = true) by decide)] at H; exact H
 clear H
 have H := H1
 clear H1
 obtain rfl := Option.some.inj H
 go_wp2
 go_ret
 exact ⟨_, by first | rfl | (simp [errW_none, errW_some] <;> rfl) | (simp [*, errW_none, errW_some] <;> rfl), by (with_reducible repeat (first | apply Kd.R_alloc | apply Kd.R_drewN | apply Kd.R_drew)); exact HO_5.out, by repeat (first | (with_reducible first | exact HB.out | apply below_alloc | apply pw_below_drewN | apply below_drew1 | refine below_set ?_ GE325.out) | exact HB.out)⟩
end Go.Proofs.Ytmefaegcoogmiaa.PAll
