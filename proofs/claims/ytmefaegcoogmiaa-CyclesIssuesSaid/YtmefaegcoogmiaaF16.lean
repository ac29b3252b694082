-- Written for this claim by programs of this session (wip/print2 in its repo: a changed printer, a shortener, a packer). Lean checks it.
import Derived.Test.YtmefaegcoogmiaaP0
import Derived.Test.YtmefaegcoogmiaaF10
import Derived.Test.YtmefaegcoogmiaaF29
namespace Go.Proofs.Ytmefaegcoogmiaa.PAll
open Go.RowKit Go.Proofs.YtmefaegcoogmiaaW.PrintWords Go.Proofs.YtmefaegcoogmiaaW.PrintLast Go.Proofs.YtmefaegcoogmiaaW.PrintMore
attribute [local go_sem] max2_int min2_int max_two min_two max_three min_three max_four min_four   -- for this text's walks alone
set_option linter.unusedVariables false
set_option linter.unusedSimpArgs false

/-! ### cycles_Split: function 16 -/
mutual
def cycles_Split.j0 : Nat → List (S49) → List Int → Bool → ByteArray → List Int → List (S75) → List (S77) → List Int → List (S66) → Option ((List (S46)) × Int)
  | 0, _, _, _, _, _, _, _, _, _ => none
  | k + 1, x1, x2, x33, x112000, x112001, x112002, x112003, x112004, x112005 => if x33 = true then (some (([] : List (S46)), 3)) else (cycles_Split.l0 k x1 x2 ([] : List (S46)) x2 (x2.length : Int) 0 x112000 x112001 x112002 x112003 x112004 x112005)
def cycles_Split.l0 : Nat → List (S49) → List Int → List (S46) → List Int → Int → Int → ByteArray → List Int → List (S75) → List (S77) → List Int → List (S66) → Option ((List (S46)) × Int)
  | 0, _, _, _, _, _, _, _, _, _, _, _, _ => none
  | k + 1, x1, x2, x8, x34, x35, x36, x112000, x112001, x112002, x112003, x112004, x112005 => if x36 < x35 then (if 0 ≤ x36 then (if x36 < (x34.length : Int) then (if (rd x34 x36) < 0 then (cycles_Split.j2 k x1 x2 x8 x36 (rd x34 x36) x34 x35 x36 true x112000 x112001 x112002 x112003 x112004 x112005) else (if (rd x34 x36) ≥ (x112005.length : Int) then (cycles_Split.j2 k x1 x2 x8 x36 (rd x34 x36) x34 x35 x36 true x112000 x112001 x112002 x112003 x112004 x112005) else (if x36 > 0 then (if 0 ≤ (wrap64 (x36 - 1)) then (if (wrap64 (x36 - 1)) < (x2.length : Int) then ((cycles_leads.f k x112000 x112001 x112002 x112003 x112004 x112005 (rd x2 (wrap64 (x36 - 1))) (rd x34 x36)).bind fun t115 => (cycles_Split.j2 k x1 x2 x8 x36 (rd x34 x36) x34 x35 x36 (!t115) x112000 x112001 x112002 x112003 x112004 x112005)) else (none)) else (none)) else (cycles_Split.j2 k x1 x2 x8 x36 (rd x34 x36) x34 x35 x36 false x112000 x112001 x112002 x112003 x112004 x112005)))) else (none)) else (none)) else (some (x8, 0))
def cycles_Split.j2 : Nat → List (S49) → List Int → List (S46) → Int → Int → List Int → Int → Int → Bool → ByteArray → List Int → List (S75) → List (S77) → List Int → List (S66) → Option ((List (S46)) × Int)
  | 0, _, _, _, _, _, _, _, _, _, _, _, _, _, _, _ => none
  | k + 1, x1, x2, x8, x9, x10, x34, x35, x36, x64, x112000, x112001, x112002, x112003, x112004, x112005 => if x64 = true then (some (([] : List (S46)), 3)) else (if x9 > 0 then (if 0 ≤ (wrap64 (x9 - 1)) then (if (wrap64 (x9 - 1)) < (x2.length : Int) then (if (rd x2 (wrap64 (x9 - 1))) = x10 then ((cycles_Self.f k x112000 x112001 x112002 x112003 x112004 x112005 x1 x10).bind fun t117 => (if t117 ≥ 0 then (if 0 ≤ (wrap64 ((x8.length : Int) - 1)) then (if (wrap64 ((x8.length : Int) - 1)) < (x8.length : Int) then (cycles_Split.l0 k x1 x2 (x8.set ((wrap64 ((x8.length : Int) - 1)) : Int).toNat (⟨(rd_T46 x8 (wrap64 ((x8.length : Int) - 1))).f0, wrap64 (((rd_T46 x8 (wrap64 ((x8.length : Int) - 1))).f1) + 1)⟩ : S46)) x34 x35 (wrap64 (x36 + 1)) x112000 x112001 x112002 x112003 x112004 x112005) else (none)) else (none)) else (if x8.length < 8796093022208 then (cycles_Split.l0 k x1 x2 (x8 ++ [(⟨x10, 1⟩ : S46)]) x34 x35 (wrap64 (x36 + 1)) x112000 x112001 x112002 x112003 x112004 x112005) else (none)))) else (if x8.length < 8796093022208 then (cycles_Split.l0 k x1 x2 (x8 ++ [(⟨x10, 1⟩ : S46)]) x34 x35 (wrap64 (x36 + 1)) x112000 x112001 x112002 x112003 x112004 x112005) else (none))) else (none)) else (none)) else (if x8.length < 8796093022208 then (cycles_Split.l0 k x1 x2 (x8 ++ [(⟨x10, 1⟩ : S46)]) x34 x35 (wrap64 (x36 + 1)) x112000 x112001 x112002 x112003 x112004 x112005) else (none)))
end
def cycles_Split.f (k : Nat) (a0_0 : ByteArray) (l0_1 : List Int) (l0_2 : List (S75)) (l0_3 : List (S77)) (l0_4 : List Int) (l0_5 : List (S66)) (l1 : List (S49)) (l2 : List Int) : Option ((List (S46)) × Int) := if (l1.length : Int) = (l0_5.length : Int) then (if (l2.length : Int) = 0 then (cycles_Split.j0 k l1 l2 true a0_0 l0_1 l0_2 l0_3 l0_4 l0_5) else (if (l0_5.length : Int) = 0 then (cycles_Split.j0 k l1 l2 true a0_0 l0_1 l0_2 l0_3 l0_4 l0_5) else (if 0 < (l2.length : Int) then (cycles_Split.j0 k l1 l2 ((rd l2 0) != 0) a0_0 l0_1 l0_2 l0_3 l0_4 l0_5) else (none)))) else (cycles_Split.j0 k l1 l2 true a0_0 l0_1 l0_2 l0_3 l0_4 l0_5)
theorem cycles_Split.mono_l : ∀ k, (∀ y0 y1 y2 y3 y4 y5 y6 y7 y8, LeO (cycles_Split.j0 k y0 y1 y2 y3 y4 y5 y6 y7 y8) (cycles_Split.j0 (k + 1) y0 y1 y2 y3 y4 y5 y6 y7 y8)) ∧ (∀ y0 y1 y2 y3 y4 y5 y6 y7 y8 y9 y10 y11, LeO (cycles_Split.l0 k y0 y1 y2 y3 y4 y5 y6 y7 y8 y9 y10 y11) (cycles_Split.l0 (k + 1) y0 y1 y2 y3 y4 y5 y6 y7 y8 y9 y10 y11)) ∧ (∀ y0 y1 y2 y3 y4 y5 y6 y7 y8 y9 y10 y11 y12 y13 y14, LeO (cycles_Split.j2 k y0 y1 y2 y3 y4 y5 y6 y7 y8 y9 y10 y11 y12 y13 y14) (cycles_Split.j2 (k + 1) y0 y1 y2 y3 y4 y5 y6 y7 y8 y9 y10 y11 y12 y13 y14))
  | 0 => ⟨fun _ _ _ _ _ _ _ _ _ r h => by simp [cycles_Split.j0] at h, fun _ _ _ _ _ _ _ _ _ _ _ _ r h => by simp [cycles_Split.l0] at h, fun _ _ _ _ _ _ _ _ _ _ _ _ _ _ _ r h => by simp [cycles_Split.j2] at h⟩
  | k + 1 => by
    obtain ⟨ih0, ih1, ih2⟩ := cycles_Split.mono_l k
    refine ⟨?_, ?_, ?_⟩
    · intro y0 y1 y2 y3 y4 y5 y6 y7 y8
      unfold cycles_Split.j0
      repeat' first
      | (with_reducible exact ih0 _ _ _ _ _ _ _ _ _)
      | (with_reducible exact ih1 _ _ _ _ _ _ _ _ _ _ _ _)
      | (with_reducible exact ih2 _ _ _ _ _ _ _ _ _ _ _ _ _ _ _)
      | (with_reducible exact cycles_Self.mono _ _ _ _ _ _ _ _ _)
      | (with_reducible exact cycles_leads.mono _ _ _ _ _ _ _ _ _)
      | (with_reducible exact LeO.refl _)
      | (with_reducible exact LeO.none _)
      | (with_reducible refine LeO.ite ?_ ?_)
      | (with_reducible refine LeO.bind ?_ (fun _ => ?_))
      | exact ih0 _ _ _ _ _ _ _ _ _
      | exact ih1 _ _ _ _ _ _ _ _ _ _ _ _
      | exact ih2 _ _ _ _ _ _ _ _ _ _ _ _ _ _ _
      | exact cycles_Self.mono _ _ _ _ _ _ _ _ _
      | exact cycles_leads.mono _ _ _ _ _ _ _ _ _
      | exact LeO.none _
      | refine LeO.ite ?_ ?_
      | refine LeO.bind ?_ (fun _ => ?_)
    · intro y0 y1 y2 y3 y4 y5 y6 y7 y8 y9 y10 y11
      unfold cycles_Split.l0
      repeat' first
      | (with_reducible exact ih0 _ _ _ _ _ _ _ _ _)
      | (with_reducible exact ih1 _ _ _ _ _ _ _ _ _ _ _ _)
      | (with_reducible exact ih2 _ _ _ _ _ _ _ _ _ _ _ _ _ _ _)
      | (with_reducible exact cycles_Self.mono _ _ _ _ _ _ _ _ _)
      | (with_reducible exact cycles_leads.mono _ _ _ _ _ _ _ _ _)
      | (with_reducible exact LeO.refl _)
      | (with_reducible exact LeO.none _)
      | (with_reducible refine LeO.ite ?_ ?_)
      | (with_reducible refine LeO.bind ?_ (fun _ => ?_))
      | exact ih0 _ _ _ _ _ _ _ _ _
      | exact ih1 _ _ _ _ _ _ _ _ _ _ _ _
      | exact ih2 _ _ _ _ _ _ _ _ _ _ _ _ _ _ _
      | exact cycles_Self.mono _ _ _ _ _ _ _ _ _
      | exact cycles_leads.mono _ _ _ _ _ _ _ _ _
      | exact LeO.none _
      | refine LeO.ite ?_ ?_
      | refine LeO.bind ?_ (fun _ => ?_)
    · intro y0 y1 y2 y3 y4 y5 y6 y7 y8 y9 y10 y11 y12 y13 y14
      unfold cycles_Split.j2
      repeat' first
      | (with_reducible exact ih0 _ _ _ _ _ _ _ _ _)
      | (with_reducible exact ih1 _ _ _ _ _ _ _ _ _ _ _ _)
      | (with_reducible exact ih2 _ _ _ _ _ _ _ _ _ _ _ _ _ _ _)
      | (with_reducible exact cycles_Self.mono _ _ _ _ _ _ _ _ _)
      | (with_reducible exact cycles_leads.mono _ _ _ _ _ _ _ _ _)
      | (with_reducible exact LeO.refl _)
      | (with_reducible exact LeO.none _)
      | (with_reducible refine LeO.ite ?_ ?_)
      | (with_reducible refine LeO.bind ?_ (fun _ => ?_))
      | exact ih0 _ _ _ _ _ _ _ _ _
      | exact ih1 _ _ _ _ _ _ _ _ _ _ _ _
      | exact ih2 _ _ _ _ _ _ _ _ _ _ _ _ _ _ _
      | exact cycles_Self.mono _ _ _ _ _ _ _ _ _
      | exact cycles_leads.mono _ _ _ _ _ _ _ _ _
      | exact LeO.none _
      | refine LeO.ite ?_ ?_
      | refine LeO.bind ?_ (fun _ => ?_)
theorem cycles_Split.mono : ∀ a0 a1 a2 a3 a4 a5 a6 a7 k, LeO (cycles_Split.f k a0 a1 a2 a3 a4 a5 a6 a7) (cycles_Split.f (k + 1) a0 a1 a2 a3 a4 a5 a6 a7) := by
 intro a0 a1 a2 a3 a4 a5 a6 a7 k
 obtain ⟨ih0, ih1, ih2⟩ := cycles_Split.mono_l k
 unfold cycles_Split.f
 repeat' first
     | (with_reducible exact ih0 _ _ _ _ _ _ _ _ _)
     | (with_reducible exact ih1 _ _ _ _ _ _ _ _ _ _ _ _)
     | (with_reducible exact ih2 _ _ _ _ _ _ _ _ _ _ _ _ _ _ _)
     | (with_reducible exact cycles_Self.mono _ _ _ _ _ _ _ _ _)
     | (with_reducible exact cycles_leads.mono _ _ _ _ _ _ _ _ _)
     | (with_reducible exact LeO.refl _)
     | (with_reducible exact LeO.none _)
     | (with_reducible refine LeO.ite ?_ ?_)
     | (with_reducible refine LeO.bind ?_ (fun _ => ?_))
     | exact ih0 _ _ _ _ _ _ _ _ _
     | exact ih1 _ _ _ _ _ _ _ _ _ _ _ _
     | exact ih2 _ _ _ _ _ _ _ _ _ _ _ _ _ _ _
     | exact cycles_Self.mono _ _ _ _ _ _ _ _ _
     | exact cycles_leads.mono _ _ _ _ _ _ _ _ _
     | exact LeO.none _
     | refine LeO.ite ?_ ?_
     | refine LeO.bind ?_ (fun _ => ?_)
def cycles_Split.T7 : Bool × List (List Nat × List Nat) := (true, [([], []), ([0], [0]), ([1], [1]), ([2], [2]), ([2], [2]), ([4, 2], [2, 4]), ([5, 2], [2, 5]), ([3, 6, 2], [2, 3, 6]), ([2, 7], [2, 7]), ([8, 2], [8]), ([9], [9]), ([10, 9], [9, 10]), ([11, 9, 9], [9, 11]), ([12], [12]), ([12], [12]), ([12], [12]), ([15, 12], [12, 15]), ([14, 16, 12], [12, 14, 16]), ([17, 12], [12, 17]), ([12], [12]), ([13, 18, 19, 12, 12], [12, 13, 18, 19]), ([20, 12], [12, 20]), ([12, 21, 9], [9, 12, 21]), ([9, 22], [9, 22])])
def cycles_Split.B7 : List Nat := [0, 1, 3, 7, 7, 23, 55, 127, 255, 511, 1023, 2047, 4095, 8191, 8191, 8191, 40959, 122879, 253951, 8191, 1048575, 2097151, 4194303, 8388607]
theorem cycles_Split.tab7 : rtab .any (opsOf Try.f16 7) = cycles_Split.T7 := by kernel_rfl
theorem cycles_Split.bits7 : waitsOk cycles_Split.T7.2 cycles_Split.B7 = true := by kernel_rfl
set_option maxHeartbeats 8000000 in
set_option maxRecDepth 100000 in
theorem cycles_Split.calls (k : Nat) (a0_0 : ByteArray) (A0_1 : Option Addr) (c0_1 : Nat) (l0_1 : List Int) (A0_2 : Option Addr) (c0_2 : Nat) (l0_2 : List (S75)) (A0_3 : Option Addr) (c0_3 : Nat) (l0_3 : List (S77)) (A0_4 : Option Addr) (c0_4 : Nat) (l0_4 : List Int) (A0_5 : Option Addr) (c0_5 : Nat) (l0_5 : List (S66)) (A1 : Option Addr) (c1 : Nat) (l1 : List (S49)) (A2 : Option Addr) (c2 : Nat) (l2 : List Int) (r1 : List (S46)) (r2 : Int) (w : World) (hr0_1 : Kd.C (Kd.int .i64) w A0_1 l0_1.length l0_1) (hc0_1 : l0_1.length ≤ c0_1) (hr0_2 : Kd.C k75 w A0_2 l0_2.length l0_2) (hc0_2 : l0_2.length ≤ c0_2) (hr0_3 : Kd.C k77 w A0_3 l0_3.length l0_3) (hc0_3 : l0_3.length ≤ c0_3) (hr0_4 : Kd.C (Kd.int .i64) w A0_4 l0_4.length l0_4) (hc0_4 : l0_4.length ≤ c0_4) (hr0_5 : Kd.C k66 w A0_5 l0_5.length l0_5) (hc0_5 : l0_5.length ≤ c0_5) (hr1 : Kd.C k49 w A1 l1.length l1) (hc1 : l1.length ≤ c1) (hr2 : Kd.C (Kd.int .i64) w A2 l2.length l2) (hc2 : l2.length ≤ c2) (h : cycles_Split.f k a0_0 l0_1 l0_2 l0_3 l0_4 l0_5 l1 l2 = some (r1, r2)) :
    Calls Try.prog 16 #[.agg #[.string a0_0, .slice A0_1 l0_1.length c0_1, .slice A0_2 l0_2.length c0_2, .slice A0_3 l0_3.length c0_3, .slice A0_4 l0_4.length c0_4, .slice A0_5 l0_5.length c0_5], .slice A1 l1.length c1, .slice A2 l2.length c2] w fun e w' => ∃ v0_ : Value, e = .returned (.tuple #[v0_, .int .i64 r2]) ∧ Kd.R k46 46 w' w.heap.size (fun _ => True) v0_ r1 ∧ Below w.heap.size w w' := by
 have hu27 := Try.underlying27
 have hu46 := Try.underlying46
 have HR0_1 := Aside0.mk hr0_1
 have HC0_1 := Aside0.mk hc0_1
 clear hr0_1 hc0_1
 have HR0_2 := Aside0.mk hr0_2
 have HC0_2 := Aside0.mk hc0_2
 clear hr0_2 hc0_2
 have HR0_3 := Aside0.mk hr0_3
 have HC0_3 := Aside0.mk hc0_3
 clear hr0_3 hc0_3
 have HR0_4 := Aside0.mk hr0_4
 have HC0_4 := Aside0.mk hc0_4
 clear hr0_4 hc0_4
 have HR0_5 := Aside0.mk hr0_5
 have HC0_5 := Aside0.mk hc0_5
 clear hr0_5 hc0_5
 have HR1 := Aside0.mk hr1
 have HC1 := Aside0.mk hc1
 clear hr1 hc1
 have HR2 := Aside0.mk hr2
 have HC2 := Aside0.mk hc2
 clear hr2 hc2
 have HB := Aside0.mk (Below.refl w.heap.size w)
 have H : (if (l1.length : Int) = (l0_5.length : Int) then (if (l2.length : Int) = 0 then (cycles_Split.j0 k l1 l2 true a0_0 l0_1 l0_2 l0_3 l0_4 l0_5) else (if (l0_5.length : Int) = 0 then (cycles_Split.j0 k l1 l2 true a0_0 l0_1 l0_2 l0_3 l0_4 l0_5) else (if 0 < (l2.length : Int) then (cycles_Split.j0 k l1 l2 ((rd l2 0) != 0) a0_0 l0_1 l0_2 l0_3 l0_4 l0_5) else (none)))) else (cycles_Split.j0 k l1 l2 true a0_0 l0_1 l0_2 l0_3 l0_4 l0_5)) = some (r1, r2) := h
 clear h
 have HC4 := Aside0.mk H
 clear H
 go_enter Try.func16, Try.ntmps16
 go_upto_region 1 with (first | ((with_reducible refine gate_dst (N := 3) rfl ?_); (try (refine gate_guard (by rfl) ?_; dsimp only)); refine box_event ?hg (N := 3) ?hd (cs := #[.string a0_0, .slice A0_1 l0_1.length c0_1, .slice A0_2 l0_2.length c0_2, .slice A0_3 l0_3.length c0_3, .slice A0_4 l0_4.length c0_4, .slice A0_5 l0_5.length c0_5]) (t := 27) ?hr ?_; (case hd => rfl); (case hg => rfl); (case hr => first | (go_simp; done) | (go_simp; rfl)); intro gb111 hg w5 hbox hb; have n0_ := Aside0.mk (below_step bl_ hb); have n1_ := Aside0.mk (hbox); have n2_ := Aside0.mk (gl_ (w := w) hg); have n3_ := Aside0.mk (gl_ (w := w) hg); clear HB; have HB := n0_; have BK111 := n1_; have GW111 := n2_; have GE111 := n3_; clear n0_ n1_ n2_ n3_; clear hb hbox hg))
 (try simp only [Act.put, List.setIfInBounds_toArray, List.set_cons_zero, List.set_cons_succ])
 go_cut [33] (fun v33 wc => ∃ (kq : Nat) (x33_3 : Bool), v33 = .bool x33_3 ∧ Aside0 (cycles_Split.j0 kq l1 l2 x33_3 a0_0 l0_1 l0_2 l0_3 l0_4 l0_5 = some (r1, r2)) ∧ Aside0 (kq ≤ k) ∧ Aside0 (wc.heap[gb111]? = some (.cells #[.string a0_0, (.slice A0_1 l0_1.length c0_1), (.slice A0_2 l0_2.length c0_2), (.slice A0_3 l0_3.length c0_3), (.slice A0_4 l0_4.length c0_4), (.slice A0_5 l0_5.length c0_5)] 27 (0, 0))) ∧ Aside0 (Below w.heap.size w wc))
 case first =>
  have H := HC4.out
  clear HC4
  by_cases c6 : (l1.length : Int) = (l0_5.length : Int)
  · rw [if_pos c6] at H
    have c6b0 : ((l1.length : Int) == (l0_5.length : Int)) = true := beq_iff_eq.mpr c6
    have c6b1 : ((l1.length : Int) != (l0_5.length : Int)) = false := bne_eq_false_iff_eq.mpr c6
    have c6b2 : (l1.length == l0_5.length) = true := by first | simpa using c6 | (simp at c6 ⊢; omega)
    clear c6
    (first | rw [c6b0] | (simp only [i64_w, i32_w]; rw [c6b0]) | skip)
    by_cases c7 : (l2.length : Int) = 0
    · rw [if_pos c7] at H
      have c7b0 : ((l2.length : Int) == 0) = true := beq_iff_eq.mpr c7
      have c7b1 : ((l2.length : Int) != 0) = false := bne_eq_false_iff_eq.mpr c7
      clear c7
      have H' := Aside0.mk H
      clear H
      obtain ⟨hcz8_0, hcz8_1, hcz8_2, hcz8_3, hcz8_4, hcz8_5⟩ := cells6 BK111
      obtain ⟨hfz8_0, hfz8_1, hfz8_2, hfz8_3, hfz8_4, hfz8_5⟩ := fz6 BK111
      go_wp2
      go_meet
      case rel => exact ⟨_, (true), (by first | rfl | (simp; done) | (simp [*]; done)), H', ⟨by first | omega | exact Nat.le_refl _⟩, ⟨K_ BK111⟩, ⟨bl_⟩⟩
    rw [if_neg c7] at H
    have c7b0 : ((l2.length : Int) == 0) = false := beq_eq_false_iff_ne.mpr c7
    have c7b1 : ((l2.length : Int) != 0) = true := bne_iff_ne.mpr c7
    have c7b2 : ¬ (l2 = []) := fun h_ => c7 (by rw [h_]; rfl)
    by_cases c9 : (l0_5.length : Int) = 0
    · rw [if_pos c9] at H
      have c9b0 : ((l0_5.length : Int) == 0) = true := beq_iff_eq.mpr c9
      have c9b1 : ((l0_5.length : Int) != 0) = false := bne_eq_false_iff_eq.mpr c9
      clear c9
      have H' := Aside0.mk H
      clear H
      obtain ⟨hcz10_0, hcz10_1, hcz10_2, hcz10_3, hcz10_4, hcz10_5⟩ := cells6 BK111
      obtain ⟨hfz10_0, hfz10_1, hfz10_2, hfz10_3, hfz10_4, hfz10_5⟩ := fz6 BK111
      go_wp2
      go_meet
      case rel => exact ⟨_, (true), (by first | rfl | (simp; done) | (simp [*]; done)), H', ⟨by first | omega | exact Nat.le_refl _⟩, ⟨K_ BK111⟩, ⟨bl_⟩⟩
    rw [if_neg c9] at H
    have c9b0 : ((l0_5.length : Int) == 0) = false := beq_eq_false_iff_ne.mpr c9
    have c9b1 : ((l0_5.length : Int) != 0) = true := bne_iff_ne.mpr c9
    have c9b2 : ¬ (l0_5 = []) := fun h_ => c9 (by rw [h_]; rfl)
    by_cases c11 : 0 < (l2.length : Int)
    · rw [if_pos c11] at H
      have c11b0 : decide (0 < (l2.length : Int)) = true := decide_eq_true c11
      have c11b1 : decide (0 < l2.length) = true := decide_eq_true (by omega)
      clear c11
      have H' := Aside0.mk H
      clear H
      obtain ⟨hcz12_0, hcz12_1, hcz12_2, hcz12_3, hcz12_4, hcz12_5⟩ := cells6 BK111
      obtain ⟨hfz12_0, hfz12_1, hfz12_2, hfz12_3, hfz12_4, hfz12_5⟩ := fz6 BK111
      have p112 : 0 ≤ (0 : Int) := (by omega)
      have q112 : 0 < (l2.length : Int) := of_decide_eq_true (by first | (with_reducible assumption) | assumption)
      obtain ⟨ad112, e112, hx112_0⟩ := Kd.at_int HR2.out 0 p112 q112
      cases e112
      have qi112 : (0 < l2.length) = True := eq_true (by omega)
      (try rw [show ((0 : Int)).toNat = 0 from rfl] at hx112_0)
      (try rw [Addr.add_zero'] at hx112_0)
      replace hx112_0 := hc_ HB hx112_0
      replace p112 := eq_true p112
      replace q112 := eq_true q112
      go_wp2
      go_meet
      case rel => exact ⟨_, (((rd l2 0) != 0)), (by first | rfl | (simp; done) | (simp [*]; done)), H', ⟨by first | omega | exact Nat.le_refl _⟩, ⟨K_ BK111⟩, ⟨bl_⟩⟩
    rw [if_neg c11] at H
    exact absurd H (by simp)
  rw [if_neg c6] at H
  have c6b0 : ((l1.length : Int) == (l0_5.length : Int)) = false := beq_eq_false_iff_ne.mpr c6
  have c6b1 : ((l1.length : Int) != (l0_5.length : Int)) = true := bne_iff_ne.mpr c6
  have c6b2 : (l1.length == l0_5.length) = false := by first | simpa using c6 | (simp at c6 ⊢; omega)
  (first | rw [c6b0] | (simp only [i64_w, i32_w]; rw [c6b0]) | skip)
  have H' := Aside0.mk H
  clear H
  obtain ⟨hcz13_0, hcz13_1, hcz13_2, hcz13_3, hcz13_4, hcz13_5⟩ := cells6 BK111
  obtain ⟨hfz13_0, hfz13_1, hfz13_2, hfz13_3, hfz13_4, hfz13_5⟩ := fz6 BK111
  go_wp2
  go_meet
  case rel => exact ⟨_, (true), (by first | rfl | (simp; done) | (simp [*]; done)), H', ⟨by first | omega | exact Nat.le_refl _⟩, ⟨K_ BK111⟩, ⟨bl_⟩⟩
 clear HC4
 (try clear c1); (try clear p1); (try clear q1); (try clear hx1); (try clear qi1); (try clear c2); (try clear p2); (try clear c6); (try clear c6b0); (try clear c6b1); (try clear c6b2); (try clear c7); (try clear c7b0); (try clear c7b1); (try clear c7b2); (try clear c9); (try clear c9b0); (try clear c9b1); (try clear c9b2); (try clear c11); (try clear c11b0); (try clear c11b1); (try clear p11); (try clear q11); (try clear hx11); (try clear qi11); (try clear hcz10_0); (try clear hcz10_1); (try clear hcz10_2); (try clear hcz10_3); (try clear hcz10_4); (try clear hcz10_5); (try clear hcz12_0); (try clear hcz12_1); (try clear hcz12_2); (try clear hcz12_3); (try clear hcz12_4); (try clear hcz12_5); (try clear hcz13_0); (try clear hcz13_1)
 (try clear hcz13_2); (try clear hcz13_3); (try clear hcz13_4); (try clear hcz13_5); (try clear hcz8_0); (try clear hcz8_1); (try clear hcz8_2); (try clear hcz8_3); (try clear hcz8_4); (try clear hcz8_5); (try clear hfz10_0); (try clear hfz10_1); (try clear hfz10_2); (try clear hfz10_3); (try clear hfz10_4); (try clear hfz10_5); (try clear hfz12_0); (try clear hfz12_1); (try clear hfz12_2); (try clear hfz12_3); (try clear hfz12_4); (try clear hfz12_5); (try clear hfz13_0); (try clear hfz13_1); (try clear hfz13_2); (try clear hfz13_3); (try clear hfz13_4); (try clear hfz13_5); (try clear hfz8_0); (try clear hfz8_1); (try clear hfz8_2); (try clear hfz8_3); (try clear hfz8_4); (try clear hfz8_5); (try clear hx112_0); (try clear p112); (try clear q112)
 obtain ⟨kq, x33_3, rfl, HA, HJ3, BK111, HB⟩ := hcut
 cases kq with
 | zero => exact absurd HA.out (by simp [cycles_Split.j0])
 | succ kj3 => ?_
 have H := HA.out
 clear HA
 simp only [cycles_Split.j0] at H
 by_cases c14 : x33_3 = true
 · subst c14
   have H1 : (some (([] : List (S46)), 3)) = some (r1, r2) := by rw [if_pos rfl] at H; exact H
   clear H
   have H := H1
   clear H1
   simp only [Option.some.injEq, Prod.mk.injEq] at H
   obtain ⟨rfl, rfl⟩ := H
   go_wp2
   go_ret2
   exact ⟨_, by first | rfl | (simp [errW_none, errW_some] <;> rfl) | (simp [*, errW_none, errW_some] <;> rfl), by first | exact Kd.R_nil _ _ _ _ _ | exact Kd.N_nil _ _ _ _ _ | exact Kd.V_nil _ _ _ _ _ | exact Kd.Q_nil _ _ _ _ _ | exact Kd.S_nil _ _ _ _ _, by repeat (first | (with_reducible first | exact HB.out | apply below_alloc | apply pw_below_drewN | apply below_drew1 | refine below_set ?_ GE111.out) | exact HB.out)⟩
 replace c14 := Bool.eq_false_iff.mpr c14
 subst c14
 have H1 : (cycles_Split.l0 kj3 l1 l2 ([] : List (S46)) l2 (l2.length : Int) 0 a0_0 l0_1 l0_2 l0_3 l0_4 l0_5) = some (r1, r2) := by rw [if_neg (show ¬ (false = true) by decide)] at H; exact H
 clear H
 have H := H1
 clear H1
 have H' := Aside0.mk H
 clear H
 go_wp2
 go_loopg [8, 36] kj3 (fun kq v8 v36 w' => ∃ (x8_2 : List (S46)) (x36_2 : Int), v36 = .int .i64 x36_2 ∧ Aside0 (cycles_Split.l0 kq l1 l2 x8_2 l2 (l2.length : Int) x36_2 a0_0 l0_1 l0_2 l0_3 l0_4 l0_5 = some (r1, r2)) ∧ Aside0 (kq ≤ kj3) ∧ Aside0 (Kd.R k46 46 w' w.heap.size (fun _ => True) v8 x8_2) ∧ Aside0 (w'.heap[gb111]? = some (.cells #[.string a0_0, (.slice A0_1 l0_1.length c0_1), (.slice A0_2 l0_2.length c0_2), (.slice A0_3 l0_3.length c0_3), (.slice A0_4 l0_4.length c0_4), (.slice A0_5 l0_5.length c0_5)] 27 (0, 0))) ∧ Aside0 (Below w.heap.size w w'))
 case atStart => exact ⟨(([] : List (S46))), (0), (by first | rfl | (simp; done) | (simp [*]; done)), H', ⟨Nat.le_refl _⟩, ⟨by first | exact Kd.R_nil _ _ _ _ _ | exact Kd.N_nil _ _ _ _ _ | exact Kd.V_nil _ _ _ _ _ | exact Kd.Q_nil _ _ _ _ _ | exact Kd.S_nil _ _ _ _ _⟩, ⟨K_ BK111⟩, ⟨bl_⟩⟩
 clear H'
 (try clear c1); (try clear p1); (try clear q1); (try clear hx1); (try clear qi1); (try clear c2); (try clear p2); (try clear c6); (try clear c6b0); (try clear c6b1); (try clear c6b2); (try clear c7); (try clear c7b0); (try clear c7b1); (try clear c7b2); (try clear c9); (try clear c9b0); (try clear c9b1); (try clear c9b2); (try clear c11); (try clear c11b0); (try clear c11b1); (try clear p11); (try clear q11); (try clear hx11); (try clear qi11); (try clear c14); (try clear hcz10_0); (try clear hcz10_1); (try clear hcz10_2); (try clear hcz10_3); (try clear hcz10_4); (try clear hcz10_5); (try clear hcz12_0); (try clear hcz12_1); (try clear hcz12_2); (try clear hcz12_3); (try clear hcz12_4); (try clear hcz12_5); (try clear hcz13_0)
 (try clear hcz13_1); (try clear hcz13_2); (try clear hcz13_3); (try clear hcz13_4); (try clear hcz13_5); (try clear hcz8_0); (try clear hcz8_1); (try clear hcz8_2); (try clear hcz8_3); (try clear hcz8_4); (try clear hcz8_5); (try clear hfz10_0); (try clear hfz10_1); (try clear hfz10_2); (try clear hfz10_3); (try clear hfz10_4); (try clear hfz10_5); (try clear hfz12_0); (try clear hfz12_1); (try clear hfz12_2); (try clear hfz12_3); (try clear hfz12_4); (try clear hfz12_5); (try clear hfz13_0); (try clear hfz13_1); (try clear hfz13_2); (try clear hfz13_3); (try clear hfz13_4); (try clear hfz13_5); (try clear hfz8_0); (try clear hfz8_1); (try clear hfz8_2); (try clear hfz8_3); (try clear hfz8_4); (try clear hfz8_5); (try clear hx112_0); (try clear p1); (try clear p11); (try clear p112); (try clear p2)
 (try clear q1); (try clear q11); (try clear q112)
 obtain ⟨x8_2, x36_2, rfl, HA, HK2, HO_8, BK111, HB⟩ := hrel
 cases gk with
 | zero => exact absurd HA.out (by simp [cycles_Split.l0])
 | succ k2 => ?_
 have H := HA.out
 clear HA
 simp only [cycles_Split.l0] at H
 by_cases c15 : x36_2 < (l2.length : Int)
 · rw [if_pos c15] at H
   have c15b0 : decide (x36_2 < (l2.length : Int)) = true := decide_eq_true c15
   clear c15
   by_cases c16 : 0 ≤ x36_2
   · rw [if_pos c16] at H
     have c16b0 : decide (0 ≤ x36_2) = true := decide_eq_true c16
     clear c16
     by_cases c17 : x36_2 < (l2.length : Int)
     · rw [if_pos c17] at H
       have c17b0 : decide (x36_2 < (l2.length : Int)) = true := decide_eq_true c17
       clear c17
       have HC18 := Aside0.mk H
       clear H
       have p113 : 0 ≤ (x36_2 : Int) := of_decide_eq_true (by first | (with_reducible assumption) | assumption)
       have q113 : x36_2 < (l2.length : Int) := of_decide_eq_true (by first | (with_reducible assumption) | assumption)
       obtain ⟨ad113, e113, hx113_0⟩ := Kd.at_int HR2.out x36_2 p113 q113
       cases e113
       replace hx113_0 := hc_ HB hx113_0
       replace p113 := eq_true p113
       replace q113 := eq_true q113
       go_upto_region 7 with (fail)
       go_cut [64] (fun v64 wc => ∃ (kq : Nat) (x64_17 : Bool), v64 = .bool x64_17 ∧ Aside0 (cycles_Split.j2 kq l1 l2 x8_2 x36_2 (rd l2 x36_2) l2 (l2.length : Int) x36_2 x64_17 a0_0 l0_1 l0_2 l0_3 l0_4 l0_5 = some (r1, r2)) ∧ Aside0 (kq ≤ k2) ∧ Aside0 (Kd.R k46 46 wc w.heap.size (fun _ => True) u8 x8_2) ∧ Aside0 (wc.heap[gb111]? = some (.cells #[.string a0_0, (.slice A0_1 l0_1.length c0_1), (.slice A0_2 l0_2.length c0_2), (.slice A0_3 l0_3.length c0_3), (.slice A0_4 l0_4.length c0_4), (.slice A0_5 l0_5.length c0_5)] 27 (0, 0))) ∧ Aside0 (Below w.heap.size w wc))
       case first =>
        have H := HC18.out
        clear HC18
        by_cases c19 : (rd l2 x36_2) < 0
        · rw [if_pos c19] at H
          have c19b0 : decide ((rd l2 x36_2) < 0) = true := decide_eq_true c19
          clear c19
          (first | rw [c19b0] | (simp only [i64_w, i32_w]; rw [c19b0]) | skip)
          have H' := Aside0.mk H
          clear H
          try go_wp2
          have n0_ := Aside0.mk (Kd.R_drew HO_8.out)
          have n1_ := Aside0.mk (blk_drew BK111.out)
          have n2_ := Aside0.mk (below_drew1 HB.out)
          clear HO_8
          clear BK111
          clear HB
          have HO_8 := n0_
          have BK111 := n1_
          have HB := n2_
          clear n0_ n1_ n2_
          refine start_ (n := 24) (S := fun w' => True) (ds := []) (bz 24 0) (by kernel_rfl) rfl rfl trivial (fun hHeld => ?_); refine with_tabW cycles_Split.tab7 cycles_Split.bits7 (fun HT_ HW_ => ?_)
          generalize wr.drew = w20 at HO_8 BK111 HB hHeld ⊢
          refine pu_ 0 41 HT_ ?_
          refine pu_ 1 42 HT_ ?_
          refine pu_ 2 43 HT_ ?_
          refine pn_ 3 44 HT_ ?_
          refine pn_ 4 45 HT_ ?_
          refine pn_ 5 46 HT_ ?_
          refine pn_ 6 47 HT_ ?_
          refine pn_ 7 48 HT_ ?_
          refine pu_ 8 49 HT_ ?_
          refine pu_ 9 50 HT_ ?_
          refine pn_ 10 51 HT_ ?_
          refine pn_ 11 52 HT_ ?_
          refine pn_ 12 53 HT_ ?_
          refine pn_ 13 54 HT_ ?_
          refine pn_ 14 55 HT_ ?_
          refine pn_ 15 56 HT_ ?_
          refine pn_ 16 57 HT_ ?_
          refine pn_ 17 58 HT_ ?_
          refine pn_ 18 59 HT_ ?_
          refine pn_ 19 60 HT_ ?_
          refine pn_ 20 61 HT_ ?_
          refine pn_ 21 62 HT_ ?_
          refine pn_ 22 63 HT_ ?_
          refine pu_ 23 64 HT_ ?_
          refine done_ (done_of HT_.out (by kernel_rfl)) ?_
          try go_wp2
          go_meet
          case rel => exact ⟨_, (true), (by first | rfl | (simp; done) | (simp [*]; done)), H', ⟨by have := HJ3.out; have := HK2.out; first | omega | exact Nat.le_refl _⟩, ⟨R_ HO_8⟩, ⟨K_ BK111⟩, ⟨bl_⟩⟩
        rw [if_neg c19] at H
        have c19b0 : decide ((rd l2 x36_2) < 0) = false := decide_eq_false c19
        clear c19
        (first | rw [c19b0] | (simp only [i64_w, i32_w]; rw [c19b0]) | skip)
        by_cases c21 : (rd l2 x36_2) ≥ (l0_5.length : Int)
        · rw [if_pos c21] at H
          have c21b0 : decide ((l0_5.length : Int) ≤ (rd l2 x36_2)) = true := decide_eq_true c21
          clear c21
          have H' := Aside0.mk H
          clear H
          try go_wp2
          have n0_ := Aside0.mk (Kd.R_drew HO_8.out)
          have n1_ := Aside0.mk (blk_drew BK111.out)
          have n2_ := Aside0.mk (below_drew1 HB.out)
          clear HO_8
          clear BK111
          clear HB
          have HO_8 := n0_
          have BK111 := n1_
          have HB := n2_
          clear n0_ n1_ n2_
          refine start_ (n := 24) (S := fun w' => w'.cell? ⟨gb111, 0, none⟩ = some (.string a0_0) ∧ w'.cell? ⟨gb111, 1, none⟩ = some (.slice A0_1 l0_1.length c0_1) ∧ w'.cell? ⟨gb111, 2, none⟩ = some (.slice A0_2 l0_2.length c0_2) ∧ w'.cell? ⟨gb111, 3, none⟩ = some (.slice A0_3 l0_3.length c0_3) ∧ w'.cell? ⟨gb111, 4, none⟩ = some (.slice A0_4 l0_4.length c0_4) ∧ w'.cell? ⟨gb111, 5, none⟩ = some (.slice A0_5 l0_5.length c0_5)) (ds := []) (bz 24 0) (by kernel_rfl) rfl rfl ⟨(blk_cell BK111.out 0).trans rfl, (blk_cell BK111.out 1).trans rfl, (blk_cell BK111.out 2).trans rfl, (blk_cell BK111.out 3).trans rfl, (blk_cell BK111.out 4).trans rfl, (blk_cell BK111.out 5).trans rfl⟩ (fun hHeld => ?_); refine with_tabW cycles_Split.tab7 cycles_Split.bits7 (fun HT_ HW_ => ?_)
          generalize wr.drew = w22 at HO_8 BK111 HB hHeld ⊢
          refine pu_ 0 41 HT_ ?_
          refine pu_ 1 42 HT_ ?_
          refine pu_ 2 43 HT_ ?_
          refine pu_ 3 44 HT_ ?_
          refine pu_ 4 45 HT_ ?_
          refine tk_ 5 46 HT_ HW_ hHeld ?_ (hy := by rintro w' ⟨s0, s1, s2, s3, s4, s5⟩; go_simp; with_reducible rfl)
          refine pu_ 6 47 HT_ ?_
          refine pu_ 7 48 HT_ ?_
          refine pu_ 8 49 HT_ ?_
          refine pu_ 9 50 HT_ ?_
          refine pn_ 10 51 HT_ ?_
          refine pn_ 11 52 HT_ ?_
          refine pn_ 12 53 HT_ ?_
          refine pn_ 13 54 HT_ ?_
          refine pn_ 14 55 HT_ ?_
          refine pn_ 15 56 HT_ ?_
          refine pn_ 16 57 HT_ ?_
          refine pn_ 17 58 HT_ ?_
          refine pn_ 18 59 HT_ ?_
          refine pn_ 19 60 HT_ ?_
          refine pn_ 20 61 HT_ ?_
          refine pn_ 21 62 HT_ ?_
          refine pn_ 22 63 HT_ ?_
          refine pu_ 23 64 HT_ ?_
          refine done_ (done_of HT_.out (by kernel_rfl)) ?_
          try go_wp2
          go_meet
          case rel => exact ⟨_, (true), (by first | rfl | (simp; done) | (simp [*]; done)), H', ⟨by have := HJ3.out; have := HK2.out; first | omega | exact Nat.le_refl _⟩, ⟨R_ HO_8⟩, ⟨K_ BK111⟩, ⟨bl_⟩⟩
        rw [if_neg c21] at H
        have c21b0 : decide ((l0_5.length : Int) ≤ (rd l2 x36_2)) = false := decide_eq_false c21
        clear c21
        by_cases c23 : x36_2 > 0
        · rw [if_pos c23] at H
          have c23b0 : decide (0 < x36_2) = true := decide_eq_true c23
          clear c23
          obtain ⟨ji24, hji24⟩ : ∃ j_ : Int, (wrap64 (x36_2 - 1)) = j_ := ⟨_, rfl⟩
          replace H : (if 0 ≤ (ji24) then (if (ji24) < (l2.length : Int) then ((cycles_leads.f k2 a0_0 l0_1 l0_2 l0_3 l0_4 l0_5 (rd l2 (ji24)) (rd l2 x36_2)).bind fun t115 => (cycles_Split.j2 k2 l1 l2 x8_2 x36_2 (rd l2 x36_2) l2 (l2.length : Int) x36_2 (!t115) a0_0 l0_1 l0_2 l0_3 l0_4 l0_5)) else (none)) else (none)) = some (r1, r2) := by first | (rw [hji24] at H; exact H) | (simp only [hji24] at H ⊢; exact H)
          have hji24w : (IntKind.i64.wrap (x36_2 - 1)) = ji24 := (i64_w _).trans hji24
          by_cases c25 : 0 ≤ (ji24)
          · rw [if_pos c25] at H
            have c25b0 : decide (0 ≤ (ji24)) = true := decide_eq_true c25
            clear c25
            by_cases c26 : (ji24) < (l2.length : Int)
            · rw [if_pos c26] at H
              have c26b0 : decide ((ji24) < (l2.length : Int)) = true := decide_eq_true c26
              clear c26
              replace H := Option.bind_eq_some_iff.mp H
              obtain ⟨t115, A270, H⟩ := H
              replace H : (cycles_Split.j2 k2 l1 l2 x8_2 x36_2 (rd l2 x36_2) l2 (l2.length : Int) x36_2 (!t115) a0_0 l0_1 l0_2 l0_3 l0_4 l0_5) = some (r1, r2) := H
              have A27 := Aside0.mk A270
              clear A270
              have H' := Aside0.mk H
              clear H
              try go_wp2
              have n0_ := Aside0.mk (Kd.R_drew HO_8.out)
              have n1_ := Aside0.mk (blk_drew BK111.out)
              have n2_ := Aside0.mk (below_drew1 HB.out)
              clear HO_8
              clear BK111
              clear HB
              have HO_8 := n0_
              have BK111 := n1_
              have HB := n2_
              clear n0_ n1_ n2_
              have p114 : 0 ≤ ((ji24) : Int) := of_decide_eq_true (by first | (with_reducible assumption) | assumption)
              have q114 : (ji24) < (l2.length : Int) := of_decide_eq_true (by first | (with_reducible assumption) | assumption)
              obtain ⟨ad114, e114, hx114_0⟩ := Kd.at_int HR2.out (ji24) p114 q114
              have hw114_0 := hx114_0
              obtain rfl : ad113 = ad114 := (by injection e114)
              replace hx114_0 := hc_ HB hx114_0
              replace p114 := eq_true p114
              replace q114 := eq_true q114
              refine start_ (n := 24) (S := fun w' => w'.cell? ⟨gb111, 0, none⟩ = some (.string a0_0) ∧ w'.cell? ⟨gb111, 1, none⟩ = some (.slice A0_1 l0_1.length c0_1) ∧ w'.cell? ⟨gb111, 2, none⟩ = some (.slice A0_2 l0_2.length c0_2) ∧ w'.cell? ⟨gb111, 3, none⟩ = some (.slice A0_3 l0_3.length c0_3) ∧ w'.cell? ⟨gb111, 4, none⟩ = some (.slice A0_4 l0_4.length c0_4) ∧ w'.cell? ⟨gb111, 5, none⟩ = some (.slice A0_5 l0_5.length c0_5) ∧ w'.cell? (ad113.add ((ji24)).toNat) = some (.int .i64 (rd l2 (ji24)))) (ds := []) (bz 24 0) (by kernel_rfl) rfl rfl ⟨(blk_cell BK111.out 0).trans rfl, (blk_cell BK111.out 1).trans rfl, (blk_cell BK111.out 2).trans rfl, (blk_cell BK111.out 3).trans rfl, (blk_cell BK111.out 4).trans rfl, (blk_cell BK111.out 5).trans rfl, (hc_ HB hw114_0)⟩ (fun hHeld => ?_); refine with_tabW cycles_Split.tab7 cycles_Split.bits7 (fun HT_ HW_ => ?_)
              generalize wr.drew = w28 at HO_8 BK111 HB hx114_0 hHeld ⊢
              refine pu_ 0 41 HT_ ?_
              refine pu_ 1 42 HT_ ?_
              refine pu_ 2 43 HT_ ?_
              refine pu_ 3 44 HT_ ?_
              refine pu_ 4 45 HT_ ?_
              refine tk_ 5 46 HT_ HW_ hHeld ?_ (hy := by rintro w' ⟨s0, s1, s2, s3, s4, s5, s6⟩; go_simp; with_reducible rfl)
              refine pu_ 6 47 HT_ ?_
              refine pu_ 7 48 HT_ ?_
              refine pu_ 8 49 HT_ ?_
              refine pu_ 9 50 HT_ ?_
              refine pu_ 10 51 HT_ ?_
              refine pu_ 11 52 HT_ ?_
              refine pu_ 12 53 HT_ ?_
              refine pu_ 14 55 HT_ ?_
              refine pu_ 15 56 HT_ ?_
              refine pu_ 16 57 HT_ ?_
              refine pu_ 17 58 HT_ ?_
              refine pu_ 19 60 HT_ ?_
              refine tk_ 13 54 HT_ HW_ hHeld ?_ (hy := by rintro w' ⟨s0, s1, s2, s3, s4, s5, s6⟩; go_simp; with_reducible rfl)
              refine tk_ 18 59 HT_ HW_ hHeld ?_ (hy := by rintro w' ⟨s0, s1, s2, s3, s4, s5, s6⟩; go_simp; with_reducible rfl)
              refine on_ 20 (some 61) HT_ (fun K hK => ?_)
              refine goes_ Try.func29 (by kernel_rfl) rfl #[.agg #[.string a0_0, .slice A0_1 l0_1.length c0_1, .slice A0_2 l0_2.length c0_2, .slice A0_3 l0_3.length c0_3, .slice A0_4 l0_4.length c0_4, .slice A0_5 l0_5.length c0_5], .int .i64 (rd l2 (ji24)), .int .i64 (rd l2 x36_2)] (by rfl) rfl rfl (by (try simp only [List.map_toArray, List.map_cons, List.map_nil]); first | done | (simp only [hji24]; rfl) | rfl | (simp only [List.length_drop, List.length_take]; rfl)) ?_
              with_reducible refine (cycles_leads.calls k2 a0_0 _ _ l0_1 _ _ l0_2 _ _ l0_3 _ _ l0_4 _ _ l0_5 (rd l2 (ji24)) (rd l2 x36_2) t115 _ ?side1 ?side2 ?side3 ?side4 ?side5 ?side6 ?side7 ?side8 ?side9 ?side10 A27.out).mono ?_
              (case side1 => exact CB_ HR0_1)
              (case side2 => exact HC0_1.out)
              (case side3 => exact CB_ HR0_2)
              (case side4 => exact HC0_2.out)
              (case side5 => exact CB_ HR0_3)
              (case side6 => exact HC0_3.out)
              (case side7 => exact CB_ HR0_4)
              (case side8 => exact HC0_4.out)
              (case side9 => exact CB_ HR0_5)
              (case side10 => exact HC0_5.out)
              rintro e w29 ⟨rfl, hb⟩
              refine ⟨_, rfl, ?_⟩
              have n0_ := Aside0.mk (Kd.R_below (R_ HO_8) hb)
              have n1_ := Aside0.mk (blk_below (K_ BK111) hb)
              have n2_ := Aside0.mk (below_step bl_ hb)
              clear HO_8
              clear BK111
              clear HB
              have HO_8 := n0_
              have BK111 := n1_
              have HB := n2_
              clear n0_ n1_ n2_
              (try clear hb)
              (try clear hb2)
              (try clear hk)
              (try clear hi)
              refine hK.out _ _ ⟨(blk_cell BK111.out 0).trans rfl, (blk_cell BK111.out 1).trans rfl, (blk_cell BK111.out 2).trans rfl, (blk_cell BK111.out 3).trans rfl, (blk_cell BK111.out 4).trans rfl, (blk_cell BK111.out 5).trans rfl, (hc_ HB hw114_0)⟩ (fun hHeld => ?_)
              clear hK K
              refine no_ 61 ?_
              refine pu_ 21 62 HT_ ?_
              refine pu_ 22 63 HT_ ?_
              refine pu_ 23 64 HT_ ?_
              refine done_ (done_of HT_.out (by kernel_rfl)) ?_
              try go_wp2
              go_meet
              case rel => exact ⟨_, (!t115), (by first | rfl | (simp; done) | (simp [*]; done)), H', ⟨by have := HJ3.out; have := HK2.out; first | omega | exact Nat.le_refl _⟩, ⟨R_ HO_8⟩, ⟨K_ BK111⟩, ⟨bl_⟩⟩
            rw [if_neg c26] at H
            exact absurd H (by simp)
          rw [if_neg c25] at H
          exact absurd H (by simp)
        rw [if_neg c23] at H
        have c23b0 : decide (0 < x36_2) = false := decide_eq_false c23
        clear c23
        have H' := Aside0.mk H
        clear H
        try go_wp2
        have n0_ := Aside0.mk (Kd.R_drew HO_8.out)
        have n1_ := Aside0.mk (blk_drew BK111.out)
        have n2_ := Aside0.mk (below_drew1 HB.out)
        clear HO_8
        clear BK111
        clear HB
        have HO_8 := n0_
        have BK111 := n1_
        have HB := n2_
        clear n0_ n1_ n2_
        refine start_ (n := 24) (S := fun w' => w'.cell? ⟨gb111, 0, none⟩ = some (.string a0_0) ∧ w'.cell? ⟨gb111, 1, none⟩ = some (.slice A0_1 l0_1.length c0_1) ∧ w'.cell? ⟨gb111, 2, none⟩ = some (.slice A0_2 l0_2.length c0_2) ∧ w'.cell? ⟨gb111, 3, none⟩ = some (.slice A0_3 l0_3.length c0_3) ∧ w'.cell? ⟨gb111, 4, none⟩ = some (.slice A0_4 l0_4.length c0_4) ∧ w'.cell? ⟨gb111, 5, none⟩ = some (.slice A0_5 l0_5.length c0_5)) (ds := []) (bz 24 0) (by kernel_rfl) rfl rfl ⟨(blk_cell BK111.out 0).trans rfl, (blk_cell BK111.out 1).trans rfl, (blk_cell BK111.out 2).trans rfl, (blk_cell BK111.out 3).trans rfl, (blk_cell BK111.out 4).trans rfl, (blk_cell BK111.out 5).trans rfl⟩ (fun hHeld => ?_); refine with_tabW cycles_Split.tab7 cycles_Split.bits7 (fun HT_ HW_ => ?_)
        generalize wr.drew = w30 at HO_8 BK111 HB hHeld ⊢
        refine pu_ 0 41 HT_ ?_
        refine pu_ 1 42 HT_ ?_
        refine pu_ 2 43 HT_ ?_
        refine pu_ 3 44 HT_ ?_
        refine pu_ 4 45 HT_ ?_
        refine tk_ 5 46 HT_ HW_ hHeld ?_ (hy := by rintro w' ⟨s0, s1, s2, s3, s4, s5⟩; go_simp; with_reducible rfl)
        refine pu_ 6 47 HT_ ?_
        refine pu_ 7 48 HT_ ?_
        refine pu_ 8 49 HT_ ?_
        refine pu_ 9 50 HT_ ?_
        refine pu_ 10 51 HT_ ?_
        refine pu_ 11 52 HT_ ?_
        refine pu_ 12 53 HT_ ?_
        refine pn_ 13 54 HT_ ?_
        refine pn_ 14 55 HT_ ?_
        refine pn_ 15 56 HT_ ?_
        refine pn_ 16 57 HT_ ?_
        refine pn_ 17 58 HT_ ?_
        refine pn_ 18 59 HT_ ?_
        refine pn_ 19 60 HT_ ?_
        refine pn_ 20 61 HT_ ?_
        refine pn_ 21 62 HT_ ?_
        refine pu_ 22 63 HT_ ?_
        refine pu_ 23 64 HT_ ?_
        refine done_ (done_of HT_.out (by kernel_rfl)) ?_
        try go_wp2
        go_meet
        case rel => exact ⟨_, (false), (by first | rfl | (simp; done) | (simp [*]; done)), H', ⟨by have := HJ3.out; have := HK2.out; first | omega | exact Nat.le_refl _⟩, ⟨R_ HO_8⟩, ⟨K_ BK111⟩, ⟨bl_⟩⟩
       clear HC18
       (try clear p1); (try clear q1); (try clear hx1); (try clear c2); (try clear p2); (try clear p6); (try clear p11); (try clear q11); (try clear hx11); (try clear c21); (try clear c21b0); (try clear c23); (try clear c23b0); (try clear c25); (try clear c25b0); (try clear c26); (try clear c26b0); (try clear c29); (try clear hx114_0); (try clear p114); (try clear q114)
       obtain ⟨kq, x64_17, rfl, HA, HJ17, HO_8, BK111, HB⟩ := hcut
       cases kq with
       | zero => exact absurd HA.out (by simp [cycles_Split.j2])
       | succ kj17 => ?_
       have H := HA.out
       clear HA
       simp only [cycles_Split.j2] at H
       by_cases c31 : x64_17 = true
       · subst c31
         have H1 : (some (([] : List (S46)), 3)) = some (r1, r2) := by rw [if_pos rfl] at H; exact H
         clear H
         have H := H1
         clear H1
         simp only [Option.some.injEq, Prod.mk.injEq] at H
         obtain ⟨rfl, rfl⟩ := H
         go_wp2
         go_ret2
         exact ⟨_, by first | rfl | (simp [errW_none, errW_some] <;> rfl) | (simp [*, errW_none, errW_some] <;> rfl), by first | exact Kd.R_nil _ _ _ _ _ | exact Kd.N_nil _ _ _ _ _ | exact Kd.V_nil _ _ _ _ _ | exact Kd.Q_nil _ _ _ _ _ | exact Kd.S_nil _ _ _ _ _, by repeat (first | (with_reducible first | exact HB.out | apply below_alloc | apply pw_below_drewN | apply below_drew1 | refine below_set ?_ GE111.out) | exact HB.out)⟩
       replace c31 := Bool.eq_false_iff.mpr c31
       subst c31
       have H1 : (if x36_2 > 0 then (if 0 ≤ (wrap64 (x36_2 - 1)) then (if (wrap64 (x36_2 - 1)) < (l2.length : Int) then (if (rd l2 (wrap64 (x36_2 - 1))) = (rd l2 x36_2) then ((cycles_Self.f kj17 a0_0 l0_1 l0_2 l0_3 l0_4 l0_5 l1 (rd l2 x36_2)).bind fun t117 => (if t117 ≥ 0 then (if 0 ≤ (wrap64 ((x8_2.length : Int) - 1)) then (if (wrap64 ((x8_2.length : Int) - 1)) < (x8_2.length : Int) then (cycles_Split.l0 kj17 l1 l2 (x8_2.set ((wrap64 ((x8_2.length : Int) - 1)) : Int).toNat (⟨(rd_T46 x8_2 (wrap64 ((x8_2.length : Int) - 1))).f0, wrap64 (((rd_T46 x8_2 (wrap64 ((x8_2.length : Int) - 1))).f1) + 1)⟩ : S46)) l2 (l2.length : Int) (wrap64 (x36_2 + 1)) a0_0 l0_1 l0_2 l0_3 l0_4 l0_5) else (none)) else (none)) else (if x8_2.length < 8796093022208 then (cycles_Split.l0 kj17 l1 l2 (x8_2 ++ [(⟨(rd l2 x36_2), 1⟩ : S46)]) l2 (l2.length : Int) (wrap64 (x36_2 + 1)) a0_0 l0_1 l0_2 l0_3 l0_4 l0_5) else (none)))) else (if x8_2.length < 8796093022208 then (cycles_Split.l0 kj17 l1 l2 (x8_2 ++ [(⟨(rd l2 x36_2), 1⟩ : S46)]) l2 (l2.length : Int) (wrap64 (x36_2 + 1)) a0_0 l0_1 l0_2 l0_3 l0_4 l0_5) else (none))) else (none)) else (none)) else (if x8_2.length < 8796093022208 then (cycles_Split.l0 kj17 l1 l2 (x8_2 ++ [(⟨(rd l2 x36_2), 1⟩ : S46)]) l2 (l2.length : Int) (wrap64 (x36_2 + 1)) a0_0 l0_1 l0_2 l0_3 l0_4 l0_5) else (none))) = some (r1, r2) := by rw [if_neg (show ¬ (false = true) by decide)] at H; exact H
       clear H
       have H := H1
       clear H1
       by_cases c32 : x36_2 > 0
       · rw [if_pos c32] at H
         have c32b0 : decide (0 < x36_2) = true := decide_eq_true c32
         clear c32
         obtain ⟨ji33, hji33⟩ : ∃ j_ : Int, (wrap64 (x36_2 - 1)) = j_ := ⟨_, rfl⟩
         replace H : (if 0 ≤ (ji33) then (if (ji33) < (l2.length : Int) then (if (rd l2 (ji33)) = (rd l2 x36_2) then ((cycles_Self.f kj17 a0_0 l0_1 l0_2 l0_3 l0_4 l0_5 l1 (rd l2 x36_2)).bind fun t117 => (if t117 ≥ 0 then (if 0 ≤ (wrap64 ((x8_2.length : Int) - 1)) then (if (wrap64 ((x8_2.length : Int) - 1)) < (x8_2.length : Int) then (cycles_Split.l0 kj17 l1 l2 (x8_2.set ((wrap64 ((x8_2.length : Int) - 1)) : Int).toNat (⟨(rd_T46 x8_2 (wrap64 ((x8_2.length : Int) - 1))).f0, wrap64 (((rd_T46 x8_2 (wrap64 ((x8_2.length : Int) - 1))).f1) + 1)⟩ : S46)) l2 (l2.length : Int) (wrap64 (x36_2 + 1)) a0_0 l0_1 l0_2 l0_3 l0_4 l0_5) else (none)) else (none)) else (if x8_2.length < 8796093022208 then (cycles_Split.l0 kj17 l1 l2 (x8_2 ++ [(⟨(rd l2 x36_2), 1⟩ : S46)]) l2 (l2.length : Int) (wrap64 (x36_2 + 1)) a0_0 l0_1 l0_2 l0_3 l0_4 l0_5) else (none)))) else (if x8_2.length < 8796093022208 then (cycles_Split.l0 kj17 l1 l2 (x8_2 ++ [(⟨(rd l2 x36_2), 1⟩ : S46)]) l2 (l2.length : Int) (wrap64 (x36_2 + 1)) a0_0 l0_1 l0_2 l0_3 l0_4 l0_5) else (none))) else (none)) else (none)) = some (r1, r2) := by first | (rw [hji33] at H; exact H) | (simp only [hji33] at H ⊢; exact H)
         have hji33w : (IntKind.i64.wrap (x36_2 - 1)) = ji33 := (i64_w _).trans hji33
         by_cases c34 : 0 ≤ (ji33)
         · rw [if_pos c34] at H
           have c34b0 : decide (0 ≤ (ji33)) = true := decide_eq_true c34
           clear c34
           by_cases c35 : (ji33) < (l2.length : Int)
           · rw [if_pos c35] at H
             have c35b0 : decide ((ji33) < (l2.length : Int)) = true := decide_eq_true c35
             clear c35
             by_cases c36 : (rd l2 (ji33)) = (rd l2 x36_2)
             · rw [if_pos c36] at H
               have c36b0 : ((rd l2 (ji33)) == (rd l2 x36_2)) = true := beq_iff_eq.mpr c36
               have c36b1 : ((rd l2 (ji33)) != (rd l2 x36_2)) = false := bne_eq_false_iff_eq.mpr c36
               clear c36
               replace H := Option.bind_eq_some_iff.mp H
               obtain ⟨t117, A370, H⟩ := H
               replace H : (if t117 ≥ 0 then (if 0 ≤ (wrap64 ((x8_2.length : Int) - 1)) then (if (wrap64 ((x8_2.length : Int) - 1)) < (x8_2.length : Int) then (cycles_Split.l0 kj17 l1 l2 (x8_2.set ((wrap64 ((x8_2.length : Int) - 1)) : Int).toNat (⟨(rd_T46 x8_2 (wrap64 ((x8_2.length : Int) - 1))).f0, wrap64 (((rd_T46 x8_2 (wrap64 ((x8_2.length : Int) - 1))).f1) + 1)⟩ : S46)) l2 (l2.length : Int) (wrap64 (x36_2 + 1)) a0_0 l0_1 l0_2 l0_3 l0_4 l0_5) else (none)) else (none)) else (if x8_2.length < 8796093022208 then (cycles_Split.l0 kj17 l1 l2 (x8_2 ++ [(⟨(rd l2 x36_2), 1⟩ : S46)]) l2 (l2.length : Int) (wrap64 (x36_2 + 1)) a0_0 l0_1 l0_2 l0_3 l0_4 l0_5) else (none))) = some (r1, r2) := H
               have A37 := Aside0.mk A370
               clear A370
               by_cases c38 : t117 ≥ 0
               · rw [if_pos c38] at H
                 have c38b0 : decide (0 ≤ t117) = true := decide_eq_true c38
                 clear c38
                 obtain ⟨ji39, hji39⟩ : ∃ j_ : Int, (wrap64 ((x8_2.length : Int) - 1)) = j_ := ⟨_, rfl⟩
                 replace H : (if 0 ≤ (ji39) then (if (ji39) < (x8_2.length : Int) then (cycles_Split.l0 kj17 l1 l2 (x8_2.set ((ji39) : Int).toNat (⟨(rd_T46 x8_2 (ji39)).f0, wrap64 (((rd_T46 x8_2 (ji39)).f1) + 1)⟩ : S46)) l2 (l2.length : Int) (wrap64 (x36_2 + 1)) a0_0 l0_1 l0_2 l0_3 l0_4 l0_5) else (none)) else (none)) = some (r1, r2) := by first | (rw [hji39] at H; exact H) | (simp only [hji39] at H ⊢; exact H)
                 (try rw [hji39] at A37)
                 have hji39w : (IntKind.i64.wrap ((x8_2.length : Int) - 1)) = ji39 := (i64_w _).trans hji39
                 by_cases c40 : 0 ≤ (ji39)
                 · rw [if_pos c40] at H
                   have c40b0 : decide (0 ≤ (ji39)) = true := decide_eq_true c40
                   clear c40
                   by_cases c41 : (ji39) < (x8_2.length : Int)
                   · rw [if_pos c41] at H
                     have c41b0 : decide ((ji39) < (x8_2.length : Int)) = true := decide_eq_true c41
                     clear c41
                     obtain ⟨y119, hy119⟩ : ∃ y_ : List (S46), y_ = (x8_2.set ((ji39) : Int).toNat (⟨(rd_T46 x8_2 (ji39)).f0, wrap64 (((rd_T46 x8_2 (ji39)).f1) + 1)⟩ : S46)) := ⟨_, rfl⟩
                     replace H : (cycles_Split.l0 kj17 l1 l2 y119 l2 (l2.length : Int) (wrap64 (x36_2 + 1)) a0_0 l0_1 l0_2 l0_3 l0_4 l0_5) = some (r1, r2) := by first | (rw [hy119]; with_reducible exact H) | (have H2_ := (Option.bind_some _ _).symm.trans H; rw [hy119]; with_reducible exact H2_) | (have H2_ := (Option.bind_some _ _).symm.trans H; with_reducible exact H2_) | with_reducible exact H | (rw [hy119]; exact H) | exact H
                     have Ny119 := Aside0.mk hy119
                     clear hy119
                     have H' := Aside0.mk H
                     clear H
                     have p116 : 0 ≤ ((ji33) : Int) := of_decide_eq_true (by first | (with_reducible assumption) | assumption)
                     have q116 : (ji33) < (l2.length : Int) := of_decide_eq_true (by first | (with_reducible assumption) | assumption)
                     obtain ⟨ad116, e116, hx116_0⟩ := Kd.at_int HR2.out (ji33) p116 q116
                     obtain rfl : ad113 = ad116 := (by injection e116)
                     replace hx116_0 := hc_ HB hx116_0
                     replace p116 := eq_true p116
                     replace q116 := eq_true q116
                     obtain ⟨hcz43_0, hcz43_1, hcz43_2, hcz43_3, hcz43_4, hcz43_5⟩ := cells6 BK111
                     obtain ⟨hfz43_0, hfz43_1, hfz43_2, hfz43_3, hfz43_4, hfz43_5⟩ := fz6 BK111
                     go_wp2_with (first | (go_at_call 10; (with_reducible refine (cycles_Self.calls kj17 a0_0 _ _ l0_1 _ _ l0_2 _ _ l0_3 _ _ l0_4 _ _ l0_5 _ _ l1 (rd l2 x36_2) t117 _ ?side1 ?side2 ?side3 ?side4 ?side5 ?side6 ?side7 ?side8 ?side9 ?side10 ?side11 ?side12 A37.out).mono ?_); (case side1 => exact CB_ HR0_1); (case side2 => exact HC0_1.out); (case side3 => exact CB_ HR0_2); (case side4 => exact HC0_2.out); (case side5 => exact CB_ HR0_3); (case side6 => exact HC0_3.out); (case side7 => exact CB_ HR0_4); (case side8 => exact HC0_4.out); (case side9 => exact CB_ HR0_5); (case side10 => exact HC0_5.out); (case side11 => exact CB_ HR1); (case side12 => exact HC1.out); rintro e w44 ⟨rfl, hb⟩; have n0_ := Aside0.mk (Kd.R_below (R_ HO_8) hb); have n1_ := Aside0.mk (blk_below (K_ BK111) hb); have n2_ := Aside0.mk (below_step bl_ hb); clear HO_8; clear BK111; clear HB; have HO_8 := n0_; have BK111 := n1_; have HB := n2_; clear n0_ n1_ n2_; (try clear hb); (try clear hb2); (try clear hk); (try clear hi); obtain ⟨Ao45, co45, eo45⟩ := Kd.R_slice HO_8.out; subst eo45; have p118 : 0 ≤ ((ji39) : Int) := of_decide_eq_true (by first | (with_reducible assumption) | assumption); have q118 : (ji39) < (x8_2.length : Int) := of_decide_eq_true (by first | (with_reducible assumption) | assumption); obtain ⟨ad118, e118, hx118_0, hx118_1⟩ := at_T46 (Kd.R_reads' HO_8.out).2.2 (ji39) p118 q118; cases e118; replace p118 := eq_true p118; replace q118 := eq_true q118; have p42 : 0 ≤ ((ji39) : Int) := of_decide_eq_true (by first | (with_reducible assumption) | assumption); have q42 : ((ji39) : Int) < ((x8_2.length : Int) : Int) := of_decide_eq_true (by first | (with_reducible assumption) | assumption); obtain ⟨go42, co42, eo42, gb42, gl42, cl42, HG42⟩ := Kd.R_form HO_8.out (by omega); (first | cases eo42 | (injection eo42 with ea_ en_ ec_; (first | subst ea_ | (injection ea_ with ea_; subst ea_)); subst ec_; clear en_)); have GB42 := Aside0.mk gb42; have GG42 := Aside0.mk HG42; clear gb42 gl42 HG42; (first | simp only [add_plain] at hx118_0 | skip); (first | simp only [add_plain] at hx118_1 | skip); obtain ⟨ce42, hcl42, hM42, hcc42, hfr42⟩ := Kd.R_elem HO_8.out z46 ((ji39) : Int) p42 q42; obtain rfl := k46_openM hM42; have hx42_0 : w44.cell? ⟨go42, ((ji39) : Int).toNat * 2, none⟩ = some (.int .i64 ((rd_T46 x8_2 (ji39)).f0)) := hcc42 0 _ rfl; have hx42_1 : w44.cell? ⟨go42, ((ji39) : Int).toNat * 2 + 1, none⟩ = some (.int .i64 ((rd_T46 x8_2 (ji39)).f1)) := hcc42 1 _ rfl; have hf42_0 : w44.frozen? ⟨go42, ((ji39) : Int).toNat * 2, none⟩ = false := hfr42 0; have hf42_1 : w44.frozen? ⟨go42, ((ji39) : Int).toNat * 2 + 1, none⟩ = false := hfr42 1; clear hcl42 hcc42 hfr42 hM42; replace p42 := eq_true p42; replace q42 := eq_true q42; have HX46 := Aside0.mk (show Kd.R k46 46 w44 w.heap.size (fun _ => True) (.slice (some ⟨go42, 0, none⟩) x8_2.length co45) x8_2 from (R_ HO_8)); obtain ⟨ce46, hcl46, hM46, hcc46, hfr46⟩ := Kd.R_elem HX46.out z46 ((ji39) : Int) (of_decide_eq_true (by first | (with_reducible assumption) | assumption)) (by have h_ : ((ji39) : Int) < ((x8_2.length : Int) : Int) := of_decide_eq_true (by first | (with_reducible assumption) | assumption); first | exact h_ | (have e_ := (Kd.R_reads' HO_8.out).1; omega) | simpa using h_); obtain rfl := k46_openM hM46; have HP46 := Kd.R_seg HX46.out ((ji39) : Int) (of_decide_eq_true (by first | (with_reducible assumption) | assumption)) (by have h_ : ((ji39) : Int) < ((x8_2.length : Int) : Int) := of_decide_eq_true (by first | (with_reducible assumption) | assumption); first | exact h_ | (have e_ := (Kd.R_reads' HO_8.out).1; omega) | simpa using h_) (seg := [.int .i64 (wrap64 (((rd_T46 x8_2 (ji39)).f1) + 1))]) (j := 1) hcl46 hcc46 (show 2 ≤ 2 from by decide) (x' := (⟨(rd_T46 x8_2 (ji39)).f0, wrap64 (((rd_T46 x8_2 (ji39)).f1) + 1)⟩ : S46)) (k46_mkM _ _ _ (⟨(rd_T46 x8_2 (ji39)).f0, wrap64 (((rd_T46 x8_2 (ji39)).f1) + 1)⟩ : S46) ) (fun _ hk => hk); have hx46_1 := hcc46 1 _ rfl; (try simp only [show (k46).sz = 2 from rfl, Nat.mul_one, Nat.add_zero] at hx46_1); have hf46_1 := hfr46 1; (try simp only [show (k46).sz = 2 from rfl, Nat.mul_one, Nat.add_zero] at hf46_1); clear hcl46 hcc46 hfr46 hM46) | ((with_reducible refine gate_store (t := 3) (p := 92) rfl ?_); refine store_event (t := 3) (p := 92) (v := ?vo_w47) (w1 := (w44.setCell ⟨go42, ((ji39) : Int).toNat * 2 + 1, none⟩ (.int .i64 (wrap64 (((rd_T46 x8_2 (ji39)).f1) + 1))))) ?hg ?ho ?hn ?hr ?_; (case ho => rfl); (case hg => rfl); (case hn => rfl); (case hr => first | (go_simp; done) | (go_simp; rfl)); intro w47 hw; have hg : w44.grownBy w47 (some go42) := (by rw [hw]; exact HP46.2); have hp_ : Kd.R k46 46 w47 w.heap.size (fun _ => True) (.slice (some ⟨go42, 0, none⟩) x8_2.length co45) y119 := (by rw [hw, Ny119.out]; exact HP46.1); clear HP46; have n0_ := Aside0.mk (hp_); have n1_ := Aside0.mk (blk_grown (K_ BK111) hg (Kd.R_ne HO_8.out BK111.out (by decide))); have n2_ := Aside0.mk ((by rw [hw]; exact below_set (HB.out) GB42.out : Below w.heap.size w w47)); clear HO_8; clear BK111; clear HB; have HO_8 := n0_; have BK111 := n1_; have HB := n2_; clear n0_ n1_ n2_; clear hg hw hp_))
                     go_roundg kj17
                     case measure => have := HJ3.out; have := HK2.out; have := HJ17.out; omega
                     case rel => exact ⟨(y119), (wrap64 (x36_2 + 1)), (by first | rfl | (simp; done) | (simp [*]; done)), H', ⟨by have := HJ3.out; have := HK2.out; have := HJ17.out; omega⟩, ⟨R_ HO_8⟩, ⟨K_ BK111⟩, ⟨bl_⟩⟩
                   rw [if_neg c41] at H
                   exact absurd H (by simp)
                 rw [if_neg c40] at H
                 exact absurd H (by simp)
               rw [if_neg c38] at H
               have c38b0 : decide (0 ≤ t117) = false := decide_eq_false c38
               clear c38
               by_cases c48 : x8_2.length < 8796093022208
               · rw [if_pos c48] at H
                 have LMc48 := Aside0.mk c48
                 clear c48
                 obtain ⟨y120, hy120⟩ : ∃ y_ : List (S46), y_ = (x8_2 ++ [(⟨(rd l2 x36_2), 1⟩ : S46)]) := ⟨_, rfl⟩
                 replace H : (cycles_Split.l0 kj17 l1 l2 y120 l2 (l2.length : Int) (wrap64 (x36_2 + 1)) a0_0 l0_1 l0_2 l0_3 l0_4 l0_5) = some (r1, r2) := by first | (rw [hy120]; with_reducible exact H) | (have H2_ := (Option.bind_some _ _).symm.trans H; rw [hy120]; with_reducible exact H2_) | (have H2_ := (Option.bind_some _ _).symm.trans H; with_reducible exact H2_) | with_reducible exact H | (rw [hy120]; exact H) | exact H
                 have Ny120 := Aside0.mk hy120
                 clear hy120
                 have H' := Aside0.mk H
                 clear H
                 have p116 : 0 ≤ ((ji33) : Int) := of_decide_eq_true (by first | (with_reducible assumption) | assumption)
                 have q116 : (ji33) < (l2.length : Int) := of_decide_eq_true (by first | (with_reducible assumption) | assumption)
                 obtain ⟨ad116, e116, hx116_0⟩ := Kd.at_int HR2.out (ji33) p116 q116
                 obtain rfl : ad113 = ad116 := (by injection e116)
                 replace hx116_0 := hc_ HB hx116_0
                 replace p116 := eq_true p116
                 replace q116 := eq_true q116
                 obtain ⟨hcz49_0, hcz49_1, hcz49_2, hcz49_3, hcz49_4, hcz49_5⟩ := cells6 BK111
                 obtain ⟨hfz49_0, hfz49_1, hfz49_2, hfz49_3, hfz49_4, hfz49_5⟩ := fz6 BK111
                 go_wp2_with (first | (go_at_call 10; (with_reducible refine (cycles_Self.calls kj17 a0_0 _ _ l0_1 _ _ l0_2 _ _ l0_3 _ _ l0_4 _ _ l0_5 _ _ l1 (rd l2 x36_2) t117 _ ?side1 ?side2 ?side3 ?side4 ?side5 ?side6 ?side7 ?side8 ?side9 ?side10 ?side11 ?side12 A37.out).mono ?_); (case side1 => exact CB_ HR0_1); (case side2 => exact HC0_1.out); (case side3 => exact CB_ HR0_2); (case side4 => exact HC0_2.out); (case side5 => exact CB_ HR0_3); (case side6 => exact HC0_3.out); (case side7 => exact CB_ HR0_4); (case side8 => exact HC0_4.out); (case side9 => exact CB_ HR0_5); (case side10 => exact HC0_5.out); (case side11 => exact CB_ HR1); (case side12 => exact HC1.out); rintro e w50 ⟨rfl, hb⟩; have n0_ := Aside0.mk (Kd.R_below (R_ HO_8) hb); have n1_ := Aside0.mk (blk_below (K_ BK111) hb); have n2_ := Aside0.mk (below_step bl_ hb); clear HO_8; clear BK111; clear HB; have HO_8 := n0_; have BK111 := n1_; have HB := n2_; clear n0_ n1_ n2_; (try clear hb); (try clear hb2); (try clear hk); (try clear hi)) | ((with_reducible refine gate_builtin (b := .append) (xs := #[.tmp 93, .tmp 96]) rfl ?_); (try (refine gate_guard (by rfl) ?_; dsimp only)); at_builtin; refine Kd.R_append k46 (w0 := w) w.heap.size rfl (.tmp 93) (.tmp 96) 41 46 (.agg #[(.int .i64 0), (.int .i64 0)]) 16 rfl Try.underlying41 info46 rfl (by decide) (by omega) u8 x8_2 (⟨(rd l2 x36_2), 1⟩ : S46) [.int .i64 (rd l2 x36_2), .int .i64 1] (fun _ => True) (fun _ => False) rfl rfl ?aP (fun _ hk => hk.elim) ?aF ?aO ?aB ?aS ?aL ?_; (case aP => exact k46_mkM _ _ _ (⟨(rd l2 x36_2), 1⟩ : S46)); (case aB => exact bl_); (case aF => exact (fun _ _ => trivial)); (case aO => exact (R_ HO_8)); (case aS => exact (below_size bl_)); (case aL => have := LMc48.out; omega); intro v121 w51 ho hb hg hat; rw [← Ny120.out] at ho; have n0_ := Aside0.mk (blk_grown (K_ BK111) hg (Kd.R_ne HO_8.out BK111.out (by decide))); have n1_ := Aside0.mk (hb); have n2_ := Aside0.mk (ho); clear BK111; clear HB; clear HO_8; have BK111 := n0_; have HB := n1_; have HO122 := n2_; clear n0_ n1_ n2_; clear ho hb hg hat))
                 go_roundg kj17
                 case measure => have := HJ3.out; have := HK2.out; have := HJ17.out; omega
                 case rel => exact ⟨(y120), (wrap64 (x36_2 + 1)), (by first | rfl | (simp; done) | (simp [*]; done)), H', ⟨by have := HJ3.out; have := HK2.out; have := HJ17.out; omega⟩, ⟨R_ HO122⟩, ⟨K_ BK111⟩, ⟨bl_⟩⟩
               rw [if_neg c48] at H
               exact absurd H (by simp)
             rw [if_neg c36] at H
             have c36b0 : ((rd l2 (ji33)) == (rd l2 x36_2)) = false := beq_eq_false_iff_ne.mpr c36
             have c36b1 : ((rd l2 (ji33)) != (rd l2 x36_2)) = true := bne_iff_ne.mpr c36
             by_cases c52 : x8_2.length < 8796093022208
             · rw [if_pos c52] at H
               have LMc52 := Aside0.mk c52
               clear c52
               obtain ⟨y123, hy123⟩ : ∃ y_ : List (S46), y_ = (x8_2 ++ [(⟨(rd l2 x36_2), 1⟩ : S46)]) := ⟨_, rfl⟩
               replace H : (cycles_Split.l0 kj17 l1 l2 y123 l2 (l2.length : Int) (wrap64 (x36_2 + 1)) a0_0 l0_1 l0_2 l0_3 l0_4 l0_5) = some (r1, r2) := by first | (rw [hy123]; with_reducible exact H) | (have H2_ := (Option.bind_some _ _).symm.trans H; rw [hy123]; with_reducible exact H2_) | (have H2_ := (Option.bind_some _ _).symm.trans H; with_reducible exact H2_) | with_reducible exact H | (rw [hy123]; exact H) | exact H
               have Ny123 := Aside0.mk hy123
               clear hy123
               have H' := Aside0.mk H
               clear H
               have p116 : 0 ≤ ((ji33) : Int) := of_decide_eq_true (by first | (with_reducible assumption) | assumption)
               have q116 : (ji33) < (l2.length : Int) := of_decide_eq_true (by first | (with_reducible assumption) | assumption)
               obtain ⟨ad116, e116, hx116_0⟩ := Kd.at_int HR2.out (ji33) p116 q116
               obtain rfl : ad113 = ad116 := (by injection e116)
               replace hx116_0 := hc_ HB hx116_0
               replace p116 := eq_true p116
               replace q116 := eq_true q116
               go_wp2_with (first | ((with_reducible refine gate_builtin (b := .append) (xs := #[.tmp 93, .tmp 96]) rfl ?_); (try (refine gate_guard (by rfl) ?_; dsimp only)); at_builtin; refine Kd.R_append k46 (w0 := w) w.heap.size rfl (.tmp 93) (.tmp 96) 41 46 (.agg #[(.int .i64 0), (.int .i64 0)]) 16 rfl Try.underlying41 info46 rfl (by decide) (by omega) u8 x8_2 (⟨(rd l2 x36_2), 1⟩ : S46) [.int .i64 (rd l2 x36_2), .int .i64 1] (fun _ => True) (fun _ => False) rfl rfl ?aP (fun _ hk => hk.elim) ?aF ?aO ?aB ?aS ?aL ?_; (case aP => exact k46_mkM _ _ _ (⟨(rd l2 x36_2), 1⟩ : S46)); (case aB => exact bl_); (case aF => exact (fun _ _ => trivial)); (case aO => exact (R_ HO_8)); (case aS => exact (below_size bl_)); (case aL => have := LMc52.out; omega); intro v124 w53 ho hb hg hat; rw [← Ny123.out] at ho; have n0_ := Aside0.mk (blk_grown (K_ BK111) hg (Kd.R_ne HO_8.out BK111.out (by decide))); have n1_ := Aside0.mk (hb); have n2_ := Aside0.mk (ho); clear BK111; clear HB; clear HO_8; have BK111 := n0_; have HB := n1_; have HO125 := n2_; clear n0_ n1_ n2_; clear ho hb hg hat))
               go_roundg kj17
               case measure => have := HJ3.out; have := HK2.out; have := HJ17.out; omega
               case rel => exact ⟨(y123), (wrap64 (x36_2 + 1)), (by first | rfl | (simp; done) | (simp [*]; done)), H', ⟨by have := HJ3.out; have := HK2.out; have := HJ17.out; omega⟩, ⟨R_ HO125⟩, ⟨K_ BK111⟩, ⟨bl_⟩⟩
             rw [if_neg c52] at H
             exact absurd H (by simp)
           rw [if_neg c35] at H
           exact absurd H (by simp)
         rw [if_neg c34] at H
         exact absurd H (by simp)
       rw [if_neg c32] at H
       have c32b0 : decide (0 < x36_2) = false := decide_eq_false c32
       clear c32
       by_cases c54 : x8_2.length < 8796093022208
       · rw [if_pos c54] at H
         have LMc54 := Aside0.mk c54
         clear c54
         obtain ⟨y126, hy126⟩ : ∃ y_ : List (S46), y_ = (x8_2 ++ [(⟨(rd l2 x36_2), 1⟩ : S46)]) := ⟨_, rfl⟩
         replace H : (cycles_Split.l0 kj17 l1 l2 y126 l2 (l2.length : Int) (wrap64 (x36_2 + 1)) a0_0 l0_1 l0_2 l0_3 l0_4 l0_5) = some (r1, r2) := by first | (rw [hy126]; with_reducible exact H) | (have H2_ := (Option.bind_some _ _).symm.trans H; rw [hy126]; with_reducible exact H2_) | (have H2_ := (Option.bind_some _ _).symm.trans H; with_reducible exact H2_) | with_reducible exact H | (rw [hy126]; exact H) | exact H
         have Ny126 := Aside0.mk hy126
         clear hy126
         have H' := Aside0.mk H
         clear H
         go_wp2_with (first | ((with_reducible refine gate_builtin (b := .append) (xs := #[.tmp 93, .tmp 96]) rfl ?_); (try (refine gate_guard (by rfl) ?_; dsimp only)); at_builtin; refine Kd.R_append k46 (w0 := w) w.heap.size rfl (.tmp 93) (.tmp 96) 41 46 (.agg #[(.int .i64 0), (.int .i64 0)]) 16 rfl Try.underlying41 info46 rfl (by decide) (by omega) u8 x8_2 (⟨(rd l2 x36_2), 1⟩ : S46) [.int .i64 (rd l2 x36_2), .int .i64 1] (fun _ => True) (fun _ => False) rfl rfl ?aP (fun _ hk => hk.elim) ?aF ?aO ?aB ?aS ?aL ?_; (case aP => exact k46_mkM _ _ _ (⟨(rd l2 x36_2), 1⟩ : S46)); (case aB => exact bl_); (case aF => exact (fun _ _ => trivial)); (case aO => exact (R_ HO_8)); (case aS => exact (below_size bl_)); (case aL => have := LMc54.out; omega); intro v127 w55 ho hb hg hat; rw [← Ny126.out] at ho; have n0_ := Aside0.mk (blk_grown (K_ BK111) hg (Kd.R_ne HO_8.out BK111.out (by decide))); have n1_ := Aside0.mk (hb); have n2_ := Aside0.mk (ho); clear BK111; clear HB; clear HO_8; have BK111 := n0_; have HB := n1_; have HO128 := n2_; clear n0_ n1_ n2_; clear ho hb hg hat))
         go_roundg kj17
         case measure => have := HJ3.out; have := HK2.out; have := HJ17.out; omega
         case rel => exact ⟨(y126), (wrap64 (x36_2 + 1)), (by first | rfl | (simp; done) | (simp [*]; done)), H', ⟨by have := HJ3.out; have := HK2.out; have := HJ17.out; omega⟩, ⟨R_ HO128⟩, ⟨K_ BK111⟩, ⟨bl_⟩⟩
       rw [if_neg c54] at H
       exact absurd H (by simp)
     rw [if_neg c17] at H
     exact absurd H (by simp)
   rw [if_neg c16] at H
   exact absurd H (by simp)
 rw [if_neg c15] at H
 have c15b0 : decide (x36_2 < (l2.length : Int)) = false := decide_eq_false c15
 clear c15
 simp only [Option.some.injEq, Prod.mk.injEq] at H
 obtain ⟨rfl, rfl⟩ := H
 go_wp2
 go_ret2
 exact ⟨_, by first | rfl | (simp [errW_none, errW_some] <;> rfl) | (simp [*, errW_none, errW_some] <;> rfl), by (with_reducible repeat (first | apply Kd.R_alloc | apply Kd.R_drewN | apply Kd.R_drew)); exact HO_8.out, by repeat (first | (with_reducible first | exact HB.out | apply below_alloc | apply pw_below_drewN | apply below_drew1 | refine below_set ?_ GE111.out) | exact HB.out)⟩
end Go.Proofs.Ytmefaegcoogmiaa.PAll
