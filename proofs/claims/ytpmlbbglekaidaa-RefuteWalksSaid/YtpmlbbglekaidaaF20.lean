-- Written for this claim by programs of this session (wip/print2 in its repo: a changed printer, a shortener, a packer). Lean checks it.
import Derived.Test.YtpmlbbglekaidaaP0
import Derived.Test.YtpmlbbglekaidaaF38
namespace Go.Proofs.Ytpmlbbglekaidaa.PAll
open Go.RowKit Go.Proofs.YtpmlbbglekaidaaW.PrintWords Go.Proofs.YtpmlbbglekaidaaW.PrintLast Go.Proofs.YtpmlbbglekaidaaW.PrintMore
attribute [local go_sem] max2_int min2_int max_two min_two max_three min_three max_four min_four   -- for this text's walks alone
set_option linter.unusedVariables false
set_option linter.unusedSimpArgs false

/-! ### refute_none: function 20 -/
def noneR1.T1 : Bool × List (List Nat × List Nat) := (true, [([], []), ([], []), ([1], [1]), ([0, 2], [0, 2]), ([], []), ([], []), ([5], [5]), ([4, 6, 3], [4, 6]), ([3, 7], [3, 7]), ([8, 7, 0, 1, 2, 3, 4, 5, 6, 7, 8], [8])])
def noneR1.B1 : List Nat := [0, 0, 2, 7, 0, 0, 32, 127, 255, 511]
theorem noneR1.tab1 : rtab .any (opsOf Try.f20 1) = noneR1.T1 := by kernel_rfl
theorem noneR1.bits1 : waitsOk noneR1.T1.2 noneR1.B1 = true := by kernel_rfl
-- refute.none, by hand
def refute_none.f (a0_0 : Int) (a0_1 : Int) (a0_2 : Bool) (l0_3 : List (S48)) (l0_4 : List (S50)) (l0_5 : List (S52)) : Option (List Int × List Int) := (slices_Repeat_int_int.f [-1] a0_0).bind fun t => (slices_Repeat_int_int.f [-1] a0_0).bind fun u => some (t, u)
theorem None.reok {e : Nat} {w : World} {B : Nat} {ok ok' : Nat → Prop} {v : Value} {xs : List Int} (h : Kd.R (Kd.int .i64) e w B ok v xs) (ho : ∀ k, v.ownBlock = some k → ok' k) : Kd.R (Kd.int .i64) e w B ok' v xs := ⟨ho, h.2.imp_ (fun _ _ hp => hp)⟩
theorem None.lit (w : World) (x : Int) : Kd.C (Kd.int .i64) (w.alloc (.cells #[.int .i64 x] 3)) (some ⟨w.heap.size, 0, none⟩) ([x] : List Int).length [x] := by
  refine ⟨rfl, by simp, fun _ => ⟨_, rfl, fun j p hj => ?_⟩⟩
  have hj0 : j = 0 := by have := (List.getElem?_eq_some_iff.1 hj).1; simp at this; omega
  subst hj0
  obtain rfl : x = p := by simpa using hj
  refine ⟨[.int .i64 x], rfl, rfl, fun i u hi => ?_⟩
  have hi0 : i = 0 := by have := (List.getElem?_eq_some_iff.1 hi).1; simp at this; omega
  subst hi0
  obtain rfl : Value.int .i64 x = u := by simpa using hi
  exact (blk_cell (blk_new w (.cells #[.int .i64 x] 3)) 0).trans rfl
set_option maxHeartbeats 8000000 in
set_option maxRecDepth 100000 in
theorem refute_none.calls (a0_0 : Int) (a0_1 : Int) (a0_2 : Bool) (A0_3 : Option Addr) (c0_3 : Nat) (l0_3 : List (S48)) (A0_4 : Option Addr) (c0_4 : Nat) (l0_4 : List (S50)) (A0_5 : Option Addr) (c0_5 : Nat) (l0_5 : List (S52)) (r1 : List Int) (r2 : List Int) (w : World) (hr0_3 : Kd.C k48 w A0_3 l0_3.length l0_3) (hc0_3 : l0_3.length ≤ c0_3) (hr0_4 : Kd.C k50 w A0_4 l0_4.length l0_4) (hc0_4 : l0_4.length ≤ c0_4) (hr0_5 : Kd.C k52 w A0_5 l0_5.length l0_5) (hc0_5 : l0_5.length ≤ c0_5) (h : refute_none.f a0_0 a0_1 a0_2 l0_3 l0_4 l0_5 = some (r1, r2)) :
    Calls Try.prog 20 #[.agg #[.int .i64 a0_0, .int .i64 a0_1, .bool a0_2, .slice A0_3 l0_3.length c0_3, .slice A0_4 l0_4.length c0_4, .slice A0_5 l0_5.length c0_5]] w fun e w' => ∃ v0_ v1_ : Value, e = .returned (.agg #[v0_, v1_]) ∧ Kd.R (Kd.int .i64) 3 w' w.heap.size (fun k_ => some k_ ≠ (v1_ : Value).ownBlock) v0_ r1 ∧ Kd.R (Kd.int .i64) 3 w' w.heap.size (fun k_ => some k_ ≠ (v0_ : Value).ownBlock) v1_ r2 ∧ Below w.heap.size w w' := by
  obtain ⟨tA, hfA, H⟩ := Option.bind_eq_some_iff.mp h
  obtain ⟨tB, hfB, H⟩ := Option.bind_eq_some_iff.mp H
  simp only [Option.some.injEq, Prod.mk.injEq] at H
  obtain ⟨rfl, rfl⟩ := H
  clear h hr0_3 hc0_3 hr0_4 hc0_4 hr0_5 hc0_5
  have hu26 := Try.underlying26
  have hu61 := Try.underlying61
  replace hfA := Aside0.mk hfA
  replace hfB := Aside0.mk hfB
  go_enter Try.func20, Try.ntmps20
  try go_wp2_with (first | ((with_reducible refine gate_dst (N := 1) rfl ?_); refine box_event ?hg (N := 1) ?hd (cs := #[.int .i64 a0_0, .int .i64 a0_1, .bool a0_2, .slice A0_3 l0_3.length c0_3, .slice A0_4 l0_4.length c0_4, .slice A0_5 l0_5.length c0_5]) (t := 26) ?hr ?_; (case hd => rfl); (case hg => rfl); (case hr => first | (go_simp; done) | (go_simp; rfl)); intro gb hgb w4 BK4 hb4; replace hgb := Aside0.mk hgb; replace BK4 := Aside0.mk BK4; replace hb4 := Aside0.mk hb4) | ((with_reducible refine gate_dst (N := 2) rfl ?_); refine box_event ?hg (N := 2) ?hd (cs := #[.slice none 0 0, .slice none 0 0]) (t := 61) ?hr ?_; (case hd => rfl); (case hg => rfl); (case hr => first | (go_simp; done) | (go_simp; rfl)); intro g8 hg8 w5 BK8 hb8; replace hg8 := Aside0.mk hg8; replace BK8 := Aside0.mk BK8; replace hb8 := Aside0.mk hb8))
  have HB0 : Below w.heap.size w w5.drew := below_drew1 (below_step hb4.out hb8.out)
  have B0 := blk_drew (blk_below BK4.out hb8.out)
  have C0 := blk_drew BK8.out
  have z8 : w.heap.size ≤ g8 := by rw [hg8.out]; exact below_size hb4.out
  refine start_ (n := 10) (S := fun w' => w'.cell? ⟨gb, 0, none⟩ = some (.int .i64 a0_0)) (ds := [9]) (bz 10 0) (by kernel_rfl) rfl rfl (((blk_cell B0 0).trans rfl)) (fun hHeld => ?_)
  refine with_tabW noneR1.tab1 noneR1.bits1 (fun HT_ HW_ => ?_)
  generalize w5.drew = w6 at HB0 B0 C0 hHeld ⊢
  refine pu_ 1 4 HT_ ?_
  refine pu_ 5 8 HT_ ?_
  refine tk_ 2 5 HT_ HW_ hHeld ?_ (hy := by intro w' s0; go_simp; with_reducible rfl)
  refine tk_ 6 9 HT_ HW_ hHeld ?_ (hy := by intro w' s0; go_simp; with_reducible rfl)
  refine join_ (σ := (Option Addr × Nat) × Nat × Nat) 3 (bz 10 127) (fun q => [(3, .slice (some ⟨q.2.1, 0, none⟩) 1 1), (6, .slice q.1.1 tA.length q.1.2), (7, .slice (some ⟨q.2.2, 0, none⟩) 1 1)]) (fun q w' => Below w.heap.size w w' ∧ w'.heap[gb]? = some (.cells #[.int .i64 a0_0, .int .i64 a0_1, .bool a0_2, .slice A0_3 l0_3.length c0_3, .slice A0_4 l0_4.length c0_4, .slice A0_5 l0_5.length c0_5] 26 (0, 0)) ∧ w'.heap[g8]? = some (.cells #[.slice none 0 0, .slice none 0 0] 61 (0, 0)) ∧ Kd.R (Kd.int .i64) 3 w' w.heap.size (fun _ => True) (.slice q.1.1 tA.length q.1.2) tA ∧ Kd.C (Kd.int .i64) w' (some ⟨q.2.2, 0, none⟩) ([-1] : List Int).length [-1]) ?_ ?_; rotate_left; (intro hCont; refine two_ (i := 0) (j := 4) (Ni := some 3) (Nj := some 7) (bz 10 103) (bz 10 118) rfl rfl rfl rfl (two_of HT_.out (by kernel_rfl)) (by decide) (by decide) (fun K hK => ?_) (fun K hK => ?_)); (skip; refine value_ (w1 := ?_) (v := ?_) (by rfl) rfl ?_ ?_; rotate_left 2); (go_simp; constructor); (rfl); (rfl; generalize hq : World.alloc _ _ = u1; have hb : Below w6.heap.size w6 u1 := (by rw [← hq]; exact below_alloc (Below.refl _ _) _); have LA1 : Kd.C (Kd.int .i64) u1 (some ⟨w6.heap.size, 0, none⟩) ([-1] : List Int).length [-1] := (by rw [← hq]; exact None.lit _ _); have HB1 := below_step HB0 hb; have B1 := blk_below B0 hb; have C1 := blk_below C0 hb; clear hq hb; refine hK.out _ _ ((blk_cell B1 0).trans rfl) (fun hHeld => ?_); clear hK K; refine norm_ (a' := ?_) ?_ ?_; rotate_left); (show Act.put _ (some 3) _ = _; simp only [Act.put, List.setIfInBounds_toArray, List.set_cons_zero, List.set_cons_succ, i64_w, i32_w]; rfl; refine two_ (i := 3) (j := 4) (Ni := some 6) (Nj := some 7) (bz 10 111) (bz 10 119) rfl rfl rfl rfl (two_of HT_.out (by kernel_rfl)) (by decide) (by decide) (fun K hK => ?_) (fun K hK => ?_)); (skip; refine gs_ Try.func38 #[.slice (some ⟨w6.heap.size, 0, none⟩) 1 1, .int .i64 a0_0] ?_; refine (slices_Repeat_int_int.calls _ _ [-1] a0_0 _ _ LA1 (Nat.le_refl 1) hfA.out).mono ?_; rintro e u2 ⟨v, rfl, ho, hb⟩; obtain ⟨AA, cA, rfl⟩ := Kd.R_slice ho; refine ⟨_, rfl, ?_⟩; have RA2 := Kd.R_lower ho (below_size HB1); have HB2 := below_step HB1 hb; have B2 := blk_below B1 hb; have C2 := blk_below C1 hb; clear ho hb; refine hK.out _ _ ((blk_cell B2 0).trans rfl) (fun hHeld => ?_); clear hK K; refine norm_ (a' := ?_) ?_ ?_; rotate_left); (show Act.put _ (some 6) _ = _; simp only [Act.put, List.setIfInBounds_toArray, List.set_cons_zero, List.set_cons_succ, i64_w, i32_w]; rfl; refine on_ 4 (some 7) HT_ (fun K hK => ?_); refine value_ (w1 := ?_) (v := ?_) (by rfl) rfl ?_ ?_; rotate_left 2); (go_simp; constructor); (rfl); (rfl; generalize hq : World.alloc _ _ = u3; have hb : Below u2.heap.size u2 u3 := (by rw [← hq]; exact below_alloc (Below.refl _ _) _); have LB3 : Kd.C (Kd.int .i64) u3 (some ⟨u2.heap.size, 0, none⟩) ([-1] : List Int).length [-1] := (by rw [← hq]; exact None.lit _ _); have HB3 := below_step HB2 hb; have B3 := blk_below B2 hb; have C3 := blk_below C2 hb; have RA3 := Kd.R_below RA2 hb; clear hq hb; refine hK.out _ _ ((blk_cell B3 0).trans rfl) (fun hHeld => ?_); clear hK K; refine norm_ (a' := ?_) ?_ ?_; rotate_left); (show Act.put _ (some 7) _ = _; simp only [Act.put, List.setIfInBounds_toArray, List.set_cons_zero, List.set_cons_succ, i64_w, i32_w]; rfl; exact norm_ (by simp only [putAll, Act.put, List.setIfInBounds_toArray, List.set_cons_zero, List.set_cons_succ]) (hCont ((AA, cA), w6.heap.size, u2.heap.size) _ ⟨HB3, B3, C3, RA3, LB3⟩)); (skip; refine value_ (w1 := ?_) (v := ?_) (by rfl) rfl ?_ ?_; rotate_left 2); (go_simp; constructor); (rfl); (rfl; generalize hq : World.alloc _ _ = u2; have hb : Below u1.heap.size u1 u2 := (by rw [← hq]; exact below_alloc (Below.refl _ _) _); have LB2 : Kd.C (Kd.int .i64) u2 (some ⟨u1.heap.size, 0, none⟩) ([-1] : List Int).length [-1] := (by rw [← hq]; exact None.lit _ _); have HB2 := below_step HB1 hb; have B2 := blk_below B1 hb; have C2 := blk_below C1 hb; have LA2 := Kd.C_below LA1 hb; clear hq hb; refine hK.out _ _ ((blk_cell B2 0).trans rfl) (fun hHeld => ?_); clear hK K; refine norm_ (a' := ?_) ?_ ?_; rotate_left); (show Act.put _ (some 7) _ = _; simp only [Act.put, List.setIfInBounds_toArray, List.set_cons_zero, List.set_cons_succ, i64_w, i32_w]; rfl; refine on_ 3 (some 6) HT_ (fun K hK => ?_); refine gs_ Try.func38 #[.slice (some ⟨w6.heap.size, 0, none⟩) 1 1, .int .i64 a0_0] ?_; refine (slices_Repeat_int_int.calls _ _ [-1] a0_0 _ _ LA2 (Nat.le_refl 1) hfA.out).mono ?_; rintro e u3 ⟨v, rfl, ho, hb⟩; obtain ⟨AA, cA, rfl⟩ := Kd.R_slice ho; refine ⟨_, rfl, ?_⟩; have RA3 := Kd.R_lower ho (below_size HB2); have HB3 := below_step HB2 hb; have B3 := blk_below B2 hb; have C3 := blk_below C2 hb; have LB3 := Kd.C_below LB2 hb; clear ho hb; refine hK.out _ _ ((blk_cell B3 0).trans rfl) (fun hHeld => ?_); clear hK K; refine norm_ (a' := ?_) ?_ ?_; rotate_left); (show Act.put _ (some 6) _ = _; simp only [Act.put, List.setIfInBounds_toArray, List.set_cons_zero, List.set_cons_succ, i64_w, i32_w]; rfl; exact norm_ (by simp only [putAll, Act.put, List.setIfInBounds_toArray, List.set_cons_zero, List.set_cons_succ]) (hCont ((AA, cA), w6.heap.size, u1.heap.size) _ ⟨HB3, B3, C3, RA3, LB3⟩)); (skip; refine value_ (w1 := ?_) (v := ?_) (by rfl) rfl ?_ ?_; rotate_left 2); (go_simp; constructor); (rfl); (rfl; generalize hq : World.alloc _ _ = u1; have hb : Below w6.heap.size w6 u1 := (by rw [← hq]; exact below_alloc (Below.refl _ _) _); have LB1 : Kd.C (Kd.int .i64) u1 (some ⟨w6.heap.size, 0, none⟩) ([-1] : List Int).length [-1] := (by rw [← hq]; exact None.lit _ _); have HB1 := below_step HB0 hb; have B1 := blk_below B0 hb; have C1 := blk_below C0 hb; clear hq hb; refine hK.out _ _ ((blk_cell B1 0).trans rfl) (fun hHeld => ?_); clear hK K; refine norm_ (a' := ?_) ?_ ?_; rotate_left); (show Act.put _ (some 7) _ = _; simp only [Act.put, List.setIfInBounds_toArray, List.set_cons_zero, List.set_cons_succ, i64_w, i32_w]; rfl; refine on_ 0 (some 3) HT_ (fun K hK => ?_); refine value_ (w1 := ?_) (v := ?_) (by rfl) rfl ?_ ?_; rotate_left 2); (go_simp; constructor); (rfl); (rfl; generalize hq : World.alloc _ _ = u2; have hb : Below u1.heap.size u1 u2 := (by rw [← hq]; exact below_alloc (Below.refl _ _) _); have LA2 : Kd.C (Kd.int .i64) u2 (some ⟨u1.heap.size, 0, none⟩) ([-1] : List Int).length [-1] := (by rw [← hq]; exact None.lit _ _); have HB2 := below_step HB1 hb; have B2 := blk_below B1 hb; have C2 := blk_below C1 hb; have LB2 := Kd.C_below LB1 hb; clear hq hb; refine hK.out _ _ ((blk_cell B2 0).trans rfl) (fun hHeld => ?_); clear hK K; refine norm_ (a' := ?_) ?_ ?_; rotate_left); (show Act.put _ (some 3) _ = _; simp only [Act.put, List.setIfInBounds_toArray, List.set_cons_zero, List.set_cons_succ, i64_w, i32_w]; rfl; refine on_ 3 (some 6) HT_ (fun K hK => ?_); refine gs_ Try.func38 #[.slice (some ⟨u1.heap.size, 0, none⟩) 1 1, .int .i64 a0_0] ?_; refine (slices_Repeat_int_int.calls _ _ [-1] a0_0 _ _ LA2 (Nat.le_refl 1) hfA.out).mono ?_; rintro e u3 ⟨v, rfl, ho, hb⟩; obtain ⟨AA, cA, rfl⟩ := Kd.R_slice ho; refine ⟨_, rfl, ?_⟩; have RA3 := Kd.R_lower ho (below_size HB2); have HB3 := below_step HB2 hb; have B3 := blk_below B2 hb; have C3 := blk_below C2 hb; have LB3 := Kd.C_below LB2 hb; clear ho hb; refine hK.out _ _ ((blk_cell B3 0).trans rfl) (fun hHeld => ?_); clear hK K; refine norm_ (a' := ?_) ?_ ?_; rotate_left); (show Act.put _ (some 6) _ = _; simp only [Act.put, List.setIfInBounds_toArray, List.set_cons_zero, List.set_cons_succ, i64_w, i32_w]; rfl; exact norm_ (by simp only [putAll, Act.put, List.setIfInBounds_toArray, List.set_cons_zero, List.set_cons_succ]) (hCont ((AA, cA), u1.heap.size, w6.heap.size) _ ⟨HB3, B3, C3, RA3, LB3⟩))
  rintro ⟨⟨AA, cA⟩, gl1, gl2⟩ u8 ⟨HB8, B8, C8, RA8, LB8⟩
  have hHeld : u8.cell? ⟨gb, 0, none⟩ = some (.int .i64 a0_0) := (blk_cell B8 0).trans rfl
  refine norm_ (a' := ?_) ?_ ?_; rotate_left; (simp only [putAll, Act.put, List.setIfInBounds_toArray, List.set_cons_zero, List.set_cons_succ]; rfl)
  refine on_ 7 (some 10) HT_ (fun K hK => ?_)
  refine gs_ Try.func38 #[.slice (some ⟨gl2, 0, none⟩) 1 1, .int .i64 a0_0] ?_
  refine (slices_Repeat_int_int.calls _ _ [-1] a0_0 _ _ LB8 (Nat.le_refl 1) hfB.out).mono ?_
  rintro e u9 ⟨v, rfl, ho, hb⟩
  obtain ⟨AB, cB, rfl⟩ := Kd.R_slice ho
  refine ⟨_, rfl, ?_⟩
  have RB9 := Kd.R_lower ho (below_size HB8)
  have NE9 : ∀ k, (Value.slice AA tA.length cA).ownBlock = some k → (Value.slice AB tB.length cB).ownBlock ≠ some k := fun k hk he => (by have h1 := Kd.R_lt RA8 k hk; have h2 := Kd.R_base ho k he; omega)
  have HB9 := below_step HB8 hb
  have B9 := blk_below B8 hb
  have C9 := blk_below C8 hb
  have RA9 := Kd.R_below RA8 hb
  clear ho hb
  refine hK.out _ _ ((blk_cell B9 0).trans rfl) (fun hHeld => ?_); clear hK K
  refine no_ 10 ?_
  refine pu_ 8 11 HT_ ?_
  refine la_ 9 none HT_ (fun K hK => ?_)
  have k0 : u9.cell? ⟨g8, 0, none⟩ = some (.slice none 0 0) := (blk_cell C9 0).trans rfl
  have k1 : u9.cell? ⟨g8, 1, none⟩ = some (.slice none 0 0) := (blk_cell C9 1).trans rfl
  have m0 := blk_frozen C9 0
  have m1 := blk_frozen C9 1
  refine skip_ (w1 := ?_) (by rfl) rfl ?_ ?_; rotate_left; (go_simp)
  rfl
  refine hK.out _ _ ?_; clear hK K
  refine done_ (done_of HT_.out (by kernel_rfl)) ?_
  have HBx := below_set (j := 1) (v := .slice AB tB.length cB) (below_set (j := 0) (v := .slice AA tA.length cA) HB9 z8) z8
  have C9a := blk_put (cs' := #[.slice AA tA.length cA, .slice none 0 0]) C9 0 (.slice AA tA.length cA) rfl
  have Cx := blk_put (cs' := #[.slice AA tA.length cA, .slice AB tB.length cB]) C9a 1 (.slice AB tB.length cB) rfl
  have RAx := Kd.R_set (Kd.R_set RA9 C9 (by decide) 0 (.slice AA tA.length cA)) C9a (by decide) 1 (.slice AB tB.length cB)
  have RBx := Kd.R_set (Kd.R_set RB9 C9 (by decide) 0 (.slice AA tA.length cA)) C9a (by decide) 1 (.slice AB tB.length cB)
  try go_wp2
  refine bodyPost_ret (results_cell_row rfl _ _ g8 61 #[.slice AA tA.length cA, .slice AB tB.length cB] (0, 0) _ rfl Cx Try.underlying61 rfl (by kernel_rfl)) rfl ?_
  exact ⟨_, _, rfl, None.reok RAx (fun k hk he => NE9 k hk he.symm), None.reok RBx (fun k hk he => NE9 k he.symm hk), HBx⟩
end Go.Proofs.Ytpmlbbglekaidaa.PAll
