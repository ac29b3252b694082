-- Written for this claim by programs of this session (wip/print2 in its repo: a changed printer, a shortener, a packer). Lean checks it.
import Derived.Test.YtpmlbbglekaidaaP0
import Derived.Test.YtpmlbbglekaidaaF48
namespace Go.Proofs.Ytpmlbbglekaidaa.PAll
open Go.RowKit Go.Proofs.YtpmlbbglekaidaaW.PrintWords Go.Proofs.YtpmlbbglekaidaaW.PrintLast Go.Proofs.YtpmlbbglekaidaaW.PrintMore
attribute [local go_sem] max2_int min2_int max_two min_two max_three min_three max_four min_four   -- for this text's walks alone
set_option linter.unusedVariables false
set_option linter.unusedSimpArgs false

/-! ### refute_state_with: function 37 -/
def withR1.T1 : Bool × List (List Nat × List Nat) := (true, [([], []), ([0], [0]), ([1], [1]), ([], []), ([3], [3]), ([4, 2], [4]), ([2, 5], [2, 5]), ([], []), ([7, 6, 5, 0, 1, 2, 3, 4, 5, 6, 7], [6, 7])])
def withR1.B1 : List Nat := [0, 1, 3, 0, 8, 31, 63, 0, 255]
theorem withR1.tab1 : rtab .any (opsOf Try.f37 1) = withR1.T1 := by kernel_rfl
theorem withR1.bits1 : waitsOk withR1.T1.2 withR1.B1 = true := by kernel_rfl
def withR2.T2 : Bool × List (List Nat × List Nat) := (true, [([], []), ([0], [0]), ([], []), ([], []), ([3], [3]), ([], []), ([], []), ([], []), ([1, 2, 0, 1, 2, 6], [1, 2]), ([8, 6, 0, 1, 2, 6], [6, 8]), ([4, 5, 0, 1, 2, 3, 4, 5, 6, 7, 8, 9], [4, 5]), ([10, 7, 9, 0, 1, 2, 3, 4, 5, 6, 7, 8, 9], [7, 10])])
def withR2.B2 : List Nat := [0, 1, 0, 0, 8, 0, 0, 0, 71, 327, 1023, 2047]
theorem withR2.tab2 : rtab .any (opsOf Try.f37 2) = withR2.T2 := by kernel_rfl
theorem withR2.bits2 : waitsOk withR2.T2.2 withR2.B2 = true := by kernel_rfl
-- (refute.state).with, by hand
def refute_state_with.f (l0_0 l0_1 : List Int) (a1 a2 a3 : Int) : Option (List Int × List Int) :=
  if l0_0.length ≤ 1000000 ∧ l0_1.length ≤ 1000000 ∧ 0 ≤ a1 ∧ a1 < (l0_0.length : Int) ∧ a1 < (l0_1.length : Int) then some (l0_0.set a1.toNat a2, l0_1.set a1.toNat a3) else none
theorem With.reok {e : Nat} {w : World} {B : Nat} {ok ok' : Nat → Prop} {v : Value} {xs : List Int} (h : Kd.R (Kd.int .i64) e w B ok v xs) (ho : ∀ k, v.ownBlock = some k → ok' k) : Kd.R (Kd.int .i64) e w B ok' v xs := ⟨ho, h.2.imp_ (fun _ _ hp => hp)⟩
theorem With.head {e : Nat} {w : World} {B : Nat} {ok : Nat → Prop} {A : Option Addr} {n c : Nat} {xs : List Int} (h : Kd.R (Kd.int .i64) e w B ok (.slice A n c) xs) (hn : 0 < xs.length) : ∃ g, A = some ⟨g, 0, none⟩ := by
  obtain ⟨A', c', he, hl, hC⟩ := Kd.R_reads h
  obtain ⟨ad, rfl, _⟩ := hC.2.2 hn
  injection he with h1 h2 h3
  subst h1
  obtain ⟨g, rfl⟩ := Kd.R_head h
  exact ⟨g, rfl⟩
set_option maxHeartbeats 8000000 in
set_option maxRecDepth 100000 in
theorem refute_state_with.calls (A0_0 : Option Addr) (c0_0 : Nat) (l0_0 : List Int) (A0_1 : Option Addr) (c0_1 : Nat) (l0_1 : List Int) (a1 a2 a3 : Int) (r1 r2 : List Int) (w : World) (hr0_0 : Kd.C (Kd.int .i64) w A0_0 l0_0.length l0_0) (hc0_0 : l0_0.length ≤ c0_0) (hr0_1 : Kd.C (Kd.int .i64) w A0_1 l0_1.length l0_1) (hc0_1 : l0_1.length ≤ c0_1) (h : refute_state_with.f l0_0 l0_1 a1 a2 a3 = some (r1, r2)) :
    Calls Try.prog 37 #[.agg #[.slice A0_0 l0_0.length c0_0, .slice A0_1 l0_1.length c0_1], .int .i64 a1, .int .i64 a2, .int .i64 a3] w fun e w' => ∃ v0_ v1_ : Value, e = .returned (.agg #[v0_, v1_]) ∧ Kd.R (Kd.int .i64) 3 w' w.heap.size (fun k_ => some k_ ≠ (v1_ : Value).ownBlock) v0_ r1 ∧ Kd.R (Kd.int .i64) 3 w' w.heap.size (fun k_ => some k_ ≠ (v0_ : Value).ownBlock) v1_ r2 ∧ Below w.heap.size w w' := by
  have H : (if l0_0.length ≤ 1000000 ∧ l0_1.length ≤ 1000000 ∧ 0 ≤ a1 ∧ a1 < (l0_0.length : Int) ∧ a1 < (l0_1.length : Int) then some (l0_0.set a1.toNat a2, l0_1.set a1.toNat a3) else none) = some (r1, r2) := h
  clear h
  by_cases hg : l0_0.length ≤ 1000000 ∧ l0_1.length ≤ 1000000 ∧ 0 ≤ a1 ∧ a1 < (l0_0.length : Int) ∧ a1 < (l0_1.length : Int)
  case neg => rw [if_neg hg] at H; exact absurd H (by simp)
  rw [if_pos hg] at H
  simp only [Option.some.injEq, Prod.mk.injEq] at H
  obtain ⟨rfl, rfl⟩ := H
  obtain ⟨hl0, hl1, i0, i1, i2⟩ := hg
  have hf0_0 : slices_Clone_int_int.f l0_0 = some l0_0 := if_pos hl0
  have hf0_1 : slices_Clone_int_int.f l0_1 = some l0_1 := if_pos hl1
  have hu := Try.underlying61
  replace hf0_0 := Aside0.mk hf0_0
  replace hf0_1 := Aside0.mk hf0_1
  replace hr0_0 := Aside0.mk hr0_0
  replace hr0_1 := Aside0.mk hr0_1
  replace hc0_0 := Aside0.mk hc0_0
  replace hc0_1 := Aside0.mk hc0_1
  replace i0 := Aside0.mk i0
  replace i1 := Aside0.mk i1
  replace i2 := Aside0.mk i2
  clear hl0 hl1
  go_enter Try.func37, Try.ntmps37
  try go_wp2_with (first | ((with_reducible refine gate_dst (N := 4) rfl ?_); refine box_event ?hg (N := 4) ?hd (cs := #[.slice A0_0 l0_0.length c0_0, .slice A0_1 l0_1.length c0_1]) (t := 61) ?hr ?_; (case hd => rfl); (case hg => rfl); (case hr => first | (go_simp; done) | (go_simp; rfl)); intro gb hgb w4 BK4 hb4; replace hgb := Aside0.mk hgb; replace BK4 := Aside0.mk BK4; replace hb4 := Aside0.mk hb4) | ((with_reducible refine gate_dst (N := 8) rfl ?_); refine box_event ?hg (N := 8) ?hd (cs := #[.slice none 0 0, .slice none 0 0]) (t := 61) ?hr ?_; (case hd => rfl); (case hg => rfl); (case hr => first | (go_simp; done) | (go_simp; rfl)); intro g8 hg8 w5 BK8 hb8; replace hg8 := Aside0.mk hg8; replace BK8 := Aside0.mk BK8; replace hb8 := Aside0.mk hb8))
  have HB0 : Below w.heap.size w w5.drew := below_drew1 (below_step hb4.out hb8.out)
  have B0 : w5.drew.heap[gb]? = some (.cells #[.slice A0_0 l0_0.length c0_0, .slice A0_1 l0_1.length c0_1] 61 (0, 0)) := blk_drew (blk_below BK4.out hb8.out)
  have C0 : w5.drew.heap[g8]? = some (.cells #[.slice none 0 0, .slice none 0 0] 61 (0, 0)) := blk_drew BK8.out
  have z8 : w.heap.size ≤ g8 := by rw [hg8.out]; exact below_size hb4.out
  refine start_ (n := 9) (S := fun w' => w'.cell? ⟨gb, 0, none⟩ = some (.slice A0_0 l0_0.length c0_0) ∧ w'.cell? ⟨gb, 1, none⟩ = some (.slice A0_1 l0_1.length c0_1)) (ds := [8]) (bz 9 0) (by kernel_rfl) rfl rfl ⟨((blk_cell B0 0).trans rfl), ((blk_cell B0 1).trans rfl)⟩ (fun hHeld => ?_)
  refine with_tabW withR1.tab1 withR1.bits1 (fun HT_ HW_ => ?_)
  generalize w5.drew = w6 at HB0 B0 C0 hHeld ⊢
  refine pu_ 0 10 HT_ ?_
  refine pu_ 3 13 HT_ ?_
  refine tk_ 1 11 HT_ HW_ hHeld ?_ (hy := by rintro w' ⟨s0, s1⟩; go_simp; with_reducible rfl)
  refine tk_ 4 14 HT_ HW_ hHeld ?_ (hy := by rintro w' ⟨s0, s1⟩; go_simp; with_reducible rfl)
  refine join_ (σ := (Option Addr × Nat) × (Option Addr × Nat) × Nat) 1 (bz 9 255) (fun q => [(12, .slice q.1.1 l0_0.length q.1.2), (15, .slice q.2.1.1 l0_1.length q.2.1.2), (16, .agg #[.slice q.1.1 l0_0.length q.1.2, .slice q.2.1.1 l0_1.length q.2.1.2]), (9, .pointer (some ⟨q.2.2, 0, none⟩))]) (fun q w' => Below w.heap.size w w' ∧ w'.heap[gb]? = some (.cells #[.slice A0_0 l0_0.length c0_0, .slice A0_1 l0_1.length c0_1] 61 (0, 0)) ∧ w'.heap[g8]? = some (.cells #[.slice none 0 0, .slice none 0 0] 61 (0, 0)) ∧ w'.heap[q.2.2]? = some (.cells #[.slice none 0 0, .slice none 0 0] 61 (0, 0)) ∧ w.heap.size ≤ q.2.2 ∧ g8 ≠ q.2.2 ∧ Kd.R (Kd.int .i64) 3 w' w.heap.size (fun _ => True) (.slice q.1.1 l0_0.length q.1.2) l0_0 ∧ Kd.R (Kd.int .i64) 3 w' w.heap.size (fun _ => True) (.slice q.2.1.1 l0_1.length q.2.1.2) l0_1 ∧ (∀ k, (Value.slice q.1.1 l0_0.length q.1.2).ownBlock = some k → (Value.slice q.2.1.1 l0_1.length q.2.1.2).ownBlock ≠ some k)) ?_ ?_; rotate_left; (intro hCont; refine two_ (i := 2) (j := 7) (Ni := some 12) (Nj := some 9) (bz 9 31) (bz 9 155) rfl rfl rfl rfl (two_of HT_.out (by kernel_rfl)) (by decide) (by decide) (fun K hK => ?_) (fun K hK => ?_)); (skip; refine gs_ Try.func48 #[.slice A0_0 l0_0.length c0_0] ?_; refine (slices_Clone_int_int.calls _ _ l0_0 l0_0 _ (Kd.C_below hr0_0.out HB0) hc0_0.out hf0_0.out).mono ?_; rintro e u1 ⟨v, rfl, ho, hb⟩; obtain ⟨AA, cA, rfl⟩ := Kd.R_slice ho; refine ⟨_, rfl, ?_⟩; have RA1 := Kd.R_lower ho (below_size HB0); have HB1 := below_step HB0 hb; have B1 := blk_below B0 hb; have C1 := blk_below C0 hb; clear ho hb; refine hK.out _ _ ⟨(blk_cell B1 0).trans rfl, (blk_cell B1 1).trans rfl⟩ (fun hHeld => ?_); clear hK K; refine norm_ (a' := ?_) ?_ ?_; rotate_left); (show Act.put _ (some 12) _ = _; simp only [Act.put, List.setIfInBounds_toArray, List.set_cons_zero, List.set_cons_succ, i64_w, i32_w]; rfl; refine two_ (i := 5) (j := 7) (Ni := some 15) (Nj := some 9) (bz 9 63) (bz 9 159) rfl rfl rfl rfl (two_of HT_.out (by kernel_rfl)) (by decide) (by decide) (fun K hK => ?_) (fun K hK => ?_)); (skip; refine gs_ Try.func48 #[.slice A0_1 l0_1.length c0_1] ?_; refine (slices_Clone_int_int.calls _ _ l0_1 l0_1 _ (Kd.C_below hr0_1.out HB1) hc0_1.out hf0_1.out).mono ?_; rintro e u2 ⟨v, rfl, ho, hb⟩; obtain ⟨AB, cB, rfl⟩ := Kd.R_slice ho; refine ⟨_, rfl, ?_⟩; have RB2 := Kd.R_lower ho (below_size HB1); have NE : ∀ k, (Value.slice AA l0_0.length cA).ownBlock = some k → (Value.slice AB l0_1.length cB).ownBlock ≠ some k := fun k hk he => (by have h1 := Kd.R_lt RA1 k hk; have h2 := Kd.R_base ho k he; omega); have HB2 := below_step HB1 hb; have B2 := blk_below B1 hb; have C2 := blk_below C1 hb; have RA2 := Kd.R_below RA1 hb; clear ho hb; refine hK.out _ _ ⟨(blk_cell B2 0).trans rfl, (blk_cell B2 1).trans rfl⟩ (fun hHeld => ?_); clear hK K; refine norm_ (a' := ?_) ?_ ?_; rotate_left); (show Act.put _ (some 15) _ = _; simp only [Act.put, List.setIfInBounds_toArray, List.set_cons_zero, List.set_cons_succ, i64_w, i32_w]; rfl; refine pure_ (i := 6) (N := some 16) (v := ?_) (a' := ?_) (bz 9 127) rfl rfl (any_of HT_.out (by kernel_rfl)) (fun _ _ _ h => h) (Or.inl ⟨by rfl, ?_⟩) ?_ ?_; rotate_left); (intro w'; go_simp; with_reducible rfl; rotate_left); (simp only [Act.put, List.setIfInBounds_toArray, List.set_cons_zero, List.set_cons_succ, i64_w, i32_w]; rfl; refine on_ 7 (some 9) HT_ (fun K hK => ?_); refine value_ (w1 := ?_) (v := ?_) (by rfl) rfl ?_ ?_; rotate_left 2); (go_simp; constructor); (rfl); (rfl; generalize hq : World.alloc _ _ = u3; have hb : Below u2.heap.size u2 u3 := (by rw [← hq]; exact below_alloc (Below.refl _ _) _); have Z3 : u3.heap[u2.heap.size]? = some (.cells #[.slice none 0 0, .slice none 0 0] 61 (0, 0)) := (by rw [← hq]; exact blk_new _ _); have gz : w.heap.size ≤ u2.heap.size := below_size HB2; have n8 : g8 ≠ u2.heap.size := Nat.ne_of_lt (blk_lt C2); have HB3 := below_step HB2 hb; have B3 := blk_below B2 hb; have C3 := blk_below C2 hb; have RA3 := Kd.R_below RA2 hb; have RB3 := Kd.R_below RB2 hb; clear hq hb; refine hK.out _ _ ⟨(blk_cell B3 0).trans rfl, (blk_cell B3 1).trans rfl⟩ (fun hHeld => ?_); clear hK K; refine norm_ (a' := ?_) ?_ ?_; rotate_left); (show Act.put _ (some 9) _ = _; simp only [Act.put, List.setIfInBounds_toArray, List.set_cons_zero, List.set_cons_succ, i64_w, i32_w]; rfl; exact norm_ (by simp only [putAll, Act.put, List.setIfInBounds_toArray, List.set_cons_zero, List.set_cons_succ]) (hCont ((AA, cA), (AB, cB), u2.heap.size) _ ⟨HB3, B3, C3, Z3, gz, n8, RA3, RB3, NE⟩)); (skip; refine value_ (w1 := ?_) (v := ?_) (by rfl) rfl ?_ ?_; rotate_left 2); (go_simp; constructor); (rfl); (rfl; generalize hq : World.alloc _ _ = u2; have hb : Below u1.heap.size u1 u2 := (by rw [← hq]; exact below_alloc (Below.refl _ _) _); have Z2 : u2.heap[u1.heap.size]? = some (.cells #[.slice none 0 0, .slice none 0 0] 61 (0, 0)) := (by rw [← hq]; exact blk_new _ _); have gz : w.heap.size ≤ u1.heap.size := below_size HB1; have n8 : g8 ≠ u1.heap.size := Nat.ne_of_lt (blk_lt C1); have HB2 := below_step HB1 hb; have B2 := blk_below B1 hb; have C2 := blk_below C1 hb; have RA2 := Kd.R_below RA1 hb; clear hq hb; refine hK.out _ _ ⟨(blk_cell B2 0).trans rfl, (blk_cell B2 1).trans rfl⟩ (fun hHeld => ?_); clear hK K; refine norm_ (a' := ?_) ?_ ?_; rotate_left); (show Act.put _ (some 9) _ = _; simp only [Act.put, List.setIfInBounds_toArray, List.set_cons_zero, List.set_cons_succ, i64_w, i32_w]; rfl; refine on_ 5 (some 15) HT_ (fun K hK => ?_); refine gs_ Try.func48 #[.slice A0_1 l0_1.length c0_1] ?_; refine (slices_Clone_int_int.calls _ _ l0_1 l0_1 _ (Kd.C_below hr0_1.out HB2) hc0_1.out hf0_1.out).mono ?_; rintro e u3 ⟨v, rfl, ho, hb⟩; obtain ⟨AB, cB, rfl⟩ := Kd.R_slice ho; refine ⟨_, rfl, ?_⟩; have RB3 := Kd.R_lower ho (below_size HB2); have NE : ∀ k, (Value.slice AA l0_0.length cA).ownBlock = some k → (Value.slice AB l0_1.length cB).ownBlock ≠ some k := fun k hk he => (by have h1 := Kd.R_lt RA2 k hk; have h2 := Kd.R_base ho k he; omega); have HB3 := below_step HB2 hb; have B3 := blk_below B2 hb; have C3 := blk_below C2 hb; have Z3 := blk_below Z2 hb; have RA3 := Kd.R_below RA2 hb; clear ho hb; refine hK.out _ _ ⟨(blk_cell B3 0).trans rfl, (blk_cell B3 1).trans rfl⟩ (fun hHeld => ?_); clear hK K; refine norm_ (a' := ?_) ?_ ?_; rotate_left); (show Act.put _ (some 15) _ = _; simp only [Act.put, List.setIfInBounds_toArray, List.set_cons_zero, List.set_cons_succ, i64_w, i32_w]; rfl; refine pure_ (i := 6) (N := some 16) (v := ?_) (a' := ?_) (bz 9 255) rfl rfl (any_of HT_.out (by kernel_rfl)) (fun _ _ _ h => h) (Or.inl ⟨by rfl, ?_⟩) ?_ ?_; rotate_left); (intro w'; go_simp; with_reducible rfl; rotate_left); (simp only [Act.put, List.setIfInBounds_toArray, List.set_cons_zero, List.set_cons_succ, i64_w, i32_w]; rfl; exact norm_ (by simp only [putAll, Act.put, List.setIfInBounds_toArray, List.set_cons_zero, List.set_cons_succ]) (hCont ((AA, cA), (AB, cB), u1.heap.size) _ ⟨HB3, B3, C3, Z3, gz, n8, RA3, RB3, NE⟩)); (skip; refine value_ (w1 := ?_) (v := ?_) (by rfl) rfl ?_ ?_; rotate_left 2); (go_simp; constructor); (rfl); (rfl; generalize hq : World.alloc _ _ = u1; have hb : Below w6.heap.size w6 u1 := (by rw [← hq]; exact below_alloc (Below.refl _ _) _); have Z1 : u1.heap[w6.heap.size]? = some (.cells #[.slice none 0 0, .slice none 0 0] 61 (0, 0)) := (by rw [← hq]; exact blk_new _ _); have gz : w.heap.size ≤ w6.heap.size := below_size HB0; have n8 : g8 ≠ w6.heap.size := Nat.ne_of_lt (blk_lt C0); have HB1 := below_step HB0 hb; have B1 := blk_below B0 hb; have C1 := blk_below C0 hb; clear hq hb; refine hK.out _ _ ⟨(blk_cell B1 0).trans rfl, (blk_cell B1 1).trans rfl⟩ (fun hHeld => ?_); clear hK K; refine norm_ (a' := ?_) ?_ ?_; rotate_left); (show Act.put _ (some 9) _ = _; simp only [Act.put, List.setIfInBounds_toArray, List.set_cons_zero, List.set_cons_succ, i64_w, i32_w]; rfl; refine on_ 2 (some 12) HT_ (fun K hK => ?_); refine gs_ Try.func48 #[.slice A0_0 l0_0.length c0_0] ?_; refine (slices_Clone_int_int.calls _ _ l0_0 l0_0 _ (Kd.C_below hr0_0.out HB1) hc0_0.out hf0_0.out).mono ?_; rintro e u2 ⟨v, rfl, ho, hb⟩; obtain ⟨AA, cA, rfl⟩ := Kd.R_slice ho; refine ⟨_, rfl, ?_⟩; have RA2 := Kd.R_lower ho (below_size HB1); have HB2 := below_step HB1 hb; have B2 := blk_below B1 hb; have C2 := blk_below C1 hb; have Z2 := blk_below Z1 hb; clear ho hb; refine hK.out _ _ ⟨(blk_cell B2 0).trans rfl, (blk_cell B2 1).trans rfl⟩ (fun hHeld => ?_); clear hK K; refine norm_ (a' := ?_) ?_ ?_; rotate_left); (show Act.put _ (some 12) _ = _; simp only [Act.put, List.setIfInBounds_toArray, List.set_cons_zero, List.set_cons_succ, i64_w, i32_w]; rfl; refine on_ 5 (some 15) HT_ (fun K hK => ?_); refine gs_ Try.func48 #[.slice A0_1 l0_1.length c0_1] ?_; refine (slices_Clone_int_int.calls _ _ l0_1 l0_1 _ (Kd.C_below hr0_1.out HB2) hc0_1.out hf0_1.out).mono ?_; rintro e u3 ⟨v, rfl, ho, hb⟩; obtain ⟨AB, cB, rfl⟩ := Kd.R_slice ho; refine ⟨_, rfl, ?_⟩; have RB3 := Kd.R_lower ho (below_size HB2); have NE : ∀ k, (Value.slice AA l0_0.length cA).ownBlock = some k → (Value.slice AB l0_1.length cB).ownBlock ≠ some k := fun k hk he => (by have h1 := Kd.R_lt RA2 k hk; have h2 := Kd.R_base ho k he; omega); have HB3 := below_step HB2 hb; have B3 := blk_below B2 hb; have C3 := blk_below C2 hb; have Z3 := blk_below Z2 hb; have RA3 := Kd.R_below RA2 hb; clear ho hb; refine hK.out _ _ ⟨(blk_cell B3 0).trans rfl, (blk_cell B3 1).trans rfl⟩ (fun hHeld => ?_); clear hK K; refine norm_ (a' := ?_) ?_ ?_; rotate_left); (show Act.put _ (some 15) _ = _; simp only [Act.put, List.setIfInBounds_toArray, List.set_cons_zero, List.set_cons_succ, i64_w, i32_w]; rfl; refine pure_ (i := 6) (N := some 16) (v := ?_) (a' := ?_) (bz 9 255) rfl rfl (any_of HT_.out (by kernel_rfl)) (fun _ _ _ h => h) (Or.inl ⟨by rfl, ?_⟩) ?_ ?_; rotate_left); (intro w'; go_simp; with_reducible rfl; rotate_left); (simp only [Act.put, List.setIfInBounds_toArray, List.set_cons_zero, List.set_cons_succ, i64_w, i32_w]; rfl; exact norm_ (by simp only [putAll, Act.put, List.setIfInBounds_toArray, List.set_cons_zero, List.set_cons_succ]) (hCont ((AA, cA), (AB, cB), w6.heap.size) _ ⟨HB3, B3, C3, Z3, gz, n8, RA3, RB3, NE⟩))
  rintro ⟨⟨AA, cA⟩, ⟨AB, cB⟩, g9⟩ u9 ⟨HB9, B9, C9, Z9, hz9, n89, RA9, RB9, NE9⟩
  have hHeld : u9.cell? ⟨gb, 0, none⟩ = some (.slice A0_0 l0_0.length c0_0) ∧ u9.cell? ⟨gb, 1, none⟩ = some (.slice A0_1 l0_1.length c0_1) := ⟨(blk_cell B9 0).trans rfl, (blk_cell B9 1).trans rfl⟩
  refine norm_ (a' := ?_) ?_ ?_; rotate_left; (simp only [putAll, Act.put, List.setIfInBounds_toArray, List.set_cons_zero, List.set_cons_succ]; rfl)
  refine la_ 8 none HT_ (fun K hK => ?_)
  have k0 : u9.cell? ⟨g9, 0, none⟩ = some (.slice none 0 0) := (blk_cell Z9 0).trans rfl
  have k1 : u9.cell? ⟨g9, 1, none⟩ = some (.slice none 0 0) := (blk_cell Z9 1).trans rfl
  have m0 := blk_frozen Z9 0
  have m1 := blk_frozen Z9 1
  refine skip_ (w1 := ?_) (by rfl) rfl ?_ ?_; rotate_left; (go_simp)
  rfl
  refine hK.out _ _ ?_; clear hK K
  refine done_ (done_of HT_.out (by kernel_rfl)) ?_
  have HBx := below_set (j := 1) (v := .slice AB l0_1.length cB) (below_set (j := 0) (v := .slice AA l0_0.length cA) HB9 hz9) hz9
  have Cx := blk_far (blk_far C9 (p := ⟨g9, 0, none⟩) n89 (.slice AA l0_0.length cA)) (p := ⟨g9, 1, none⟩) n89 (.slice AB l0_1.length cB)
  have Z9a := blk_put (cs' := #[.slice AA l0_0.length cA, .slice none 0 0]) Z9 0 (.slice AA l0_0.length cA) rfl
  have Zx := blk_put (cs' := #[.slice AA l0_0.length cA, .slice AB l0_1.length cB]) Z9a 1 (.slice AB l0_1.length cB) rfl
  have RAx := Kd.R_set (Kd.R_set RA9 Z9 (by decide) 0 (.slice AA l0_0.length cA)) Z9a (by decide) 1 (.slice AB l0_1.length cB)
  have RBx := Kd.R_set (Kd.R_set RB9 Z9 (by decide) 0 (.slice AA l0_0.length cA)) Z9a (by decide) 1 (.slice AB l0_1.length cB)
  clear HB9 C9 Z9 Z9a RA9 RB9 B9 hHeld k0 k1 m0 m1 hb4 hb8 BK4 BK8 hgb hg8
  generalize World.setCell _ _ _ = w10 at HBx Cx Zx RAx RBx ⊢
  obtain ⟨gA, rfl⟩ := With.head RAx (by have := i0.out; have := i1.out; omega)
  obtain ⟨gB, rfl⟩ := With.head RBx (by have := i0.out; have := i2.out; omega)
  have nAB : gA ≠ gB := fun e => NE9 gA rfl (by simp [Value.ownBlock, e])
  have nA9 : g9 ≠ gA := fun e => Kd.R_ne RAx Zx (by decide) (by simp [Value.ownBlock, e])
  have nB9 : g9 ≠ gB := fun e => Kd.R_ne RBx Zx (by decide) (by simp [Value.ownBlock, e])
  have nA8 : g8 ≠ gA := fun e => Kd.R_ne RAx Cx (by decide) (by simp [Value.ownBlock, e])
  have nB8 : g8 ≠ gB := fun e => Kd.R_ne RBx Cx (by decide) (by simp [Value.ownBlock, e])
  have hbA : w.heap.size ≤ gA := Kd.R_base RAx gA rfl
  have hbB : w.heap.size ≤ gB := Kd.R_base RBx gB rfl
  replace HBx := Aside0.mk HBx
  replace Cx := Aside0.mk Cx
  replace Zx := Aside0.mk Zx
  replace RAx := Aside0.mk (With.reok (ok' := fun k => k ≠ gB) RAx (fun k hk => by simp [Value.ownBlock] at hk; omega))
  replace RBx := Aside0.mk (With.reok (ok' := fun k => k ≠ gA) RBx (fun k hk => by simp [Value.ownBlock] at hk; omega))
  replace NE9 := Aside0.mk NE9
  replace nAB := Aside0.mk nAB
  go_upto_region 2 with (fail)
  have HB0 := below_drew1 HBx.out
  have C0 := blk_drew Cx.out
  have Z0 := blk_drew Zx.out
  have RA0 := Kd.R_drew RAx.out
  have RB0 := Kd.R_drew RBx.out
  clear HBx Cx Zx RAx RBx
  have p0 : (0 ≤ a1) = True := eq_true i0.out
  have q0 : (a1 < (l0_0.length : Int)) = True := eq_true i1.out
  have q1 : (a1 < (l0_1.length : Int)) = True := eq_true i2.out
  refine start_ (n := 12) (S := fun w' => w'.cell? ⟨g9, 0, none⟩ = some (.slice (some ⟨gA, 0, none⟩) l0_0.length cA) ∧ w'.cell? ⟨g9, 1, none⟩ = some (.slice (some ⟨gB, 0, none⟩) l0_1.length cB)) (ds := [11]) (bz 12 0) (by kernel_rfl) rfl rfl ⟨((blk_cell Z0 0).trans rfl), ((blk_cell Z0 1).trans rfl)⟩ (fun hHeld => ?_)
  refine with_tabW withR2.tab2 withR2.bits2 (fun HT_ HW_ => ?_)
  generalize World.drew _ = w11 at HB0 C0 Z0 RA0 RB0 hHeld ⊢
  refine pu_ 0 17 HT_ ?_
  refine pu_ 2 19 HT_ ?_
  refine pu_ 3 20 HT_ ?_
  refine pu_ 5 22 HT_ ?_
  refine pu_ 6 23 HT_ ?_
  refine pu_ 7 24 HT_ ?_
  refine tk_ 1 18 HT_ HW_ hHeld ?_ (hy := by rintro w' ⟨s0, s1⟩; go_simp; with_reducible rfl)
  refine pu_ 8 25 HT_ ?_
  refine tk_ 4 21 HT_ HW_ hHeld ?_ (hy := by rintro w' ⟨s0, s1⟩; go_simp; with_reducible rfl)
  refine on_ 9 none HT_ (fun K hK => ?_)
  obtain ⟨cA0, fA0⟩ := Kd.R_cell (0 : Int) RA0 a1 i0.out i1.out
  obtain ⟨cB0, fB0⟩ := Kd.R_cell (0 : Int) RB0 a1 i0.out i2.out
  refine skip_ (w1 := ?_) (by rfl) rfl ?_ ?_; rotate_left; (go_simp)
  rfl
  have Z1 := blk_far Z0 (p := ⟨gA, a1.toNat, none⟩) nA9 (.int .i64 a2)
  have C1 := blk_far C0 (p := ⟨gA, a1.toNat, none⟩) nA8 (.int .i64 a2)
  have HB1 := below_set (j := a1.toNat) (v := .int .i64 a2) HB0 hbA
  have RA1 := (Kd.R_put RA0 a1 a2).1
  have RB1 := Kd.R_far (p := ⟨gA, a1.toNat, none⟩) RB0 (fun k hk => hk) (.int .i64 a2)
  refine hK.out _ _ ⟨(blk_cell Z1 0).trans rfl, (blk_cell Z1 1).trans rfl⟩ (fun hHeld => ?_); clear hK K
  refine pu_ 10 26 HT_ ?_
  refine la_ 11 none HT_ (fun K hK => ?_)
  clear cB0 fB0 cA0 fA0
  obtain ⟨cB0, fB0⟩ := Kd.R_cell (0 : Int) RB1 a1 i0.out i2.out
  refine skip_ (w1 := ?_) (by rfl) rfl ?_ ?_; rotate_left; (go_simp)
  rfl
  have Z2 := blk_far Z1 (p := ⟨gB, a1.toNat, none⟩) nB9 (.int .i64 a3)
  have C2 := blk_far C1 (p := ⟨gB, a1.toNat, none⟩) nB8 (.int .i64 a3)
  have HB2 := below_set (j := a1.toNat) (v := .int .i64 a3) HB1 hbB
  have RB2 := (Kd.R_put RB1 a1 a3).1
  have RA2 := Kd.R_far (p := ⟨gB, a1.toNat, none⟩) RA1 (fun k hk => hk) (.int .i64 a3)
  refine hK.out _ _ ?_; clear hK K
  refine done_ (done_of HT_.out (by kernel_rfl)) ?_
  clear Z0 Z1 C0 C1 HB0 HB1 RA0 RA1 RB0 RB1 cB0 fB0 p0 q0 q1
  generalize World.setCell _ _ _ = w12 at HB2 C2 Z2 RA2 RB2 ⊢
  have k0 : w12.cell? ⟨g9, 0, none⟩ = some (.slice (some ⟨gA, 0, none⟩) l0_0.length cA) := (blk_cell Z2 0).trans rfl
  have k1 : w12.cell? ⟨g9, 1, none⟩ = some (.slice (some ⟨gB, 0, none⟩) l0_1.length cB) := (blk_cell Z2 1).trans rfl
  have m0 : w12.cell? ⟨g8, 0, none⟩ = some (.slice none 0 0) := (blk_cell C2 0).trans rfl
  have m1 : w12.cell? ⟨g8, 1, none⟩ = some (.slice none 0 0) := (blk_cell C2 1).trans rfl
  have f0 := blk_frozen C2 0
  have f1 := blk_frozen C2 1
  have C3 := blk_put (cs' := #[.slice (some ⟨gA, 0, none⟩) l0_0.length cA, .slice (some ⟨gB, 0, none⟩) l0_1.length cB]) (blk_put (cs' := #[.slice (some ⟨gA, 0, none⟩) l0_0.length cA, .slice none 0 0]) C2 0 (.slice (some ⟨gA, 0, none⟩) l0_0.length cA) rfl) 1 (.slice (some ⟨gB, 0, none⟩) l0_1.length cB) rfl
  have HB3 := below_set (j := 1) (v := .slice (some ⟨gB, 0, none⟩) l0_1.length cB) (below_set (j := 0) (v := .slice (some ⟨gA, 0, none⟩) l0_0.length cA) HB2 z8) z8
  have C2a := blk_put (cs' := #[.slice (some ⟨gA, 0, none⟩) l0_0.length cA, .slice none 0 0]) C2 0 (.slice (some ⟨gA, 0, none⟩) l0_0.length cA) rfl
  have RA3 := Kd.R_set (Kd.R_set RA2 C2 (by decide) 0 (.slice (some ⟨gA, 0, none⟩) l0_0.length cA)) C2a (by decide) 1 (.slice (some ⟨gB, 0, none⟩) l0_1.length cB)
  have RB3 := Kd.R_set (Kd.R_set RB2 C2 (by decide) 0 (.slice (some ⟨gA, 0, none⟩) l0_0.length cA)) C2a (by decide) 1 (.slice (some ⟨gB, 0, none⟩) l0_1.length cB)
  clear HB2 C2 Z2 RA2 RB2 C2a
  replace C3 := Aside0.mk C3
  replace HB3 := Aside0.mk HB3
  replace RA3 := Aside0.mk RA3
  replace RB3 := Aside0.mk RB3
  go_wp2
  refine bodyPost_ret (results_cell_row rfl _ _ g8 61 #[.slice (some ⟨gA, 0, none⟩) l0_0.length cA, .slice (some ⟨gB, 0, none⟩) l0_1.length cB] (0, 0) _ rfl C3.out Try.underlying61 rfl (by kernel_rfl)) rfl ?_
  have eA : (Value.slice (some ⟨gA, 0, none⟩) l0_0.length cA).ownBlock = some gA := rfl
  exact ⟨_, _, rfl, With.reok RA3.out (fun k hk he => NE9.out k hk he.symm), With.reok RB3.out (fun k hk he => NE9.out k he.symm hk), HB3.out⟩
end Go.Proofs.Ytpmlbbglekaidaa.PAll
