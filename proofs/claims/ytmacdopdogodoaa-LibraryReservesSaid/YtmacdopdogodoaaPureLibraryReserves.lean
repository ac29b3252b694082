/- The law LibraryReserves holds: sizes, levels and reserves are those of the reference, for any function and any number; no condition. -/
import Derived.Test.YtmacdopdogodoaaQLibraryReserves
import Derived.Test.YtmacdopdogodoaaPureC
namespace Go.Proofs.Ytmacdopdogodoaa.Pure
open Go.RowKit Go.Proofs.Ytmacdopdogodoaa.PAll Go.Proofs.YtmacdopdogodoaaW.PrintWords Go.Proofs.YtmacdopdogodoaaW.PrintLast
theorem pow_mono {a b : Nat} (h : a ≤ b) : (2 : Int) ^ a ≤ (2 : Int) ^ b := by
  have := Nat.pow_le_pow_right (show 0 < 2 by omega) h
  exact_mod_cast this
theorem ref_levels (n : Int) (L : Nat) (hL : L ≤ 40) (hh : Height n L) (d : Nat) : ∀ j : Nat, j + d = L → Ev (fun k => jacquardref27_Levels.l0 k n (j : Int) ((2 : Int) ^ j)) (L : Int) := by
  induction d with
  | zero =>
    intro j hj
    have e : j = L := by omega
    subst e
    refine Ev.step (f := fun _ => some (j : Int)) (fun k => ?_) (Ev.now _)
    simp only [jacquardref27_Levels.l0]
    have : ¬ (2 : Int) ^ j < n := by
      by_cases h : n < 1
      · have : (0 : Int) < (2 : Int) ^ j := Int.pow_pos (by omega)
        omega
      · have := (hh.2 (by omega)).1
        omega
    rw [if_neg this]
  | succ d ih =>
    intro j hj
    have hn : ¬ n < 1 := fun h => by
      have := hh.1 h
      omega
    have h2 : (2 : Int) ^ j < n := by
      rcases (hh.2 (by omega)).2 with h | h
      · omega
      · have := pow_mono (show j ≤ L - 1 by omega)
        omega
    have h3 := pow_mono (show j ≤ 40 by omega)
    have h4 : (0 : Int) < (2 : Int) ^ j := Int.pow_pos (by omega)
    refine Ev.step (fun k => ?_) (ih (j + 1) (by omega))
    simp only [jacquardref27_Levels.l0]
    have e1 : wrap64 ((j : Int) + 1) = ((j + 1 : Nat) : Int) := by
      rw [w64 (by omega) (by omega)]
      omega
    have e2 : wrap64 (2 * (2 : Int) ^ j) = (2 : Int) ^ (j + 1) := by
      rw [w64 (by omega) (by omega), Int.pow_succ]
      omega
    rw [if_pos h2, if_pos (by omega), e1, e2]
theorem levels_both (n : Int) (hn : n ≤ 1099511627776) : ∃ L : Int, Ev (fun k => library_Levels.f k n) L ∧ Ev (fun k => jacquardref27_Levels.f k n) L := by
  obtain ⟨L, _, hk, hh⟩ := prog_levels n (by omega)
  have hL : L ≤ 40 := by
    by_cases h : n < 1
    · have := hh.1 h
      omega
    · exact pow_small L n (hh.2 (by omega)).2 40 (by omega)
  refine ⟨L, Ev.step (f := fun _ => some (L : Int)) hk (Ev.now _), ?_⟩
  have h := ref_levels n L hL hh L 0 (by omega)
  exact Ev.congr (fun _ => rfl) h
theorem sizes (f0 : ByteArray) (f1 : List Int) (f2 : List S71) (f3 : List S73) (f4 : List Int) (xs : List S63) (hl : xs.length ≤ 50) (d : Nat) : ∀ (i m : Int), 0 ≤ i → i + d = xs.length →
    ∃ r, Ev (fun k => library_Size.l0 k m xs (xs.length : Int) i) r ∧ Ev (fun k => jacquardref27_Size.l0 k m i f0 f1 f2 f3 f4 xs) r := by
  induction d with
  | zero =>
    intro i m hi hd
    refine ⟨m, Ev.step (f := fun _ => some m) (fun k => ?_) (Ev.now _), Ev.step (f := fun _ => some m) (fun k => ?_) (Ev.now _)⟩
    · simp only [library_Size.l0]
      rw [if_neg (by omega)]
    · simp only [jacquardref27_Size.l0]
      rw [if_neg (by omega)]
  | succ d ih =>
    intro i m hi hd
    obtain ⟨r, h1, h2⟩ := ih (i + 1) (wrap64 (m + (wrap64 ((wrap64 ((wrap64 (1 + (((rd_T63 xs i).f0).length : Int))) + (((rd_T63 xs i).f1).length : Int))) + (((rd_T63 xs i).f2.f2).length : Int))))) (by omega) (by omega)
    refine ⟨r, Ev.step (fun k => ?_) h1, Ev.step (fun k => ?_) h2⟩
    · simp only [library_Size.l0]
      rw [if_pos (by omega), if_pos hi, if_pos (by omega), w64 (x := i + 1) (by omega) (by omega)]
    · simp only [jacquardref27_Size.l0]
      rw [if_pos (by omega), if_pos hi, w64 (x := i + 1) (by omega) (by omega)]
theorem LibraryReserves : jacquardlaw27_LibraryReserves.Pure := by
  intro x n hx hn
  refine Ev.rounds (g := fun k => jacquardlaw27_LibraryReserves.f k x.f0 x.f1 x.f2 x.f3 x.f4 x.f5 n) ?_
  refine Ev.bind awake_ok ?_
  simp only [if_true]
  by_cases h50 : (x.f5.length : Int) > 50
  · rw [decide_eq_true h50]
    refine Ev.step (f := fun k => (jacquardlaw27_awake.f k).bind fun t => some t) (fun k => ?_) (Ev.bind awake_ok (Ev.now _))
    simp only [jacquardlaw27_LibraryReserves.j0, if_true]
  · rw [decide_eq_false h50]
    have hm : mn n 1099511627776 ≤ 1099511627776 := by unfold mn; omega
    obtain ⟨L, hp, hr⟩ := levels_both (mn n 1099511627776) hm
    obtain ⟨s, hs1, hs2⟩ := sizes x.f0 x.f1 x.f2 x.f3 x.f4 x.f5 (by omega) x.f5.length 0 0 (by omega) (by omega)
    have h1 : Ev (fun k => library_Reserve.f k (mn n 1099511627776)) (30, wrap64 (300 + (wrap64 (20 * L))), wrap64 (320 + (wrap64 (40 * L)))) := Ev.bind hp (Ev.bind hp (Ev.now _))
    have h2 : Ev (fun k => jacquardref27_Reserve.f k (mn n 1099511627776)) (30, wrap64 (300 + (wrap64 (20 * L))), wrap64 (320 + (wrap64 (40 * L)))) := Ev.bind hr (Ev.bind hr (Ev.now _))
    have h3 : Ev (fun k => library_Size.f k x.f0 x.f1 x.f2 x.f3 x.f4 x.f5) s := Ev.congr (fun _ => rfl) hs1
    have h4 : Ev (fun k => jacquardref27_Size.f k x.f0 x.f1 x.f2 x.f3 x.f4 x.f5) s := Ev.congr (fun _ => rfl) hs2
    refine Ev.step (fun k => by simp only [jacquardlaw27_LibraryReserves.j0]; rw [if_neg Bool.false_ne_true]) (Ev.bind hp (Ev.bind hr ?_))
    simp only [if_true]
    refine Ev.bind h1 (Ev.bind h2 ?_)
    simp only [beq_self_eq_true, Bool.and_self, if_true]
    refine Ev.bind h3 (Ev.bind h4 ?_)
    rw [beq_self_eq_true]
    exact Ev.now _
end Go.Proofs.Ytmacdopdogodoaa.Pure
