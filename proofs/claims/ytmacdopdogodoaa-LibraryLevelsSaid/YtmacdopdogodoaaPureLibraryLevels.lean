/- The law LibraryLevels holds: Levels of any number from 1 to 2^40 is the least height of a tree with place for so many leaves; no condition. -/
import Derived.Test.YtmacdopdogodoaaPAllx5
import Derived.Test.YtmacdopdogodoaaPureC
namespace Go.Proofs.Ytmacdopdogodoaa.Pure
open Go.RowKit Go.Proofs.Ytmacdopdogodoaa.PAll Go.Proofs.YtmacdopdogodoaaW.PrintWords Go.Proofs.YtmacdopdogodoaaW.PrintLast
theorem shl1 : ∀ L : Fin 41, shl .i64 1 ((L.val : Nat) : Int) = (2 : Int) ^ L.val := by decide +kernel
theorem shl1' (L : Nat) (h : L ≤ 40) : shl .i64 1 (L : Int) = (2 : Int) ^ L := shl1 ⟨L, by omega⟩
theorem LibraryLevels : jacquardlaw27_LibraryLevels.Pure := by
  intro a ha
  have hb : 0 ≤ a := by
    simp [Lit.wf, IntKind.min, IntKind.max, IntKind.signed, IntKind.bits] at ha
    omega
  refine Ev.rounds (g := fun k => jacquardlaw27_LibraryLevels.f k a) ?_
  have hm : wrap64 (1 + wrap64 (Int.tmod a 1099511627776)) = 1 + a % 1099511627776 := by
    rw [Int.tmod_eq_emod_of_nonneg hb, w64 (x := a % 1099511627776) (by omega) (by omega), w64 (by omega) (by omega)]
  obtain ⟨L, hL, hk, hh⟩ := prog_levels (1 + a % 1099511627776) (by omega)
  obtain ⟨h1, h2⟩ := hh.2 (by omega)
  have hL40 : L ≤ 40 := pow_small L _ h2 40 (by omega)
  have e0 : ∀ k, library_Levels.f (k + 1) 0 = some 0 := fun k => by unfold library_Levels.f; rw [if_pos (by omega)]
  have e5 : ∀ k, library_Levels.f (k + 1) (-5) = some 0 := fun k => by unfold library_Levels.f; rw [if_pos (by omega)]
  refine Ev.bind awake_ok ?_
  simp only [if_true]
  refine Ev.step (f := fun _ => some true) (fun k => ?_) (Ev.now true)
  rw [hm, hk k]
  simp only [Option.bind_some]
  rw [if_pos (by omega), if_pos (by omega), if_pos (by omega), shl1' L hL40, if_pos h1, e0 k, e5 k]
  simp only [Option.bind_some]
  by_cases hz : (L : Int) = 0
  · rw [if_pos hz]
    rfl
  · have e1 : wrap64 ((L : Int) - 1) = ((L - 1 : Nat) : Int) := by
      rw [w64 (by omega) (by omega)]
      omega
    have h3 : (2 : Int) ^ (L - 1) < 1 + a % 1099511627776 := by
      rcases h2 with h2 | h2
      · omega
      · exact h2
    rw [if_neg hz, e1, if_pos (by omega), shl1' (L - 1) (by omega), if_pos h3]
    rfl
end Go.Proofs.Ytmacdopdogodoaa.Pure
