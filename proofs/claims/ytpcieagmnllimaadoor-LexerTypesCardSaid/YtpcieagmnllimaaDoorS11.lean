import Derived.Test.YtpcieagmnllimaaDoorS8
set_option linter.all false
namespace Go.Proofs.YtpcieagmnllimaaDoor
open Go Go.RowKit Go.Vm
/-! #### types -/
theorem pTypes (s : List UInt8) (hs : s.length ≤ 281474976710656) (w : Int) (sg : Bool) : ∃ k, evF T k 9 [.str s, .agg [.int .i64 w, .bool sg]] [] = some ([.bool true], []) := by
  refine ⟨4000 + 1, ?_⟩
  have e20 : ∀ s : List UInt8, s.length ≤ 281474976710656 → evF T 4000 20 [.str s] [] = some ([.agg [.int .i64 ((typF s).1 : Nat), .bool (typF s).2], .bool (decide (0 < (typF s).1))], []) := fun s h => eType 3998 s h
  have e21 : evF T 4000 21 [.str s] [] = some ([.agg [.int .i64 ((typF s).1 : Nat), .bool (typF s).2]], []) := eRType 4000 s (by omega)
  rw [f9_eq, eAw _ (by omega), Option.bind_some, res11_eq, if_neg (by decide), e20 s hs, Option.bind_some, res20_eq, e21, Option.bind_some, res21_eq, if_neg (fun h => h ⟨rfl, rfl, trivial⟩)]
  have hd : (decide (0 < (typF s).1) != decide ((((typF s).1 : Nat) : Int) > 0)) = false := by
    rw [show decide ((((typF s).1 : Nat) : Int) > 0) = decide (0 < (typF s).1) from decide_eq_decide.mpr (by omega)]
    simp
  rw [hd, if_neg (by simp), eKW 4000 s hs (by omega), Option.bind_some, res22_eq, eRKW 4000 s (by omega), Option.bind_some, res19_eq, if_neg (by simp)]
  by_cases hw : w < 1 ∨ 64 < w
  · rw [eName0 3999 w sg hw, Option.bind_some, res23_eq, eRName0 3999 w sg hw, Option.bind_some, res24_eq, if_neg (fun h => h rfl)]
    by_cases h1 : w < 1
    · rw [if_pos h1]
    · rw [if_neg h1, if_pos (by omega)]
  · obtain ⟨n, rfl⟩ : ∃ n : Nat, w = n := ⟨w.toNat, by omega⟩
    have h1 : 1 ≤ n := by omega
    have h2 : n ≤ 64 := by omega
    have e23 : evF T 4000 23 [.agg [.int .i64 n, .bool sg]] [] = some ([.str (tnF n sg)], []) := eName 3998 n sg h1 h2
    have hl : (tnF n sg).length ≤ 10 := by
      have h2 : (dec2 n).length ≤ 2 := by unfold dec2; split <;> simp
      unfold tnF; rw [List.length_cons]; omega
    rw [e23, Option.bind_some, res23_eq, eRName 4000 n sg h1 h2 (by omega), Option.bind_some, res24_eq, if_neg (fun h => h rfl), if_neg (by omega), if_neg (by omega), Option.bind_some, res23_eq, e20 (tnF n sg) (by omega), Option.bind_some, res20_eq, typF_name n sg h1 h2, if_pos (decide_eq_true (show 0 < n by omega)), if_pos ⟨rfl, rfl, trivial⟩, Option.bind_some, res23_eq, eKW 4000 _ (by omega) (by omega), Option.bind_some, res22_eq]
    have : KWF (tnF n sg) = true := by unfold KWF; rw [typF_name n sg h1 h2, decide_eq_true (show 0 < n by omega)]; rfl
    rw [this]

end Go.Proofs.YtpcieagmnllimaaDoor
