import Derived.Test.YtpcieagmnllimaaDoorS7
set_option linter.all false
namespace Go.Proofs.YtpcieagmnllimaaDoor
open Go Go.RowKit Go.Vm
/-! #### the laws -/
theorem awakeLex : LexF [(97 : UInt8), (60 : UInt8), (60 : UInt8)] = ([⟨1, [97], 0, 0, 1⟩, ⟨4, [60, 60], 0, 1, 1⟩], 3, 0) := by kernel_rfl
theorem eAw (k : Nat) (hk : 1310 ≤ k) : evF T k 11 [] [] = some ([.bool true], []) := by
  obtain ⟨k, rfl⟩ : ∃ k', k = k' + 1 := ⟨k - 1, by omega⟩
  rw [f11_eq, eLex _ k (by simp; omega), awakeLex]
  rfl
theorem lexA_bind {R : Type} (p : List S29 × Nat × Int) (K : List S29 → Int → Int → Option R) : ((lexA p).bind fun r => res12 r K) = K p.1 (p.2.1 : Nat) p.2.2 := rfl
theorem lexA_bind13 {R : Type} (p : List S29 × Nat × Int) (K : List S29 → Int → Int → Option R) : ((lexA p).bind fun r => res13 r K) = K p.1 (p.2.1 : Nat) p.2.2 := rfl
theorem l3_ok (k : Nat) (l : List S29) (hl : l.length < 4611686018427387904) : ∀ (n i m : Nat), l.length - i ≤ n → i ≤ l.length → n < m → l3_0 k m l l i = some ([.bool true], []) := by
  intro n
  induction n with
  | zero =>
    intro i m h1 h2 h3
    obtain ⟨m, rfl⟩ : ∃ m', m = m' + 1 := ⟨m - 1, by omega⟩
    rw [l3_0_eq, if_neg (by omega)]
  | succ n ih =>
    intro i m h1 h2 h3
    obtain ⟨m, rfl⟩ : ∃ m', m = m' + 1 := ⟨m - 1, by omega⟩
    rw [l3_0_eq]
    by_cases hi : i < l.length
    · rw [if_pos (by omega), if_pos (by omega), if_pos (by omega), if_pos (by omega), if_pos (by omega), if_neg (fun h => h ⟨rfl, rfl, rfl, rfl, rfl, trivial⟩), w64 (by omega) (by omega)]
      exact ih (i + 1) m (by omega) (by omega) (by omega)
    · rw [if_neg (by omega)]
theorem lexI_len (s : List UInt8) : ∀ (f line old i : Nat) (acc : List S29), i ≤ s.length → acc.length ≤ i → (lexI s f line old i acc).1.length ≤ s.length
  | 0, _, _, i, acc, _, h => by simp [lexI]
  | f + 1, line, old, i, acc, h', h => by
    rw [lexI]
    by_cases hi : i < s.length
    · rw [if_pos hi]
      have hne : s.drop i ≠ [] := by rw [drop_at hi]; simp
      by_cases h0 : (tokF (s.drop i)).1 = 0
      · rw [if_pos h0]
        have hpos := tokF_pos (s.drop i) hne h0
        have hle := tokF_le (s.drop i) hne
        have hk := skF_le false (s.drop (i + (tokF (s.drop i)).2.2.1))
        rw [List.length_drop] at hle hk
        generalize (tokF (s.drop i)).2.2.1 = n at *
        exact lexI_len s f _ _ _ _ (by omega) (by rw [List.length_append, List.length_singleton]; omega)
      · rw [if_neg h0]; simp
    · rw [if_neg hi]; dsimp only; omega
theorem LexF_len (s : List UInt8) : (LexF s).1.length ≤ s.length := by
  unfold LexF
  split
  · simp
  · exact lexI_len s _ _ _ _ _ (skF_le false s) (by simp)
theorem pTokens (s : List UInt8) : ∃ k, evF T k 3 [.str s] [] = some ([.bool true], []) := by
  refine ⟨s.length + 2000 + 1, ?_⟩
  rw [f3_eq, eAw _ (by omega), Option.bind_some, res11_eq, if_neg (by decide)]
  by_cases h : (s.length : Int) > 2000
  · rw [if_pos h, Option.bind_some, res11_eq]
  · have hl := LexF_len s
    rw [if_neg h, eLex s _ (by omega), lexA_bind, eRLex s _ (by omega), lexA_bind13, if_neg (fun h => h rfl), if_neg (fun h => h rfl), if_neg (fun h => h rfl)]
    exact l3_ok _ _ (by omega) (LexF s).1.length 0 _ (by omega) (by omega) (by omega)

end Go.Proofs.YtpcieagmnllimaaDoor
