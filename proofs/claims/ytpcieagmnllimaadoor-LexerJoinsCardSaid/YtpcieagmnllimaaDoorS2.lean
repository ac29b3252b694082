import Derived.Test.YtpcieagmnllimaaDoorS1
set_option linter.all false
namespace Go.Proofs.YtpcieagmnllimaaDoor
open Go Go.RowKit Go.Vm
/-! #### the reference's Skip -/
theorem e33 (k : Nat) (a : Int) : evF T (k + 1) 33 [.int .u8 a] [] = some ([.bool (BL a)], []) := by
  rw [f33_eq]; unfold BL
  repeat' split
  all_goals exact sb (by first | exact tr_ (by omega) | exact fa_ (by omega) | exact decide_eq_decide.mpr (by omega))
theorem NI_iff (a : Int) : NI a = true ↔ a ≠ 10 := by unfold NI; simp
theorem l14_1_ok (s : List UInt8) (hs : s.length < 4611686018427387904) (k m0 : Nat) : ∀ (n i m : Nat), s.length - i ≤ n → i ≤ s.length → n < m → l14_1 k m0 m s i = l14_0 k m0 s ((i + endF NI (s.drop i) : Nat) : Int) := by
  intro n
  induction n with
  | zero =>
    intro i m h1 h2 h3
    obtain ⟨m, rfl⟩ : ∃ m', m = m' + 1 := ⟨m - 1, by omega⟩
    rw [l14_1_eq, if_neg (by omega), List.drop_eq_nil_of_le (by omega)]
    rfl
  | succ n ih =>
    intro i m h1 h2 h3
    obtain ⟨m, rfl⟩ : ∃ m', m = m' + 1 := ⟨m - 1, by omega⟩
    rw [l14_1_eq]
    by_cases hi : i < s.length
    · rw [if_pos (by omega), if_pos (by omega), if_pos (by omega), Int.toNat_natCast, drop_at hi, endF]
      by_cases hp : NI ((s.getD i 0).toNat : Int) = true
      · rw [if_pos ((NI_iff _).mp hp), if_pos hp, w64 (by omega) (by omega)]
        have := ih (i + 1) m (by omega) (by omega) (by omega)
        rw [show ((i + 1 : Nat) : Int) = (i : Int) + 1 by omega] at this
        rw [this]
        exact congrArg (l14_0 k m0 s) (by omega)
      · rw [if_neg (fun h => hp ((NI_iff _).mpr h)), if_neg hp, Nat.add_zero]
    · rw [if_neg (by omega), List.drop_eq_nil_of_le (by omega), endF, Nat.add_zero]
theorem slash (s : List UInt8) (i : Nat) (h : i < s.length) : [47, 47].isPrefixOf (s.drop i) = true ↔ ((s.getD i 0).toNat : Int) = 47 ∧ i + 1 < s.length ∧ ((s.getD (i + 1) 0).toNat : Int) = 47 := by
  rw [drop_at h]
  have e : ∀ c : UInt8, (47 == c) = true ↔ (c.toNat : Int) = 47 := fun c => by
    rw [beq_iff_eq]
    constructor
    · rintro rfl; rfl
    · intro h; exact (UInt8.toNat_inj.mp (show c.toNat = (47 : UInt8).toNat by show c.toNat = 47; omega)).symm
  by_cases h2 : i + 1 < s.length
  · rw [drop_at h2]
    show (47 == s.getD i 0 && (47 == s.getD (i + 1) 0 && true)) = true ↔ _
    rw [Bool.and_eq_true, Bool.and_true, e, e]
    constructor
    · rintro ⟨a, b⟩; exact ⟨a, h2, b⟩
    · rintro ⟨a, _, b⟩; exact ⟨a, b⟩
  · rw [List.drop_eq_nil_of_le (by omega)]
    constructor
    · intro hp
      have : (47 == s.getD i 0 && false) = true := hp
      simp at this
    · rintro ⟨_, h3, _⟩; exact absurd h3 h2
theorem l14_ok (s : List UInt8) (hs : s.length < 4611686018427387904) : ∀ (n i k m : Nat), s.length - i ≤ n → i ≤ s.length → n < m → s.length + 20 ≤ k → l14_0 k m s i = some ([.int .i64 ((i + skF false (s.drop i) : Nat) : Int)], []) := by
  intro n
  induction n using Nat.strongRecOn with
  | ind n ih =>
    intro i k m h1 h2 h3 h4
    obtain ⟨m, rfl⟩ : ∃ m', m = m' + 1 := ⟨m - 1, by omega⟩
    obtain ⟨k, rfl⟩ : ∃ k', k = k' + 1 := ⟨k - 1, by omega⟩
    rw [l14_0_eq]
    by_cases hi : i < s.length
    · rw [if_pos (by omega), if_pos (by omega), if_pos (by omega), e33, Option.bind_some, res33_eq, Int.toNat_natCast]
      by_cases hb : BL ((s.getD i 0).toNat : Int) = true
      · rw [if_pos hb, w64 (by omega) (by omega), drop_at hi, skF, if_pos hb]
        have := ih (s.length - (i + 1)) (by omega) (i + 1) (k + 1) m (Nat.le_refl _) (by omega) (by omega) h4
        rw [show ((i + 1 : Nat) : Int) = (i : Int) + 1 by omega] at this
        rw [this]
        exact si (by omega)
      · rw [if_neg hb, if_pos (by omega), if_pos (by omega), w64 (by omega) (by omega)]
        by_cases hc : [47, 47].isPrefixOf (s.drop i) = true
        · obtain ⟨c1, c2, c3⟩ := (slash s i hi).mp hc
          rw [if_neg (by omega), if_neg (by omega), if_pos (by omega), if_pos (by omega), show ((i : Int) + 1).toNat = i + 1 by omega, if_neg (by omega), l14_1_ok s hs (k + 1) m _ i (k + 1) (Nat.le_refl _) h2 (by omega)]
          have hle := endF_le NI (s.drop i)
          rw [List.length_drop] at hle
          have hcc := hc
          rw [drop_at hi] at hcc
          obtain ⟨g1, g2⟩ := skF_comment hcc
          rw [← drop_at hi] at g1 g2
          generalize hE : endF NI (s.drop i) = e at g1 g2 hle ⊢
          have := ih (s.length - (i + e)) (by omega) (i + e) (k + 1) m (Nat.le_refl _) (by omega) (by omega) h4
          rw [this, g1, List.drop_drop]
          exact si (by omega)
        · have hn : skF false (s.drop i) = 0 := by
            rw [drop_at hi] at hc ⊢
            rw [skF, if_neg hb, if_neg hc]
          rw [hn]
          have hcn := mt (slash s i hi).mpr hc
          by_cases c1 : ((s.getD i 0).toNat : Int) = 47
          · rw [if_neg (by omega)]
            by_cases c2 : i + 1 < s.length
            · have c3 : ¬ ((s.getD (i + 1) 0).toNat : Int) = 47 := fun h => hcn ⟨c1, c2, h⟩
              rw [if_neg (by omega), if_pos (by omega), if_pos (by omega), show ((i : Int) + 1).toNat = i + 1 by omega, if_pos c3]
              exact si (by omega)
            · rw [if_pos (by omega)]
              exact si (by omega)
          · rw [if_pos c1]
            exact si (by omega)
    · rw [if_neg (by omega), List.drop_eq_nil_of_le (by omega)]
      exact si (by simp [skF])
theorem eRSkip (s : List UInt8) (hs : s.length < 4611686018427387904) (i k : Nat) (hi : i ≤ s.length) (hk : s.length + 30 ≤ k) : evF T k 14 [.str s, .int .i64 i] [] = some ([.int .i64 ((i + skF false (s.drop i) : Nat) : Int)], []) := by
  obtain ⟨k, rfl⟩ : ∃ k', k = k' + 1 := ⟨k - 1, by omega⟩
  rw [f14_eq]; exact l14_ok s hs _ i k k (Nat.le_refl _) hi (by omega) (by omega)
/-! #### lists of words -/
theorem drop_atL {s : List (List UInt8)} {i : Nat} (h : i < s.length) : s.drop i = s.getD i [] :: s.drop (i + 1) := by
  rw [List.drop_eq_getElem_cons h]; congr 1; simp [List.getD, List.getElem?_eq_getElem h]
theorem l32_ok (k : Nat) (s : List UInt8) (l : List (List UInt8)) (hs : l.length < 4611686018427387904) : ∀ (n i m : Nat), l.length - i ≤ n → i ≤ l.length → n < m → l32_0 k m s l i = some ([.bool (decide (s ∈ l.drop i))], []) := by
  intro n
  induction n with
  | zero =>
    intro i m h1 h2 h3
    obtain ⟨m, rfl⟩ : ∃ m', m = m' + 1 := ⟨m - 1, by omega⟩
    rw [l32_0_eq, if_neg (by omega), List.drop_eq_nil_of_le (by omega)]
    exact sb (by simp)
  | succ n ih =>
    intro i m h1 h2 h3
    obtain ⟨m, rfl⟩ : ∃ m', m = m' + 1 := ⟨m - 1, by omega⟩
    rw [l32_0_eq]
    by_cases hi : i < l.length
    · rw [if_pos (by omega), if_pos (by omega), if_pos (by omega), Int.toNat_natCast, drop_atL hi]
      by_cases hp : l.getD i [] = s
      · rw [if_pos hp]
        exact sb (tr_ (by rw [hp]; exact List.mem_cons_self))
      · rw [if_neg hp, w64 (by omega) (by omega)]
        have := ih (i + 1) m (by omega) (by omega) (by omega)
        rw [show ((i + 1 : Nat) : Int) = (i : Int) + 1 by omega] at this
        rw [this]
        exact sb (decide_eq_decide.mpr ⟨List.mem_cons_of_mem _, fun h => (List.mem_cons.mp h).resolve_left (fun e => hp e.symm)⟩)
    · rw [if_neg (by omega), List.drop_eq_nil_of_le (by omega)]
      exact sb (by simp)
theorem eOne (s : List UInt8) (l : List (List UInt8)) (hs : l.length < 1000) (k : Nat) (hk : 1010 ≤ k) : evF T k 32 [.str s, .vsl none .str l] [] = some ([.bool (decide (s ∈ l))], []) := by
  obtain ⟨k, rfl⟩ : ∃ k', k = k' + 1 := ⟨k - 1, by omega⟩
  rw [f32_eq]
  exact l32_ok k s l (by omega) l.length 0 k (by omega) (by omega) (by omega)
theorem l55_ok (k : Nat) (s : List UInt8) (l : List (List UInt8)) (hs : l.length < 4611686018427387904) : ∀ (n i m : Nat), l.length - i ≤ n → i ≤ l.length → n < m → ∃ j, l55_0 k m l s l.length i = some ([.int .i64 j], []) ∧ (0 ≤ j ↔ s ∈ l.drop i) := by
  intro n
  induction n with
  | zero =>
    intro i m h1 h2 h3
    obtain ⟨m, rfl⟩ : ∃ m', m = m' + 1 := ⟨m - 1, by omega⟩
    rw [l55_0_eq, if_neg (by omega), List.drop_eq_nil_of_le (by omega)]
    exact ⟨-1, rfl, by simp⟩
  | succ n ih =>
    intro i m h1 h2 h3
    obtain ⟨m, rfl⟩ : ∃ m', m = m' + 1 := ⟨m - 1, by omega⟩
    rw [l55_0_eq]
    by_cases hi : i < l.length
    · rw [if_pos (by omega), if_pos (by omega), if_pos (by omega), Int.toNat_natCast, drop_atL hi]
      by_cases hp : s = l.getD i []
      · rw [if_pos hp]
        exact ⟨i, rfl, by rw [← hp]; simp⟩
      · rw [if_neg hp, w64 (by omega) (by omega)]
        obtain ⟨j, h4, h5⟩ := ih (i + 1) m (by omega) (by omega) (by omega)
        rw [show ((i + 1 : Nat) : Int) = (i : Int) + 1 by omega] at h4
        exact ⟨j, h4, h5.trans ⟨List.mem_cons_of_mem _, fun h => (List.mem_cons.mp h).resolve_left hp⟩⟩
    · rw [if_neg (by omega), List.drop_eq_nil_of_le (by omega)]
      exact ⟨-1, rfl, by simp⟩
theorem eHas (s : List UInt8) (l : List (List UInt8)) (hs : l.length < 1000) (k : Nat) (hk : 1010 ≤ k) : evF T k 37 [.vsl none .str l, .str s] [] = some ([.bool (decide (s ∈ l))], []) := by
  obtain ⟨k, rfl⟩ : ∃ k', k = k' + 2 := ⟨k - 2, by omega⟩
  rw [f37_eq, f55_eq]
  obtain ⟨j, h1, h2⟩ := l55_ok k s l (by omega) l.length 0 k (by omega) (by omega) (by omega)
  rw [show ((0 : Nat) : Int) = 0 from rfl] at h1
  rw [h1, Option.bind_some, res55_eq]
  exact sb (decide_eq_decide.mpr (by rw [List.drop_zero] at h2; exact h2))

end Go.Proofs.YtpcieagmnllimaaDoor
