import Derived.Test.YtpcieagmnllimaaDoorE
set_option linter.all false
namespace Go.Proofs.YtpcieagmnllimaaDoor
open Go Go.RowKit Go.Vm
theorem w64 {x : Int} (h0 : -9223372036854775808 ≤ x) (h1 : x < 9223372036854775808) : wrap64 x = x := by
  unfold wrap64; omega
theorem wu64 {x : Int} (h0 : 0 ≤ x) (h1 : x < 18446744073709551616) : wr .u64 x = x := by
  show IntKind.wrap .u64 x = x
  rw [show IntKind.wrap .u64 x = x % 18446744073709551616 by simp [IntKind.wrap, IntKind.bits, IntKind.signed]]; omega
theorem wu8 {x : Int} (h0 : 0 ≤ x) (h1 : x < 256) : wr .u8 x = x := by
  show IntKind.wrap .u8 x = x
  rw [show IntKind.wrap .u8 x = x % 256 by simp [IntKind.wrap, IntKind.bits, IntKind.signed]]; omega
theorem sb {p q : Bool} (h : p = q) : (some ([PV.bool p], []) : Option (Ans N)) = some ([.bool q], []) := by rw [h]
theorem si {k : IntKind} {p q : Int} (h : p = q) : (some ([PV.int k p], []) : Option (Ans N)) = some ([.int k q], []) := by rw [h]
def LI (a : Int) : Bool := decide ((97 ≤ a ∧ a ≤ 122) ∨ (65 ≤ a ∧ a ≤ 90) ∨ a = 95)
def DI (a : Int) : Bool := decide (48 ≤ a ∧ a ≤ 57)
def PI (a : Int) : Bool := LI a || DI a
def NI (a : Int) : Bool := decide (a ≠ 10)
theorem tr_ {P : Prop} [Decidable P] (h : P) : true = decide P := (decide_eq_true h).symm
theorem fa_ {P : Prop} [Decidable P] (h : ¬ P) : false = decide P := (decide_eq_false h).symm
theorem e44 (k : Nat) (a : Int) : evF T (k + 1) 44 [.int .u8 a] [] = some ([.bool (LI a)], []) := by
  rw [f44_eq]; unfold LI
  repeat' split
  all_goals exact sb (by first | exact tr_ (by omega) | exact fa_ (by omega) | exact decide_eq_decide.mpr (by omega))
theorem e17 (k : Nat) (a : Int) : evF T (k + 1) 17 [.int .u8 a] [] = some ([.bool (LI a)], []) := by
  rw [f17_eq]; unfold LI
  repeat' split
  all_goals exact sb (by first | exact tr_ (by omega) | exact fa_ (by omega) | exact decide_eq_decide.mpr (by omega))
theorem e46 (k : Nat) (a : Int) : evF T (k + 1) 46 [.int .u8 a] [] = some ([.bool (DI a)], []) := by
  rw [f46_eq]; unfold DI
  repeat' split
  all_goals exact sb (by first | exact tr_ (by omega) | exact fa_ (by omega) | exact decide_eq_decide.mpr (by omega))
theorem e45 (k : Nat) (a : Int) : evF T (k + 2) 45 [.int .u8 a] [] = some ([.bool (PI a)], []) := by
  rw [f45_eq, e44, Option.bind_some, res44_eq, e46, Option.bind_some, res46_eq]; unfold PI
  cases LI a <;> simp
theorem e43 (k : Nat) (a : Int) : evF T (k + 1) 43 [.int .u8 a] [] = some ([.bool (NI a)], []) := f43_eq k a
/-- How many bytes at the beginning are p. -/
def endF (p : Int → Bool) : List UInt8 → Nat
  | [] => 0
  | c :: l => if p (c.toNat : Int) = true then endF p l + 1 else 0
theorem endF_le (p : Int → Bool) : ∀ l : List UInt8, endF p l ≤ l.length
  | [] => Nat.le_refl _
  | c :: l => by
    unfold endF
    have := endF_le p l
    split <;> simp <;> omega
theorem drop_at {s : List UInt8} {i : Nat} (h : i < s.length) : s.drop i = s.getD i 0 :: s.drop (i + 1) := by
  rw [List.drop_eq_getElem_cons h]; congr 1; simp [List.getD, List.getElem?_eq_getElem h]
theorem l42v1_ok (s : List UInt8) (hs : s.length < 4611686018427387904) : ∀ (n i k m : Nat), s.length - i ≤ n → i ≤ s.length → n < m → 5 ≤ k → l42v1_0 k m s i = some ([.int .i64 ((i + endF PI (s.drop i) : Nat) : Int)], []) := by
  intro n
  induction n with
  | zero =>
    intro i k m h1 h2 h3 h4
    obtain ⟨m, rfl⟩ : ∃ m', m = m' + 1 := ⟨m - 1, by omega⟩
    rw [l42v1_0_eq, if_neg (by omega), List.drop_eq_nil_of_le (by omega)]
    rfl
  | succ n ih =>
    intro i k m h1 h2 h3 h4
    obtain ⟨m, rfl⟩ : ∃ m', m = m' + 1 := ⟨m - 1, by omega⟩
    obtain ⟨k, rfl⟩ : ∃ k', k = k' + 2 := ⟨k - 2, by omega⟩
    rw [l42v1_0_eq]
    by_cases hi : i < s.length
    · rw [if_pos (by omega), if_pos (by omega), if_pos (by omega), e45, Option.bind_some, res45_eq, Int.toNat_natCast, drop_at hi, endF]
      by_cases hp : PI ((s.getD i 0).toNat : Int) = true
      · rw [if_pos hp, if_pos hp, w64 (by omega) (by omega)]
        have := ih (i + 1) (k + 2) m (by omega) (by omega) (by omega) (by omega)
        rw [show ((i + 1 : Nat) : Int) = (i : Int) + 1 by omega] at this
        rw [this]
        exact si (by omega)
      · rw [if_neg hp, if_neg hp]
        exact si (by omega)
    · rw [if_neg (by omega), List.drop_eq_nil_of_le (by omega)]
      exact si (by simp [endF])
theorem l42_ok (s : List UInt8) (hs : s.length < 4611686018427387904) : ∀ (n i k m : Nat), s.length - i ≤ n → i ≤ s.length → n < m → 5 ≤ k → l42_0 k m s i = some ([.int .i64 ((i + endF NI (s.drop i) : Nat) : Int)], []) := by
  intro n
  induction n with
  | zero =>
    intro i k m h1 h2 h3 h4
    obtain ⟨m, rfl⟩ : ∃ m', m = m' + 1 := ⟨m - 1, by omega⟩
    rw [l42_0_eq, if_neg (by omega), List.drop_eq_nil_of_le (by omega)]
    rfl
  | succ n ih =>
    intro i k m h1 h2 h3 h4
    obtain ⟨m, rfl⟩ : ∃ m', m = m' + 1 := ⟨m - 1, by omega⟩
    obtain ⟨k, rfl⟩ : ∃ k', k = k' + 1 := ⟨k - 1, by omega⟩
    rw [l42_0_eq]
    by_cases hi : i < s.length
    · rw [if_pos (by omega), if_pos (by omega), if_pos (by omega), e43, Option.bind_some, res43_eq, Int.toNat_natCast, drop_at hi, endF]
      by_cases hp : NI ((s.getD i 0).toNat : Int) = true
      · rw [if_pos hp, if_pos hp, w64 (by omega) (by omega)]
        have := ih (i + 1) (k + 1) m (by omega) (by omega) (by omega) (by omega)
        rw [show ((i + 1 : Nat) : Int) = (i : Int) + 1 by omega] at this
        rw [this]
        exact si (by omega)
      · rw [if_neg hp, if_neg hp]
        exact si (by omega)
    · rw [if_neg (by omega), List.drop_eq_nil_of_le (by omega)]
      exact si (by simp [endF])

theorem eEnd (s : List UInt8) (hs : s.length < 4611686018427387904) (i k : Nat) (hi : i ≤ s.length) (hk : s.length + 10 ≤ k) : evF T k 42 [.str s, .int .i64 i, .fn 45 []] [] = some ([.int .i64 ((i + endF PI (s.drop i) : Nat) : Int)], []) := by
  obtain ⟨k, rfl⟩ : ∃ k', k = k' + 1 := ⟨k - 1, by omega⟩
  rw [f42v1_eq]; exact l42v1_ok s hs _ i k k (Nat.le_refl _) hi (by omega) (by omega)
theorem eEnd0 (s : List UInt8) (hs : s.length < 4611686018427387904) (i k : Nat) (hi : i ≤ s.length) (hk : s.length + 10 ≤ k) : evF T k 42 [.str s, .int .i64 i, .fn 43 []] [] = some ([.int .i64 ((i + endF NI (s.drop i) : Nat) : Int)], []) := by
  obtain ⟨k, rfl⟩ : ∃ k', k = k' + 1 := ⟨k - 1, by omega⟩
  rw [f42_eq]; exact l42_ok s hs _ i k k (Nat.le_refl _) hi (by omega) (by omega)
/-! #### blanks and comments -/
def BL (a : Int) : Bool := decide (a = 32 ∨ a = 9 ∨ a = 13 ∨ a = 10)
def skF : Bool → List UInt8 → Nat
  | _, [] => 0
  | true, c :: l => if NI (c.toNat : Int) = true then skF true l + 1 else skF false l + 1
  | false, c :: l => if BL (c.toNat : Int) = true then skF false l + 1 else if [47, 47].isPrefixOf (c :: l) = true then skF true l + 1 else 0
theorem skF_true : ∀ l : List UInt8, skF true l = endF NI l + skF false (l.drop (endF NI l))
  | [] => rfl
  | c :: l => by
    unfold endF
    by_cases h : NI (c.toNat : Int) = true
    · rw [skF, if_pos h, if_pos h, List.drop_succ_cons, skF_true l]; omega
    · have hb : BL (c.toNat : Int) = true := by
        unfold NI at h; unfold BL; simp at h ⊢; omega
      rw [skF, if_neg h, if_neg h, List.drop_zero, skF, if_pos hb]; omega
theorem skF_comment {c : UInt8} {l : List UInt8} (h : [47, 47].isPrefixOf (c :: l) = true) : skF false (c :: l) = endF NI (c :: l) + skF false ((c :: l).drop (endF NI (c :: l))) ∧ 1 ≤ endF NI (c :: l) := by
  have hc : c = 47 := by
    have : (47 == c && _) = true := h
    rw [Bool.and_eq_true] at this
    exact (beq_iff_eq.mp this.1).symm
  subst hc
  have hb : ¬ BL (((47 : UInt8).toNat : Nat) : Int) = true := by decide
  have hn : NI (((47 : UInt8).toNat : Nat) : Int) = true := by decide
  refine ⟨?_, ?_⟩
  · have a : skF false (47 :: l) = skF true l + 1 := by rw [skF, if_neg hb, if_pos h]
    have b : skF true (47 :: l) = skF true l + 1 := by rw [skF, if_pos hn]
    rw [← skF_true, a, b]
  · unfold endF; rw [if_pos hn]; omega
theorem skF_le : ∀ (b : Bool) (l : List UInt8), skF b l ≤ l.length
  | _, [] => by unfold skF; exact Nat.zero_le _
  | true, c :: l => by
    have h1 := skF_le true l
    have h2 := skF_le false l
    unfold skF; split <;> simp <;> omega
  | false, c :: l => by
    have h1 := skF_le true l
    have h2 := skF_le false l
    unfold skF
    split
    · simp; omega
    · split <;> simp <;> omega
theorem indexByte_mem : ∀ (l : List UInt8) (c : UInt8), 0 ≤ Lib.indexByte l c ↔ c ∈ l
  | [], c => by simp [Lib.indexByte]
  | b :: l, c => by
    have ih := indexByte_mem l c
    unfold Lib.indexByte
    by_cases h : (b == c) = true
    · rw [if_pos h]
      have := beq_iff_eq.mp h
      simp [this]
    · rw [if_neg h]
      have hbc : ¬ b = c := fun e => h (beq_iff_eq.mpr e)
      have hge := Lib.indexByte_ge l c
      by_cases h1 : (Lib.indexByte l c == -1) = true
      · have h1' := beq_iff_eq.mp h1
        have hn : ¬ c ∈ l := fun hc => by have := ih.mpr hc; omega
        simp [h1', hn, Ne.symm hbc]
      · have h1' : ¬ Lib.indexByte l c = -1 := fun e => h1 (beq_iff_eq.mpr e)
        rw [if_neg h1]
        have hm : c ∈ l := ih.mp (by omega)
        constructor
        · intro _; exact List.mem_cons_of_mem _ hm
        · intro _; omega
theorem back8 (c : UInt8) : c.toNat.toUInt8 = c := UInt8.ofNat_toNat
theorem blank_iff (c : UInt8) : (0 ≤ Lib.indexByte [32, 9, 13, 10] c) ↔ BL (c.toNat : Int) = true := by
  rw [indexByte_mem]
  have h : ∀ n : Fin 256, (UInt8.ofNat n.val ∈ ([32, 9, 13, 10] : List UInt8)) ↔ BL (n.val : Int) = true := by decide +kernel
  have := h ⟨c.toNat, c.toNat_lt⟩
  rwa [show UInt8.ofNat (Fin.val ⟨c.toNat, c.toNat_lt⟩) = c from UInt8.ofNat_toNat] at this
theorem e40 (k : Nat) (s : List UInt8) (c : Int) : evF T (k + 1) 40 [.str s, .int .u8 c] [] = some ([.int .i64 (Lib.indexByte s c.toNat.toUInt8)], []) := rfl
theorem e41 (k : Nat) (s p : List UInt8) : evF T (k + 1) 41 [.str s, .str p] [] = some ([.bool (p.isPrefixOf s)], []) := rfl
theorem l27_ok (s : List UInt8) (hs : s.length < 4611686018427387904) : ∀ (n i k m : Nat), s.length - i ≤ n → i ≤ s.length → n < m → s.length + 20 ≤ k → l27_0 k m s i = some ([.int .i64 ((i + skF false (s.drop i) : Nat) : Int)], []) := by
  intro n
  induction n using Nat.strongRecOn with
  | ind n ih =>
    intro i k m h1 h2 h3 h4
    obtain ⟨m, rfl⟩ : ∃ m', m = m' + 1 := ⟨m - 1, by omega⟩
    obtain ⟨k, rfl⟩ : ∃ k', k = k' + 1 := ⟨k - 1, by omega⟩
    rw [l27_0_eq]
    by_cases hi : i < s.length
    · rw [if_pos (by omega), if_pos (by omega), if_pos (by omega), e40, Option.bind_some, res40_eq, Int.toNat_natCast, Int.toNat_natCast, back8, drop_at hi, skF]
      by_cases hb : BL ((s.getD i 0).toNat : Int) = true
      · rw [if_pos hb, if_pos ((blank_iff _).mpr hb), w64 (by omega) (by omega)]
        have := ih (s.length - (i + 1)) (by omega) (i + 1) (k + 1) m (Nat.le_refl _) (by omega) (by omega) h4
        rw [show ((i + 1 : Nat) : Int) = (i : Int) + 1 by omega] at this
        rw [this]
        exact si (by omega)
      · have hb' : ¬ (Lib.indexByte [32, 9, 13, 10] (s.getD i 0) ≥ 0) := fun h => hb ((blank_iff _).mp h)
        rw [if_neg hb, if_neg hb', if_pos (by omega), if_pos (by omega), if_pos (by omega), if_pos (by omega), e41, Option.bind_some, res41_eq, List.take_of_length_le (by omega), drop_at hi]
        by_cases hc : [47, 47].isPrefixOf (s.getD i 0 :: s.drop (i + 1)) = true
        · obtain ⟨g1, g2⟩ := skF_comment hc
          have hle := endF_le NI (s.drop i)
          rw [List.length_drop] at hle
          rw [if_pos hc, if_pos hc, eEnd0 s hs i (k + 1) h2 (by omega), Option.bind_some, res42_eq]
          rw [drop_at hi] at hle ⊢
          generalize hE : endF NI (s.getD i 0 :: s.drop (i + 1)) = e at g1 g2 hle ⊢
          have := ih (s.length - (i + e)) (by omega) (i + e) (k + 1) m (Nat.le_refl _) (by omega) (by omega) h4
          rw [this]
          have hb2 : skF false (s.getD i 0 :: s.drop (i + 1)) = skF true (s.drop (i + 1)) + 1 := by rw [skF, if_neg hb, if_pos hc]
          rw [← hb2, g1, ← drop_at hi, List.drop_drop]
          exact si (by omega)
        · rw [if_neg hc, if_neg hc]
          exact si (by omega)
    · rw [if_neg (by omega), List.drop_eq_nil_of_le (by omega)]
      exact si (by simp [skF])
theorem eSkip (s : List UInt8) (hs : s.length < 4611686018427387904) (i k : Nat) (hi : i ≤ s.length) (hk : s.length + 30 ≤ k) : evF T k 27 [.str s, .int .i64 i] [] = some ([.int .i64 ((i + skF false (s.drop i) : Nat) : Int)], []) := by
  obtain ⟨k, rfl⟩ : ∃ k', k = k' + 1 := ⟨k - 1, by omega⟩
  rw [f27_eq]; exact l27_ok s hs _ i k k (Nat.le_refl _) hi (by omega) (by omega)

end Go.Proofs.YtpcieagmnllimaaDoor
