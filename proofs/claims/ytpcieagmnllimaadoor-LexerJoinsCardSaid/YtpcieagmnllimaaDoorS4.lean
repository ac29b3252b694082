import Derived.Test.YtpcieagmnllimaaDoorS3
set_option linter.all false
namespace Go.Proofs.YtpcieagmnllimaaDoor
open Go Go.RowKit Go.Vm
/-! #### numbers -/
def digP (b : Nat) (a : Int) : Bool := decide (dv a.toNat < b)
theorem dv_cases (n : Nat) : (48 ≤ n ∧ n ≤ 57 ∧ dv n = n - 48) ∨ (97 ≤ n ∧ n ≤ 102 ∧ dv n = n - 87) ∨ (65 ≤ n ∧ n ≤ 70 ∧ dv n = n - 55) ∨ (¬ (48 ≤ n ∧ n ≤ 57) ∧ ¬ (97 ≤ n ∧ n ≤ 102) ∧ ¬ (65 ≤ n ∧ n ≤ 70) ∧ dv n = 99) := by
  unfold dv
  by_cases h1 : 48 ≤ n ∧ n ≤ 57
  · rw [if_pos h1]; omega
  · rw [if_neg h1]
    by_cases h2 : 97 ≤ n ∧ n ≤ 102
    · rw [if_pos h2]; omega
    · rw [if_neg h2]
      by_cases h3 : 65 ≤ n ∧ n ≤ 70
      · rw [if_pos h3]; omega
      · rw [if_neg h3]; omega
def isBase (b : Nat) : Prop := b = 10 ∨ b = 16 ∨ b = 2
/-- A digit's value in a base, -1 if it is none. -/
def dgI (b n : Nat) : Int := if dv n < b then (dv n : Int) else -1
theorem e18 (k n b : Nat) (hn : n < 256) (hb : isBase b) : evF T (k + 1) 18 [.int .u8 n, .int .i64 b] [] = some ([.int .i64 (dgI b n)], []) := by
  have hv := dv_cases n
  unfold isBase at hb
  unfold dgI
  have j1 : ∀ x5 : Int, (x5 = -1 ∨ (0 ≤ x5 ∧ x5 < 100)) → j18_1 k n b x5 = some ([.int .i64 (if 65 ≤ n ∧ n ≤ 70 then (if (n : Int) - 55 ≥ b then -1 else (n : Int) - 55) else if x5 ≥ b then -1 else x5)], []) := by
    intro x5 hx
    rw [j18_1_eq]
    by_cases h1 : 65 ≤ n
    · rw [if_pos (by omega)]
      by_cases h2 : n ≤ 70
      · have r : wrap64 (wrap64 ((n : Int) - 65) + 10) = (n : Int) - 55 := by rw [w64 (x := (n : Int) - 65) (by omega) (by omega), w64 (by omega) (by omega)]; omega
        rw [if_pos (by omega), wu8 (by omega) (by omega), r, if_pos (show 65 ≤ n ∧ n ≤ 70 from ⟨h1, h2⟩)]
        by_cases h3 : (n : Int) - 55 ≥ b
        · rw [if_pos h3, if_pos h3]
        · rw [if_neg h3, if_neg h3]
      · rw [if_neg (by omega), if_neg (show ¬ (65 ≤ n ∧ n ≤ 70) by omega)]
        by_cases h3 : x5 ≥ b
        · rw [if_pos h3, if_pos h3]
        · rw [if_neg h3, if_neg h3]
    · rw [if_neg (by omega), if_neg (show ¬ (65 ≤ n ∧ n ≤ 70) by omega)]
      by_cases h3 : x5 ≥ b
      · rw [if_pos h3, if_pos h3]
      · rw [if_neg h3, if_neg h3]
  have j0 : ∀ x5 : Int, (x5 = -1 ∨ (0 ≤ x5 ∧ x5 < 100)) → j18_0 k n b x5 = j18_1 k n b (if 97 ≤ n ∧ n ≤ 102 then (n : Int) - 87 else x5) := by
    intro x5 hx
    rw [j18_0_eq]
    by_cases h1 : 97 ≤ n
    · rw [if_pos (by omega)]
      by_cases h2 : n ≤ 102
      · have r : wrap64 (wrap64 ((n : Int) - 97) + 10) = (n : Int) - 87 := by rw [w64 (x := (n : Int) - 97) (by omega) (by omega), w64 (by omega) (by omega)]; omega
        rw [if_pos (by omega), wu8 (by omega) (by omega), r, if_pos ⟨h1, h2⟩]
      · rw [if_neg (by omega), if_neg (by omega)]
    · rw [if_neg (by omega), if_neg (by omega)]
  have st : evF T (k + 1) 18 [.int .u8 n, .int .i64 b] [] = j18_0 k n b (if 48 ≤ n ∧ n ≤ 57 then (n : Int) - 48 else -1) := by
    rw [f18_eq]
    by_cases h1 : 48 ≤ n
    · rw [if_pos (by omega)]
      by_cases h2 : n ≤ 57
      · rw [if_pos (by omega), wu8 (by omega) (by omega), w64 (by omega) (by omega), if_pos ⟨h1, h2⟩]
      · rw [if_neg (by omega), if_neg (by omega)]
    · rw [if_neg (by omega), if_neg (by omega)]
  rcases hv with ⟨h1, h2, h3⟩ | ⟨h1, h2, h3⟩ | ⟨h1, h2, h3⟩ | ⟨h1, h2, h3, h4⟩
  · rw [st, if_pos ⟨h1, h2⟩, j0 _ (by omega), if_neg (by omega), j1 _ (by omega), if_neg (by omega), h3]
    by_cases h : n - 48 < b
    · rw [if_pos h, if_neg (by omega)]; exact si (by omega)
    · rw [if_neg h, if_pos (by omega)]
  · rw [st, if_neg (by omega), j0 _ (by omega), if_pos ⟨h1, h2⟩, j1 _ (by omega), if_neg (by omega), h3]
    by_cases h : n - 87 < b
    · rw [if_pos h, if_neg (by omega)]; exact si (by omega)
    · rw [if_neg h, if_pos (by omega)]
  · rw [st, if_neg (by omega), j0 _ (by omega), if_neg (by omega), j1 _ (by omega), if_pos ⟨h1, h2⟩, h3]
    by_cases h : n - 55 < b
    · rw [if_pos h, if_neg (by omega)]; exact si (by omega)
    · rw [if_neg h, if_pos (by omega)]
  · rw [st, if_neg h1, j0 _ (by omega), if_neg h2, j1 _ (by omega), if_neg h3, h4, if_neg (by omega), if_neg (by omega)]
theorem DI_dig (n : Nat) : DI (n : Int) = digP 10 (n : Int) := by
  unfold DI digP
  rw [Int.toNat_natCast]
  have := dv_cases n
  exact decide_eq_decide.mpr (by omega)
theorem e30 (k n : Nat) (hn : n < 256) : evF T (k + 2) 30 [.int .u8 n] [] = some ([.bool (PI n)], []) := by
  have hd := DI_dig n
  have e18' := e18 k n 10 hn (.inl rfl)
  rw [f30_eq, e17, Option.bind_some, res17_eq, show (10 : Int) = ((10 : Nat) : Int) from rfl, e18', Option.bind_some, res18_eq]
  unfold PI
  by_cases h : LI (n : Int) = true
  · rw [if_pos h, h]; rfl
  · rw [if_neg h, eq_false_of_ne_true h, Bool.false_or, hd]
    refine sb ?_
    unfold digP dgI
    rw [Int.toNat_natCast]
    by_cases hh : dv n < 10
    · rw [if_pos hh]; exact decide_eq_decide.mpr (by omega)
    · rw [if_neg hh]; exact decide_eq_decide.mpr (by omega)
theorem e62 (k n b : Nat) (hb : isBase b) : evF T (k + 2) 62 [.int .u8 n, .bptr 0 0] [some (.box [.int .i64 b])] = some ([.bool (digP b n)], [some (.box [.int .i64 b])]) := by
  have hv := dv_cases n
  rw [f62_eq, e46, Option.bind_some, res46_eq]
  unfold isBase at hb
  have g : ∀ (p q : Bool) (h : p = q), (some ([PV.bool p], [some (.box [.int .i64 b])]) : Option (Ans N)) = some ([.bool q], [some (.box [.int .i64 b])]) := fun p q h => by rw [h]
  unfold digP DI
  rw [Int.toNat_natCast]
  by_cases h16 : b = 16
  · rw [if_pos (by omega)]
    by_cases h1 : 48 ≤ (n : Int) ∧ (n : Int) ≤ 57
    · rw [if_pos (decide_eq_true h1)]; exact g _ _ (tr_ (by omega))
    · rw [if_neg (by simpa using h1)]
      repeat' split
      all_goals exact g _ _ (by first | exact tr_ (by omega) | exact fa_ (by omega) | exact decide_eq_decide.mpr (by omega))
  · rw [if_neg (by omega)]
    by_cases h2 : b = 2
    · rw [if_pos (by omega)]
      repeat' split
      all_goals exact g _ _ (by first | exact tr_ (by omega) | exact fa_ (by omega) | exact decide_eq_decide.mpr (by omega))
    · rw [if_neg (by omega)]
      exact g _ _ (decide_eq_decide.mpr (by omega))
theorem l42v2_ok (s : List UInt8) (hs : s.length < 4611686018427387904) (b : Nat) (hb : isBase b) : ∀ (n i k m : Nat), s.length - i ≤ n → i ≤ s.length → n < m → 5 ≤ k → l42v2_0 k m s i b = some ([.int .i64 ((i + endF (digP b) (s.drop i) : Nat) : Int)], [some (.box [.int .i64 b])]) := by
  have g : ∀ (p q : Int) (h : p = q), (some ([PV.int .i64 p], [some (.box [.int .i64 b])]) : Option (Ans N)) = some ([.int .i64 q], [some (.box [.int .i64 b])]) := fun p q h => by rw [h]
  intro n
  induction n with
  | zero =>
    intro i k m h1 h2 h3 h4
    obtain ⟨m, rfl⟩ : ∃ m', m = m' + 1 := ⟨m - 1, by omega⟩
    rw [l42v2_0_eq, if_neg (by omega), List.drop_eq_nil_of_le (by omega)]
    rfl
  | succ n ih =>
    intro i k m h1 h2 h3 h4
    obtain ⟨m, rfl⟩ : ∃ m', m = m' + 1 := ⟨m - 1, by omega⟩
    obtain ⟨k, rfl⟩ : ∃ k', k = k' + 2 := ⟨k - 2, by omega⟩
    rw [l42v2_0_eq]
    by_cases hi : i < s.length
    · rw [if_pos (by omega), if_pos (by omega), if_pos (by omega), e62 k _ b hb, Option.bind_some, res62_1_eq, Int.toNat_natCast, drop_at hi, endF]
      by_cases hp : digP b ((s.getD i 0).toNat : Int) = true
      · rw [if_pos hp, if_pos hp, w64 (by omega) (by omega)]
        have := ih (i + 1) (k + 2) m (by omega) (by omega) (by omega) (by omega)
        rw [show ((i + 1 : Nat) : Int) = (i : Int) + 1 by omega] at this
        rw [this]
        exact g _ _ (by omega)
      · rw [if_neg hp, if_neg hp]
        exact g _ _ (by omega)
    · rw [if_neg (by omega), List.drop_eq_nil_of_le (by omega)]
      exact g _ _ (by simp [endF])
/-- A number's base, and how many bytes name it. -/
def bsF (l : List UInt8) : Nat × Nat := if [48, 120].isPrefixOf l = true then (16, 2) else if [48, 98].isPrefixOf l = true then (2, 2) else (10, 0)
theorem bsF_base (l : List UInt8) : isBase (bsF l).1 := by
  unfold bsF isBase; split
  · exact .inr (.inl rfl)
  · split
    · exact .inr (.inr rfl)
    · exact .inl rfl
theorem prefix_len {a b : UInt8} {l : List UInt8} (h : [a, b].isPrefixOf l = true) : 2 ≤ l.length := by
  match l with
  | [] => exact absurd h (by simp [List.isPrefixOf])
  | [_] => exact absurd h (by simp [List.isPrefixOf])
  | _ :: _ :: t => simp
theorem bsF_le (l : List UInt8) : (bsF l).2 ≤ l.length := by
  unfold bsF; split
  · exact prefix_len ‹_›
  · split
    · exact prefix_len ‹_›
    · exact Nat.zero_le _
theorem e61 (k : Nat) (s : List UInt8) (hs : s.length < 4611686018427387904) (i : Nat) (hi : i ≤ s.length) : evF T (k + 2) 61 [.str s, .int .i64 i] [] = some ([.int .i64 (bsF (s.drop i)).1, .int .i64 ((i + (bsF (s.drop i)).2 : Nat) : Int)], []) := by
  rw [f61_eq, if_pos (by omega), if_pos (by omega), if_pos (by omega), if_pos (by omega), e41, Option.bind_some, res41_eq, Int.toNat_natCast, Int.toNat_natCast, List.take_of_length_le (by omega), e41, Option.bind_some, res41_eq]
  unfold bsF
  by_cases h1 : [48, 120].isPrefixOf (s.drop i) = true
  · rw [if_pos h1, if_pos h1, w64 (by omega) (by omega)]; rfl
  · rw [if_neg h1, if_neg h1, if_pos (by omega), if_pos (by omega), if_pos (by omega), if_pos (by omega)]
    by_cases h2 : [48, 98].isPrefixOf (s.drop i) = true
    · rw [if_pos h2, if_pos h2, w64 (by omega) (by omega)]; rfl
    · rw [if_neg h2, if_neg h2]; rfl
/-- Does the word go on here? -/
def goesOn (l : List UInt8) : Bool :=
  match l with
  | [] => false
  | c :: _ => PI (c.toNat : Int)
/-- A number: an error (4 or 5) or 0, how many bytes it takes, its value. -/
def numF (l : List UInt8) : Int × Nat × Nat :=
  if endF (digP (bsF l).1) (l.drop (bsF l).2) = 0 then (4, 0, 0) else
  if goesOn (l.drop ((bsF l).2 + endF (digP (bsF l).1) (l.drop (bsF l).2))) = true then (4, 0, 0) else
  if valB (bsF l).1 0 ((l.drop (bsF l).2).take (endF (digP (bsF l).1) (l.drop (bsF l).2))) < 18446744073709551616 then
    (0, (bsF l).2 + endF (digP (bsF l).1) (l.drop (bsF l).2), valB (bsF l).1 0 ((l.drop (bsF l).2).take (endF (digP (bsF l).1) (l.drop (bsF l).2)))) else (5, 0, 0)
theorem endF_all (p : Int → Bool) : ∀ l : List UInt8, ∀ c ∈ l.take (endF p l), p (c.toNat : Int) = true
  | [], c, h => by simp at h
  | d :: l, c, h => by
    unfold endF at h
    by_cases hp : p (d.toNat : Int) = true
    · rw [if_pos hp, List.take_succ_cons] at h
      rcases List.mem_cons.mp h with rfl | h
      · exact hp
      · exact endF_all p l c h
    · rw [if_neg hp] at h; simp at h
theorem goesOn_at (s : List UInt8) (i : Nat) : goesOn (s.drop i) = (decide (i < s.length) && PI ((s.getD i 0).toNat : Int)) := by
  by_cases h : i < s.length
  · rw [drop_at h, decide_eq_true h]; rfl
  · rw [List.drop_eq_nil_of_le (by omega), decide_eq_false h]; rfl
theorem take_drop (s : List UInt8) (i n : Nat) : (s.take (i + n)).drop i = (s.drop i).take n := by
  rw [List.drop_take]; congr 1; omega
def numA (at_ : Nat) (p : Int × Nat × Nat) : Option (Ans N) := some ([.int .i64 ((at_ + p.2.1 : Nat) : Int), .int .u64 (p.2.2 : Nat), .int .i64 p.1], [])
theorem e63 (k b : Nat) (hb : isBase b) (l : List UInt8) (h0 : l ≠ []) (h1 : ∀ c ∈ l, digP b (c.toNat : Int) = true) (h2 : l.length ≤ 281474976710656) :
    evF T (k + 1) 63 [.str l, .int .i64 b, .int .i64 64] [] = if valB b 0 l < 18446744073709551616 then some ([.int .u64 (valB b 0 l : Nat), .nilif], []) else some ([.int .u64 18446744073709551615, .iface 0 .bad], []) := by
  have e : evF T (k + 1) 63 [.str l, .int .i64 b, .int .i64 64] [] = xParse [.str l, .int .i64 b, .int .i64 64] [] := rfl
  rw [e]
  unfold isBase at hb
  have hd : digitsOk (b : Int).toNat l = true := by
    rw [Int.toNat_natCast]
    unfold digitsOk
    simp only [Bool.and_eq_true, Bool.not_eq_true', List.all_eq_true, Nat.blt_eq, Nat.ble_eq]
    refine ⟨⟨by simpa using h0, fun c hc => ?_⟩, h2⟩
    have := h1 c hc
    unfold digP at this
    rw [Int.toNat_natCast] at this
    exact of_decide_eq_true this
  show (if ((b : Int) = 2 ∨ (b : Int) = 10 ∨ (b : Int) = 16) ∧ (64 : Int) = 64 ∧ digitsOk (b : Int).toNat l = true then _ else none) = _
  rw [if_pos ⟨by omega, rfl, hd⟩, Int.toNat_natCast]
theorem eNum (s : List UInt8) (hs : s.length ≤ 281474976710656) (i k : Nat) (hi : i < s.length) (hk : s.length + 30 ≤ k) : evF T k 47 [.str s, .int .i64 i] [] = numA i (numF (s.drop i)) := by
  obtain ⟨k, rfl⟩ : ∃ k', k = k' + 3 := ⟨k - 3, by omega⟩
  have hb := bsF_base (s.drop i)
  have ho := bsF_le (s.drop i)
  rw [List.length_drop] at ho
  rw [f47_eq, e61 k s (by omega) i (by omega), Option.bind_some, res61_eq]
  unfold numF
  rw [List.drop_drop, List.drop_drop]
  generalize (bsF (s.drop i)).1 = b at hb ⊢
  generalize (bsF (s.drop i)).2 = o at ho ⊢
  have hE := endF_le (digP b) (s.drop (i + o))
  rw [List.length_drop] at hE
  have hall := endF_all (digP b) (s.drop (i + o))
  have e42 : evF T (k + 2) 42 [.str s, .int .i64 ((i + o : Nat) : Int), .fn 62 [.bptr 0 0]] [some (.box [.int .i64 b])] = some ([.int .i64 ((i + o + endF (digP b) (s.drop (i + o)) : Nat) : Int)], [some (.box [.int .i64 b])]) := by
    rw [f42v2_eq]
    exact l42v2_ok s (by omega) b hb _ (i + o) (k + 1) (k + 1) (Nat.le_refl _) (by omega) (by omega) (by omega)
  rw [e42, Option.bind_some, res42_1_eq]
  generalize hn : endF (digP b) (s.drop (i + o)) = n at hE hall ⊢
  by_cases h0 : n = 0
  · rw [if_pos (by omega), if_pos h0]; rfl
  · rw [if_neg (by omega), if_neg h0]
    have hg := goesOn_at s (i + (o + n))
    have ed : s.drop (i + (o + n)) = s.drop (i + (o + n)) := rfl
    have parse : (if 0 ≤ ((i + o + n : Nat) : Int) then if ((i + o + n : Nat) : Int) ≤ (s.length : Int) then if 0 ≤ ((i + o : Nat) : Int) then if ((i + o : Nat) : Int) ≤ ((i + o + n : Nat) : Int) then (evF T (k + 2) 63 [.str ((s.take ((i + o + n : Nat) : Int).toNat).drop ((i + o : Nat) : Int).toNat), .int .i64 b, .int .i64 (64 : Int)] []).bind fun r => res63 r fun y6 y7 => if y7 = true then some ([.int .i64 ((i + o + n : Nat) : Int), .int .u64 y6, .int .i64 (0 : Int)], []) else some ([.int .i64 (i : Int), .int .u64 (0 : Int), .int .i64 (5 : Int)], []) else none else none else none else none : Option (Ans N)) =
        numA i (if valB b 0 ((s.drop (i + o)).take n) < 18446744073709551616 then (0, o + n, valB b 0 ((s.drop (i + o)).take n)) else (5, 0, 0)) := by
      rw [if_pos (by omega), if_pos (by omega), if_pos (by omega), if_pos (by omega), Int.toNat_natCast, Int.toNat_natCast, take_drop, e63 (k + 1) b hb _ (by
        intro h
        have := congrArg List.length h
        rw [List.length_take, List.length_drop] at this
        simp at this; omega) hall (by rw [List.length_take, List.length_drop]; omega)]
      by_cases hv : valB b 0 ((s.drop (i + o)).take n) < 18446744073709551616
      · rw [if_pos hv, if_pos hv, Option.bind_some, res63_eq1, if_pos rfl, Nat.add_assoc]; rfl
      · rw [if_neg hv, if_neg hv, Option.bind_some, res63_eq0, if_neg (by simp)]; rfl
    by_cases hlt : i + o + n < s.length
    · rw [if_pos (by omega), if_pos (by omega), if_pos (by omega), e45 k, Option.bind_some, res45_eq]
      rw [decide_eq_true (show i + (o + n) < s.length by omega), Bool.true_and] at hg
      rw [hg]
      have ei : i + o + n = i + (o + n) := Nat.add_assoc _ _ _
      by_cases hp : PI ((s.getD (i + (o + n)) 0).toNat : Int) = true
      · rw [if_pos hp, if_pos (by rw [Int.toNat_natCast, ei]; exact hp)]; rfl
      · rw [if_neg hp, if_neg (by rw [Int.toNat_natCast, ei]; exact hp)]
        exact parse
    · rw [if_neg (by omega)]
      rw [decide_eq_false (show ¬ i + (o + n) < s.length by omega), Bool.false_and] at hg
      rw [if_neg (show ¬ goesOn (s.drop (i + (o + n))) = true by rw [hg]; simp)]
      exact parse

end Go.Proofs.YtpcieagmnllimaaDoor
