import Derived.Test.YtpcieagmnllimaaDoorS5
set_option linter.all false
namespace Go.Proofs.YtpcieagmnllimaaDoor
open Go Go.RowKit Go.Vm
/-! #### punctuation, tokens -/
def TWOS : List (List UInt8) := [[(45 : UInt8), (62 : UInt8)], [(46 : UInt8), (46 : UInt8)], [(60 : UInt8), (60 : UInt8)], [(62 : UInt8), (62 : UInt8)], [(61 : UInt8), (61 : UInt8)], [(33 : UInt8), (61 : UInt8)], [(60 : UInt8), (61 : UInt8)], [(62 : UInt8), (61 : UInt8)], [(38 : UInt8), (38 : UInt8)], [(124 : UInt8), (124 : UInt8)]]
def ONES : List UInt8 := [(40 : UInt8), (41 : UInt8), (123 : UInt8), (125 : UInt8), (91 : UInt8), (93 : UInt8), (44 : UInt8), (59 : UInt8), (58 : UInt8), (61 : UInt8), (43 : UInt8), (45 : UInt8), (42 : UInt8), (47 : UInt8), (37 : UInt8), (38 : UInt8), (124 : UInt8), (94 : UInt8), (126 : UInt8), (33 : UInt8), (60 : UInt8), (62 : UInt8), (63 : UInt8), (35 : UInt8)]
def ONEL : List (List UInt8) := ONES.map fun c => [c]
def puF (l : List UInt8) : Nat := if 2 ≤ l.length ∧ l.take 2 ∈ TWOS then 2 else if l.getD 0 0 ∈ ONES then 1 else 0
theorem puF_le (l : List UInt8) (h : l ≠ []) : puF l ≤ l.length := by
  have : 1 ≤ l.length := by cases l with | nil => exact absurd rfl h | cons => simp
  unfold puF; split <;> try split
  all_goals omega
theorem e48 (k : Nat) (l : List UInt8) (hl : l ≠ []) (hk : 1020 ≤ k) : evF T k 48 [.str l] [] = some ([.int .i64 (puF l : Nat)], []) := by
  obtain ⟨k, rfl⟩ : ∃ k', k = k' + 2 := ⟨k - 2, by omega⟩
  have h1 : 1 ≤ l.length := by cases l with | nil => exact absurd rfl hl | cons => simp
  have e37 : evF T (k + 1) 37 [.vsl none .str TWOS, .str (l.take 2)] [] = some ([.bool (decide (l.take 2 ∈ TWOS))], []) := eHas (l.take 2) TWOS (by decide) (k + 1) (by omega)
  have e40' : evF T (k + 1) 40 [.str ONES, .int .u8 ((l.getD 0 0).toNat : Int)] [] = some ([.int .i64 (Lib.indexByte ONES (l.getD 0 0))], []) := by
    rw [e40, Int.toNat_natCast, back8]
  have one : ((evF T (k + 1) 40 [.str ONES, .int .u8 ((l.getD 0 0).toNat : Int)] []).bind fun r => res40 r fun y2 => if y2 ≥ (0 : Int) then some ([.int .i64 (1 : Int)], []) else some ([.int .i64 (0 : Int)], []) : Option (Ans N)) = some ([.int .i64 ((if l.getD 0 0 ∈ ONES then 1 else 0 : Nat) : Int)], []) := by
    rw [e40', Option.bind_some, res40_eq]
    by_cases h : l.getD 0 0 ∈ ONES
    · rw [if_pos ((indexByte_mem _ _).mpr h), if_pos h]; rfl
    · rw [if_neg (fun h' => h ((indexByte_mem _ _).mp h')), if_neg h]; rfl
  rw [f48_eq]
  unfold puF
  by_cases h2 : 2 ≤ l.length
  · rw [if_pos (by omega), if_pos (by omega), if_pos (by omega), if_pos (by omega), if_pos (by omega)]
    refine (congrArg (fun z : Option (Ans N) => z.bind _) e37).trans ?_
    rw [Option.bind_some, res37_eq]
    by_cases hm : l.take 2 ∈ TWOS
    · rw [if_pos (decide_eq_true hm), if_pos ⟨h2, hm⟩]; rfl
    · rw [if_neg (by simpa using hm), if_pos (by omega), if_pos (by omega), if_neg (fun h => hm h.2)]
      exact one
  · rw [if_neg (by omega), if_pos (by omega), if_pos (by omega), if_neg (fun h => h2 h.1)]
    exact one
/-- A token at the beginning: an error or 0, its kind, how many bytes it takes, its number. -/
def tokF (l : List UInt8) : Int × Int × Nat × Nat :=
  if LI ((l.getD 0 0).toNat : Int) = true then
    (if 64 < endF PI l then (5, 0, 0, 0) else (0, if KWF (l.take (endF PI l)) = true then 2 else 1, endF PI l, 0))
  else if DI ((l.getD 0 0).toNat : Int) = true then
    (if (numF l).1 = 0 then (0, 3, (numF l).2.1, (numF l).2.2) else ((numF l).1, 0, 0, 0))
  else if puF l = 0 then (4, 0, 0, 0) else (0, 4, puF l, 0)
theorem getD_drop0 (s : List UInt8) (i : Nat) : (s.drop i).getD 0 0 = s.getD i 0 := by
  simp [List.getD, List.getElem?_drop]
theorem numF_err (l : List UInt8) : ((numF l).1 = 0) ∨ (((numF l).1 = 4 ∨ (numF l).1 = 5) ∧ (numF l).2 = (0, 0)) := by
  unfold numF
  split
  · exact .inr ⟨.inl rfl, rfl⟩
  · split
    · exact .inr ⟨.inl rfl, rfl⟩
    · split
      · exact .inl rfl
      · exact .inr ⟨.inr rfl, rfl⟩
theorem numF_le (l : List UInt8) : (numF l).2.1 ≤ l.length := by
  have h1 := bsF_le l
  have h2 := endF_le (digP (bsF l).1) (l.drop (bsF l).2)
  rw [List.length_drop] at h2
  unfold numF
  split
  · exact Nat.zero_le _
  · split
    · exact Nat.zero_le _
    · split
      · show (bsF l).2 + _ ≤ _; omega
      · exact Nat.zero_le _
theorem numF_pos (l : List UInt8) (h : (numF l).1 = 0) : 1 ≤ (numF l).2.1 := by
  unfold numF at h ⊢
  split at h
  · exact absurd h (by simp)
  · rename_i h0
    rw [if_neg h0]
    split at h
    · exact absurd h (by simp)
    · rename_i h1
      rw [if_neg h1]
      split at h
      · rename_i h2
        rw [if_pos h2]; show 1 ≤ (bsF l).2 + _; omega
      · exact absurd h (by simp)
theorem tokF_le (l : List UInt8) (h : l ≠ []) : (tokF l).2.2.1 ≤ l.length := by
  have h1 := endF_le PI l
  have h2 := numF_le l
  have h3 := puF_le l h
  unfold tokF
  split
  · split
    · exact Nat.zero_le _
    · exact h1
  · split
    · split
      · exact h2
      · exact Nat.zero_le _
    · split
      · exact Nat.zero_le _
      · exact h3
theorem tokF_pos (l : List UInt8) (hl : l ≠ []) (h : (tokF l).1 = 0) : 1 ≤ (tokF l).2.2.1 := by
  unfold tokF at h ⊢
  split at h
  · rename_i h0
    rw [if_pos h0]
    split at h
    · exact absurd h (by simp)
    · rename_i h1
      rw [if_neg h1]
      show 1 ≤ endF PI l
      cases l with
      | nil => exact absurd rfl hl
      | cons c l =>
        have hp : PI (c.toNat : Int) = true := by unfold PI; rw [show LI (c.toNat : Int) = true from h0]; rfl
        rw [endF, if_pos hp]; omega
  · rename_i h0
    rw [if_neg h0]
    split at h
    · rename_i h1
      rw [if_pos h1]
      split at h
      · rename_i h2
        rw [if_pos h2]; exact numF_pos l h2
      · rename_i h2
        exact absurd h h2
    · rename_i h1
      rw [if_neg h1]
      split at h
      · exact absurd h (by simp)
      · rename_i h2
        rw [if_neg h2]; show 1 ≤ puF l; omega
theorem tokF_range (l : List UInt8) : 0 ≤ (tokF l).1 ∧ (tokF l).1 ≤ 5 := by
  have := numF_err l
  unfold tokF
  repeat' split
  all_goals (dsimp only; omega)
/-- lexer.next. -/
theorem eNext (s : List UInt8) (hs : s.length ≤ 281474976710656) (i k : Nat) (hi : i < s.length) (hk : s.length + 1100 ≤ k) :
    ((tokF (s.drop i)).1 = 0 → evF T k 28 [.str s, .int .i64 i] [] = some ([.agg [.int .i64 (tokF (s.drop i)).2.1, .str ((s.drop i).take (tokF (s.drop i)).2.2.1), .int .u64 ((tokF (s.drop i)).2.2.2 : Nat), .int .i64 i, .int .i64 0], .int .i64 0], [])) ∧
    ((tokF (s.drop i)).1 ≠ 0 → ∃ a b c d f, evF T k 28 [.str s, .int .i64 i] [] = some ([.agg [.int .i64 a, .str b, .int .u64 c, .int .i64 d, .int .i64 f], .int .i64 (tokF (s.drop i)).1], [])) := by
  obtain ⟨k, rfl⟩ : ∃ k', k = k' + 3 := ⟨k - 3, by omega⟩
  have hc : s.drop i ≠ [] := by rw [drop_at hi]; simp
  have hE := endF_le PI (s.drop i)
  rw [List.length_drop] at hE
  have hA := f28_eq (k + 2) s i
  rw [if_pos (by omega), if_pos (by omega), Int.toNat_natCast, e44 (k + 1), Option.bind_some, res44_eq] at hA
  by_cases hL : LI ((s.getD i 0).toNat : Int) = true
  · rw [if_pos hL, eEnd s (by omega) i (k + 2) (by omega) (by omega), Option.bind_some, res42_eq, w64 (by omega) (by omega)] at hA
    have ht : tokF (s.drop i) = if 64 < endF PI (s.drop i) then (5, 0, 0, 0) else (0, if KWF ((s.drop i).take (endF PI (s.drop i))) = true then 2 else 1, endF PI (s.drop i), 0) := by
      unfold tokF; rw [getD_drop0, if_pos hL]
    generalize endF PI (s.drop i) = n at hE hA ht
    by_cases h64 : 64 < n
    · rw [if_pos (by omega)] at hA
      rw [if_pos h64] at ht
      rw [ht, hA]
      refine ⟨fun h => absurd h (by simp), fun _ => ⟨_, _, _, _, _, rfl⟩⟩
    · rw [if_neg (by omega), if_pos (by omega), if_pos (by omega), if_pos (by omega), if_pos (by omega), Int.toNat_natCast, take_drop, eKW (k + 2) _ (by rw [List.length_take, List.length_drop]; omega) (by omega), Option.bind_some, res22_eq] at hA
      rw [if_neg h64] at ht
      rw [ht, hA]
      refine ⟨fun _ => ?_, fun h => absurd rfl h⟩
      by_cases hk : KWF ((s.drop i).take n) = true
      · rw [if_pos hk, if_pos hk]; rfl
      · rw [if_neg hk, if_neg hk]; rfl
  · rw [if_neg hL, if_pos (by omega), if_pos (by omega), e46 (k + 1), Option.bind_some, res46_eq] at hA
    by_cases hD : DI ((s.getD i 0).toNat : Int) = true
    · rw [if_pos hD, eNum s hs i (k + 2) hi (by omega)] at hA
      unfold numA at hA
      rw [Option.bind_some, res47_eq] at hA
      have hN := numF_le (s.drop i)
      rw [List.length_drop] at hN
      rw [if_pos (by omega), if_pos (by omega), if_pos (by omega), if_pos (by omega), Int.toNat_natCast, take_drop] at hA
      have ht : tokF (s.drop i) = if (numF (s.drop i)).1 = 0 then (0, 3, (numF (s.drop i)).2.1, (numF (s.drop i)).2.2) else ((numF (s.drop i)).1, 0, 0, 0) := by
        unfold tokF; rw [getD_drop0, if_neg hL, if_pos hD]
      by_cases h0 : (numF (s.drop i)).1 = 0
      · rw [if_pos h0] at ht
        rw [ht, hA]
        exact ⟨fun _ => by rw [h0], fun h => absurd rfl h⟩
      · rw [if_neg h0] at ht
        rw [ht, hA]
        exact ⟨fun h => absurd h h0, fun _ => ⟨_, _, _, _, _, rfl⟩⟩
    · have hP := puF_le (s.drop i) hc
      rw [List.length_drop] at hP
      rw [if_neg hD, if_pos (by omega), if_pos (by omega), if_pos (by omega), if_pos (by omega), Int.toNat_natCast, List.take_of_length_le (Nat.le_refl _), e48 (k + 2) _ hc (by omega), Option.bind_some, res48_eq, w64 (by omega) (by omega), if_pos (by omega), if_pos (by omega), if_pos (by omega), if_pos (by omega), show ((i : Int) + (puF (s.drop i) : Int)).toNat = i + puF (s.drop i) by omega, take_drop] at hA
      have ht : tokF (s.drop i) = if puF (s.drop i) = 0 then (4, 0, 0, 0) else (0, 4, puF (s.drop i), 0) := by
        unfold tokF; rw [getD_drop0, if_neg hL, if_neg hD]
      generalize puF (s.drop i) = n at hP hA ht
      by_cases h0 : n = 0
      · rw [if_pos (by omega)] at hA
        rw [if_pos h0] at ht
        rw [ht, hA]
        exact ⟨fun h => absurd h (by simp), fun _ => ⟨_, _, _, _, _, rfl⟩⟩
      · rw [if_neg (by omega)] at hA
        rw [if_neg h0] at ht
        rw [ht, hA]
        exact ⟨fun _ => rfl, fun h => absurd rfl h⟩

end Go.Proofs.YtpcieagmnllimaaDoor
