import Derived.Test.YtojlhbckfkpjhaaDoorS4
set_option linter.all false
namespace Go.Proofs.YtojlhbckfkpjhaaDoor
open Go Go.RowKit Go.Vm
/-! ### nodes -/
def nodeF (y : List UInt8) (l : List Int) : Option S37 :=
  if y = wSplit ∧ 1 ≤ l.length then some ⟨1, l.getD 0 0, l.drop 1, [], 0, 0, 0⟩
  else if y = wWalk then some ⟨2, 0, [], l, 0, 0, 0⟩
  else if y = wFull ∧ l.length = 3 then some ⟨3, 0, [], [], l.getD 0 0, l.getD 1 0, l.getD 2 0⟩
  else if y = wLong ∧ l.length = 1 then some ⟨4, l.getD 0 0, [], [], 0, 0, 0⟩
  else none
def nodeV (o : Option S37) : Ans N := ([.agg [.int .i64 (o.getD z37).f0, .int .i64 (o.getD z37).f1, .vsl none (.int .i64) (o.getD z37).f2, .vsl none (.int .i64) (o.getD z37).f3, .int .i64 (o.getD z37).f4, .int .i64 (o.getD z37).f5, .int .i64 (o.getD z37).f6], .bool o.isSome], [])
def lineF (s : List UInt8) : Option S37 := (rdF s).bind fun p => nodeF p.1 p.2
theorem ne_words : wSplit ≠ wWalk ∧ wSplit ≠ wFull ∧ wSplit ≠ wLong ∧ wWalk ≠ wFull ∧ wWalk ≠ wLong ∧ wFull ≠ wLong := by decide
theorem f24_false (k : Nat) {s y : List UInt8} {l : List Int} (h : evF T k 23 [.str s] [] = some ([.str y, .vsl none (.int .i64) l, .bool false], [])) : evF T (k + 1) 24 [.str s] [] = some (nodeV none) := by
  rw [f24_eq, h, Option.bind_some, res23_eq]
  simp only [Bool.false_eq_true, if_false]
  rfl
theorem f24_true (k : Nat) {s y : List UInt8} {l : List Int} (h : evF T k 23 [.str s] [] = some ([.str y, .vsl none (.int .i64) l, .bool true], [])) : evF T (k + 1) 24 [.str s] [] = some (nodeV (nodeF y l)) := by
  obtain ⟨n1, n2, n3, n4, n5, n6⟩ := ne_words
  rw [f24_eq, h, Option.bind_some, res23_eq]
  clear h
  have q0 : (0 : Int) ≤ 0 := Int.le_refl 0
  have q1 : (0 : Int) ≤ 1 := by decide
  have q2 : (0 : Int) ≤ 2 := by decide
  by_cases hs : y = wSplit
  · subst hs
    by_cases c : 1 ≤ l.length
    · have e : nodeF wSplit l = some ⟨1, l.getD 0 0, l.drop 1, [], 0, 0, 0⟩ := by unfold nodeF; rw [if_pos ⟨rfl, c⟩]
      rw [e, if_pos rfl, if_pos rfl, if_pos (by omega), if_pos q0, if_pos (by omega), chk_ok (by omega), chk_ok (Int.le_refl _), if_pos (by omega), if_pos (by omega), if_pos q1, if_pos (by omega), Int.toNat_natCast, List.take_length]
      rfl
    · have e : nodeF wSplit l = none := by unfold nodeF; rw [if_neg (fun h => c h.2), if_neg n1, if_neg (fun h => n2 h.1), if_neg (fun h => n3 h.1)]
      rw [e, if_pos rfl, if_pos rfl, if_neg (by omega), if_pos rfl, if_neg n1, if_pos rfl, if_neg n2, if_pos rfl, if_neg n3]
      rfl
  · by_cases hw : y = wWalk
    · have e : nodeF y l = some ⟨2, 0, [], l, 0, 0, 0⟩ := by unfold nodeF; rw [if_neg (fun h => hs h.1), if_pos hw]
      rw [e, if_pos rfl, if_neg hs, if_pos rfl, if_pos hw]; rfl
    · by_cases hf : y = wFull
      · subst hf
        by_cases c : l.length = 3
        · have e : nodeF wFull l = some ⟨3, 0, [], [], l.getD 0 0, l.getD 1 0, l.getD 2 0⟩ := by unfold nodeF; rw [if_neg (fun h => hs h.1), if_neg hw, if_pos ⟨rfl, c⟩]
          rw [e, if_pos rfl, if_neg hs, if_pos rfl, if_neg hw, if_pos rfl, if_pos rfl, if_pos (by omega), if_pos q0, if_pos (by omega), if_pos q1, if_pos (by omega), if_pos q2, if_pos (by omega)]
          rfl
        · have e : nodeF wFull l = none := by unfold nodeF; rw [if_neg (fun h => hs h.1), if_neg hw, if_neg (fun h => c h.2), if_neg (fun h => n6 h.1)]
          rw [e, if_pos rfl, if_neg hs, if_pos rfl, if_neg hw, if_pos rfl, if_pos rfl, if_neg (by omega), if_pos rfl, if_neg n6]
          rfl
      · by_cases hl : y = wLong
        · subst hl
          by_cases c : l.length = 1
          · have e : nodeF wLong l = some ⟨4, l.getD 0 0, [], [], 0, 0, 0⟩ := by unfold nodeF; rw [if_neg (fun h => hs h.1), if_neg hw, if_neg (fun h => hf h.1), if_pos ⟨rfl, c⟩]
            rw [e, if_pos rfl, if_neg hs, if_pos rfl, if_neg hw, if_pos rfl, if_neg hf, if_pos rfl, if_pos rfl, if_pos (by omega), if_pos q0, if_pos (by omega)]
            rfl
          · have e : nodeF wLong l = none := by unfold nodeF; rw [if_neg (fun h => hs h.1), if_neg hw, if_neg (fun h => hf h.1), if_neg (fun h => c h.2)]
            rw [e, if_pos rfl, if_neg hs, if_pos rfl, if_neg hw, if_pos rfl, if_neg hf, if_pos rfl, if_pos rfl, if_neg (by omega)]
            rfl
        · have e : nodeF y l = none := by unfold nodeF; rw [if_neg (fun h => hs h.1), if_neg hw, if_neg (fun h => hf h.1), if_neg (fun h => hl h.1)]
          rw [e, if_pos rfl, if_neg hs, if_pos rfl, if_neg hw, if_pos rfl, if_neg hf, if_pos rfl, if_neg hl]
          rfl
theorem e24 (k : Nat) {s : List UInt8} (h : s.length ≤ 70000) (hk : 70010 ≤ k) : evF T (k + 3) 24 [.str s] [] = some (nodeV (lineF s)) := by
  have e := e23 k h hk
  unfold lineF
  cases hr : rdF s with
  | none => rw [hr] at e; exact f24_false (y := []) (l := []) (k + 2) e
  | some p => rw [hr] at e; exact f24_true (k + 2) e
/-- A node whose fields that do not belong to its kind are zero. -/
def plainN (n : S37) : S37 := if n.f0 = 1 then ⟨n.f0, n.f1, n.f2, [], 0, 0, 0⟩ else if n.f0 = 2 then ⟨n.f0, 0, [], n.f3, 0, 0, 0⟩ else if n.f0 = 3 then ⟨n.f0, 0, [], [], n.f4, n.f5, n.f6⟩ else ⟨n.f0, n.f1, [], [], 0, 0, 0⟩
def Good (n : S37) : Prop := NOk n ∧ known n ∧ plainN n = n
theorem r0 : inR 0 := ⟨by decide, by decide⟩
theorem node_good {y : List UInt8} {l : List Int} (hl : ∀ x ∈ l, inR x) (hn : l.length ≤ 70000) {n : S37} (h : nodeF y l = some n) : Good n := by
  have g : ∀ i, inR (l.getD i 0) := fun i => by
    by_cases c : i < l.length
    · exact hl _ (mem_getD c)
    · rw [List.getD_eq_getElem?_getD, List.getElem?_eq_none (by omega)]; exact r0
  have e : ∀ x ∈ ([] : List Int), inR x := fun x hx => absurd hx (by simp)
  unfold nodeF at h
  split at h
  · injection h with h; subst h
    exact ⟨⟨g 0, fun x hx => hl x (List.mem_of_mem_drop hx), e, r0, r0, r0, by show (l.drop 1).length ≤ _; rw [List.length_drop]; omega, Nat.zero_le _⟩, .inl rfl, rfl⟩
  · split at h
    · injection h with h; subst h
      exact ⟨⟨r0, e, hl, r0, r0, r0, Nat.zero_le _, hn⟩, .inr (.inl rfl), rfl⟩
    · split at h
      · injection h with h; subst h
        exact ⟨⟨r0, e, e, g 0, g 1, g 2, Nat.zero_le _, Nat.zero_le _⟩, .inr (.inr (.inl rfl)), rfl⟩
      · split at h
        · injection h with h; subst h
          exact ⟨⟨g 0, e, e, r0, r0, r0, Nat.zero_le _, Nat.zero_le _⟩, .inr (.inr (.inr rfl)), rfl⟩
        · exact absurd h (by simp)
theorem line_good {s : List UInt8} (hs : s.length ≤ 69999) {n : S37} (h : lineF s = some n) : Good n := by
  unfold lineF at h
  obtain ⟨p, hp, h⟩ := Option.bind_eq_some_iff.mp h
  obtain ⟨h1, h2⟩ := rdF_ok hp
  exact node_good h1 (by omega) h
/-! ### a text's last line feed -/
def trimN (s : List UInt8) : List UInt8 := if 1 ≤ s.length ∧ s.drop (s.length - 1) = [10] then s.take (s.length - 1) else s
theorem trimN_le (s : List UInt8) : (trimN s).length ≤ s.length := by
  unfold trimN; split
  · rw [List.length_take]; omega
  · exact Nat.le_refl _
theorem e22 (k : Nat) {s : List UInt8} (h : s.length ≤ 1000000) : evF T (k + 3) 22 [.str s, .str [10]] [] = some ([.str (trimN s)], []) := by
  have e49 : evF T (k + 1) 49 [.str s, .str [10]] [] = some ([.bool (decide (1 ≤ s.length ∧ s.drop (s.length - 1) = [10]))], []) := by
    rw [f49_eq]
    by_cases c : 1 ≤ s.length
    · have e : wrap64 ((s.length : Int) - (([10] : List UInt8).length : Int)) = ((s.length - 1 : Nat) : Int) := by
        rw [w64] <;> (show _ ; simp only [List.length_cons, List.length_nil]; omega)
      rw [if_pos (by show (s.length : Int) ≥ 1; omega), if_pos (by omega), if_pos (Int.le_refl _), e, if_pos (by omega), if_pos (by omega), Int.toNat_natCast, Int.toNat_natCast, List.take_length]
      simp only [c, true_and]
    · rw [if_neg (by show ¬ (s.length : Int) ≥ 1; omega), decide_eq_false (fun h => c h.1)]
  have e34 : evF T (k + 2) 34 [.str s, .str [10]] [] = some ([.str (trimN s)], []) := by
    rw [f34_eq, e49, Option.bind_some, res49_eq]
    unfold trimN
    by_cases c : 1 ≤ s.length ∧ s.drop (s.length - 1) = [10]
    · have e : wrap64 ((s.length : Int) - (([10] : List UInt8).length : Int)) = ((s.length - 1 : Nat) : Int) := by
        rw [w64] <;> (show _ ; simp only [List.length_cons, List.length_nil]; omega)
      rw [if_pos (decide_eq_true c), if_pos c, e, if_pos (by omega), if_pos (by omega), if_pos (Int.le_refl _), if_pos (by omega), Int.toNat_natCast]
      rfl
    · rw [if_neg (by rw [decide_eq_false c]; simp), if_neg c]
  rw [f22_eq, e34, Option.bind_some, res34_eq]

end Go.Proofs.YtojlhbckfkpjhaaDoor
