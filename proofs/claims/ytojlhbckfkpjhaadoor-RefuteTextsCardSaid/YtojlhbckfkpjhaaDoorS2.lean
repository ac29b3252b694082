import Derived.Test.YtojlhbckfkpjhaaDoorS1
set_option linter.all false
namespace Go.Proofs.YtojlhbckfkpjhaaDoor
open Go Go.RowKit Go.Vm
/-! ### the text of a refutation -/
@[reducible] def wInt : List UInt8 := [105, 110, 116, 101, 114, 118, 97, 108]
@[reducible] def wSplit : List UInt8 := [115, 112, 108, 105, 116]
@[reducible] def wWalk : List UInt8 := [119, 97, 108, 107]
@[reducible] def wFull : List UInt8 := [102, 117, 108, 108]
@[reducible] def wLong : List UInt8 := [108, 111, 110, 103]
/-- A node's word and numbers. -/
def word (n : S37) : List UInt8 := if n.f0 = 1 then wSplit else if n.f0 = 2 then wWalk else if n.f0 = 3 then wFull else wLong
def nums (n : S37) : List Int := if n.f0 = 1 then n.f1 :: n.f2 else if n.f0 = 2 then n.f3 else if n.f0 = 3 then [n.f4, n.f5, n.f6] else [n.f1]
def known (n : S37) : Prop := n.f0 = 1 ∨ n.f0 = 2 ∨ n.f0 = 3 ∨ n.f0 = 4
instance (n : S37) : Decidable (known n) := inferInstanceAs (Decidable (_ ∨ _))
def line (n : S37) : List UInt8 := word n ++ lst (nums n)
def body : List S37 → List UInt8
  | [] => []
  | n :: t => line n ++ [10] ++ body t
def text (ii : Int) (t : List S37) : List UInt8 := wInt ++ lst [ii] ++ [10] ++ body t
/-- A node whose numbers are ints, and whose lists are not long. -/
def NOk (n : S37) : Prop := inR n.f1 ∧ (∀ x ∈ n.f2, inR x) ∧ (∀ x ∈ n.f3, inR x) ∧ inR n.f4 ∧ inR n.f5 ∧ inR n.f6 ∧ n.f2.length ≤ 70000 ∧ n.f3.length ≤ 70000
theorem nums_ok {n : S37} (h : NOk n) : (∀ x ∈ nums n, inR x) ∧ (nums n).length ≤ 70001 := by
  obtain ⟨h1, h2, h3, h4, h5, h6, h7, h8⟩ := h
  unfold nums
  split
  · exact ⟨fun x hx => (List.mem_cons.mp hx).elim (fun e => e ▸ h1) (h2 x), by rw [List.length_cons]; omega⟩
  · split
    · exact ⟨h3, by omega⟩
    · split
      · refine ⟨fun x hx => ?_, by simp⟩
        simp only [List.mem_cons, List.not_mem_nil, or_false] at hx
        rcases hx with rfl | rfl | rfl <;> assumption
      · refine ⟨fun x hx => ?_, by simp⟩
        simp only [List.mem_cons, List.not_mem_nil, or_false] at hx
        subst hx; exact h1
theorem word_len (n : S37) : (word n).length ≤ 5 := by
  unfold word; split; decide; split; decide; split <;> decide
theorem line_len {n : S37} (h : NOk n) : (line n).length ≤ 1470030 := by
  obtain ⟨h1, h2⟩ := nums_ok h
  have h3 := lst_len h1
  have h4 := word_len n
  unfold line; rw [List.length_append]; omega
theorem body_append : ∀ t u : List S37, body (t ++ u) = body t ++ body u
  | [], _ => rfl
  | n :: t, u => by rw [List.cons_append, body, body, body_append t u, List.append_assoc, List.append_assoc, List.append_assoc]
theorem body_len : ∀ {t : List S37}, (∀ n ∈ t, NOk n) → (body t).length ≤ 1470031 * t.length
  | [], _ => Nat.le_refl _
  | n :: t, h => by
    have h1 := line_len (h n List.mem_cons_self)
    have h2 := body_len (t := t) fun m hm => h m (List.mem_cons_of_mem _ hm)
    rw [body, List.length_append, List.length_append, List.length_cons, List.length_cons, List.length_nil]; omega
theorem text_len {ii : Int} {t : List S37} (h0 : inR ii) (h : ∀ n ∈ t, NOk n) (hn : t.length ≤ 70000) : (text ii t).length ≤ 102902170100 := by
  have h1 := body_len h
  have h2 := lst_len (l := [ii]) (by simpa using h0)
  unfold text
  rw [List.length_append, List.length_append, List.length_append]
  have : (lst [ii]).length ≤ 21 := h2
  have : wInt.length = 8 := rfl
  have : ([10] : List UInt8).length = 1 := rfl
  omega
theorem take_succ37 {l : List S37} {i : Nat} (h : i < l.length) : l.take (i + 1) = l.take i ++ [l.getD i z37] := by
  rw [List.take_succ, List.getElem?_eq_getElem h, List.getD_eq_getElem?_getD, List.getElem?_eq_getElem h]; rfl
theorem mem37 {l : List S37} {i : Nat} (h : i < l.length) : l.getD i z37 ∈ l := by
  rw [List.getD_eq_getElem?_getD, List.getElem?_eq_getElem h]; exact List.getElem_mem h
theorem body_take {t : List S37} {i : Nat} (h : i < t.length) : body (t.take (i + 1)) = body (t.take i) ++ (line (t.getD i z37) ++ [10]) := by
  rw [take_succ37 h, body_append]
  show _ ++ (line _ ++ [10] ++ []) = _
  rw [List.append_nil]
theorem text_take {ii : Int} {t : List S37} {i : Nat} (h : i < t.length) : text ii (t.take (i + 1)) = text ii (t.take i) ++ (line (t.getD i z37) ++ [10]) := by
  unfold text
  rw [body_take h, List.append_assoc, List.append_assoc, List.append_assoc, List.append_assoc, List.append_assoc]
/-- The reference's Format. -/
theorem l8_ok (k : Nat) (ii : Int) {t : List S37} (h0 : inR ii) (ht : ∀ n ∈ t, NOk n) (hn : t.length ≤ 70000) : ∀ (m i : Nat), i ≤ t.length → t.length - i < m → (∀ j, j < i → known (t.getD j z37)) →
    l8_0 (k + 80000) m (text ii (t.take i)) (t.length : Int) (i : Int) ii t = some (if (∀ j, j < t.length → known (t.getD j z37)) then ([.str (text ii t), .bool true], []) else ([.str [], .bool false], []))
  | 0, _, _, h, _ => absurd h (by omega)
  | m + 1, i, hi, hm, hk => by
    rw [l8_0_eq]
    by_cases c : i < t.length
    · have hN := ht _ (mem37 c)
      obtain ⟨h1, h2, h3, h4, h5, h6, h7, h8⟩ := hN
      have hL := text_len (t := t.take i) h0 (fun n hn => ht n (List.mem_of_mem_take hn)) (by rw [List.length_take]; omega)
      have hl := line_len (ht _ (mem37 c))
      have a1 := itoa_len h1
      have a4 := itoa_len h4
      have a5 := itoa_len h5
      have a6 := itoa_len h6
      have b2 := lst_len h2
      have b3 := lst_len h3
      have go : known (t.getD i z37) → l8_0 (k + 80000) m (text ii (t.take i) ++ (line (t.getD i z37) ++ [10])) (t.length : Int) (wrap64 ((i : Int) + 1)) ii t = some (if (∀ j, j < t.length → known (t.getD j z37)) then ([.str (text ii t), .bool true], []) else ([.str [], .bool false], [])) := fun hi2 => by
        rw [w64 (x := (i : Int) + 1) (by omega) (by omega), ← text_take c]
        exact l8_ok k ii h0 ht hn m (i + 1) (by omega) (by omega) fun j hj => by
          by_cases e : j = i
          · subst e; exact hi2
          · exact hk j (by omega)
      rw [if_pos (by omega), if_pos (by omega), if_pos (by omega), Int.toNat_natCast i]
      by_cases c1 : (t.getD i z37).f0 = 1
      · have e : line (t.getD i z37) = wSplit ++ (32 :: (Lib.itoa (t.getD i z37).f1 ++ lst (t.getD i z37).f2)) := by unfold line word nums; rw [if_pos c1, if_pos c1]; rfl
        rw [if_pos c1, show k + 80000 = (k + 79980) + 20 from rfl, e19 _ h1, Option.bind_some, res19_eq, chk_ok (strOK_ok (by show 6 + _ ≤ _; omega)), show k + 79980 + 20 = (k + 79979) + 21 from rfl, e20 _ h2 (by omega) (by omega), Option.bind_some, res20_eq,
          chk_ok (strOK_ok (by rw [List.length_append]; show 6 + _ + _ ≤ _; omega)), chk_ok (strOK_ok (by rw [List.length_append, List.length_append]; show 6 + _ + _ + 1 ≤ _; omega)), chk_ok (strOK_ok (by rw [List.length_append, List.length_append, List.length_append]; show _ + (6 + _ + _ + 1) ≤ _; omega))]
        have := go (.inl c1)
        rw [e] at this
        have e2 : [115, 112, 108, 105, 116, 32] ++ Lib.itoa (t.getD i z37).f1 ++ lst (t.getD i z37).f2 ++ [(10 : UInt8)] = wSplit ++ (32 :: (Lib.itoa (t.getD i z37).f1 ++ lst (t.getD i z37).f2)) ++ [10] := by simp
        rw [e2]
        exact this
      · rw [if_neg c1]
        by_cases c2 : (t.getD i z37).f0 = 2
        · have e : line (t.getD i z37) = wWalk ++ lst (t.getD i z37).f3 := by unfold line word nums; rw [if_neg c1, if_pos c2, if_neg c1, if_pos c2]
          rw [if_pos c2, show k + 80000 = (k + 79979) + 21 from rfl, e20 _ h3 (by omega) (by omega), Option.bind_some, res20_eq, chk_ok (strOK_ok (by show 4 + _ ≤ _; omega)), chk_ok (strOK_ok (by rw [List.length_append]; show 4 + _ + 1 ≤ _; omega)), chk_ok (strOK_ok (by rw [List.length_append, List.length_append]; show _ + (4 + _ + 1) ≤ _; omega))]
          have := go (.inr (.inl c2))
          rw [e] at this
          exact this
        · rw [if_neg c2]
          by_cases c3 : (t.getD i z37).f0 = 3
          · have e : line (t.getD i z37) = wFull ++ (32 :: (Lib.itoa (t.getD i z37).f4 ++ (32 :: (Lib.itoa (t.getD i z37).f5 ++ (32 :: (Lib.itoa (t.getD i z37).f6 ++ [])))))) := by unfold line word nums; rw [if_neg c1, if_neg c2, if_pos c3, if_neg c1, if_neg c2, if_pos c3]; rfl
            rw [if_pos c3, show k + 80000 = (k + 79980) + 20 from rfl, e19 _ h4, Option.bind_some, res19_eq, chk_ok (strOK_ok (by show 5 + _ ≤ _; omega)), chk_ok (strOK_ok (by rw [List.length_append]; show 5 + _ + 1 ≤ _; omega)), e19 _ h5, Option.bind_some, res19_eq,
              chk_ok (strOK_ok (by simp only [List.length_append, List.length_cons, List.length_nil]; omega)), chk_ok (strOK_ok (by simp only [List.length_append, List.length_cons, List.length_nil]; omega)), e19 _ h6, Option.bind_some, res19_eq,
              chk_ok (strOK_ok (by simp only [List.length_append, List.length_cons, List.length_nil]; omega)), chk_ok (strOK_ok (by simp only [List.length_append, List.length_cons, List.length_nil]; omega)), chk_ok (strOK_ok (by simp only [List.length_append, List.length_cons, List.length_nil]; omega))]
            have := go (.inr (.inr (.inl c3)))
            rw [e] at this
            have e2 : [102, 117, 108, 108, 32] ++ Lib.itoa (t.getD i z37).f4 ++ [32] ++ Lib.itoa (t.getD i z37).f5 ++ [32] ++ Lib.itoa (t.getD i z37).f6 ++ [(10 : UInt8)] = wFull ++ (32 :: (Lib.itoa (t.getD i z37).f4 ++ (32 :: (Lib.itoa (t.getD i z37).f5 ++ (32 :: (Lib.itoa (t.getD i z37).f6 ++ [])))))) ++ [10] := by simp
            rw [e2]
            exact this
          · rw [if_neg c3]
            by_cases c4 : (t.getD i z37).f0 = 4
            · have e : line (t.getD i z37) = wLong ++ (32 :: (Lib.itoa (t.getD i z37).f1 ++ [])) := by unfold line word nums; rw [if_neg c1, if_neg c2, if_neg c3, if_neg c1, if_neg c2, if_neg c3]; rfl
              rw [if_pos c4, show k + 80000 = (k + 79980) + 20 from rfl, e19 _ h1, Option.bind_some, res19_eq, chk_ok (strOK_ok (by show 5 + _ ≤ _; omega)), chk_ok (strOK_ok (by rw [List.length_append]; show 5 + _ + 1 ≤ _; omega)), chk_ok (strOK_ok (by rw [List.length_append, List.length_append]; show _ + (5 + _ + 1) ≤ _; omega))]
              have := go (.inr (.inr (.inr c4)))
              rw [e] at this
              have e2 : [108, 111, 110, 103, 32] ++ Lib.itoa (t.getD i z37).f1 ++ [(10 : UInt8)] = wLong ++ (32 :: (Lib.itoa (t.getD i z37).f1 ++ [])) ++ [10] := by simp
              rw [e2]
              exact this
            · rw [if_neg c4, if_neg (fun h => (h i c).elim c1 (fun h => h.elim c2 (fun h => h.elim c3 c4)))]
    · have hi2 : i = t.length := by omega
      rw [if_neg (by omega), if_pos (fun j hj => hk j (by omega)), List.take_of_length_le (by omega)]
theorem e8 (k : Nat) {ii : Int} {t : List S37} (h0 : inR ii) (ht : ∀ n ∈ t, NOk n) (hn : t.length ≤ 70000) : evF T (k + 80001) 8 [.agg [.int .i64 ii, .vsl none (.named 37) t]] [] = some (if (∀ j, j < t.length → known (t.getD j z37)) then ([.str (text ii t), .bool true], []) else ([.str [], .bool false], [])) := by
  have a0 := itoa_len h0
  rw [f8_eq, show k + 80000 = (k + 79980) + 20 from rfl, e19 _ h0, Option.bind_some, res19_eq, chk_ok (strOK_ok (by show 9 + _ ≤ _; omega)), chk_ok (strOK_ok (by rw [List.length_append]; show 9 + _ + 1 ≤ _; omega))]
  have := l8_ok k ii h0 ht hn (k + 80000) 0 (by omega) (by omega) (fun j hj => absurd hj (by omega))
  have e : text ii (t.take 0) = [105, 110, 116, 101, 114, 118, 97, 108, 32] ++ Lib.itoa ii ++ [10] := by
    unfold text; simp [body, lst]
  rw [e] at this
  exact this

end Go.Proofs.YtojlhbckfkpjhaaDoor
