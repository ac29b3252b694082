import Derived.Test.YtpcieagmnllimaaDoorS8
set_option linter.all false
namespace Go.Proofs.YtpcieagmnllimaaDoor
open Go Go.RowKit Go.Vm
theorem lexI_end0 (s : List UInt8) (f line old i : Nat) (acc : List S29) (h : s.length ≤ i) : lexI s (f + 1) line old i acc = (acc, s.length, 0) := by
  rw [lexI, if_neg (by omega)]
theorem one2' (s : List UInt8) (i : Nat) (hi : i < s.length) : (s.drop i).take 1 = [s.getD i 0] := by rw [drop_at hi]; rfl
/-! #### what the tokens are, told without the lexer's loop -/
def Good (s : List UInt8) : Nat → Nat → Nat → List S29 → Prop
  | p, _, _, [] => p + skF false (s.drop p) = s.length
  | p, line, old, x :: l => p + skF false (s.drop p) < s.length ∧ (tokF (s.drop (p + skF false (s.drop p)))).1 = 0 ∧
      x = ⟨(tokF (s.drop (p + skF false (s.drop p)))).2.1, (s.drop (p + skF false (s.drop p))).take (tokF (s.drop (p + skF false (s.drop p)))).2.2.1, ((tokF (s.drop (p + skF false (s.drop p)))).2.2.2 : Nat), ((p + skF false (s.drop p) : Nat) : Int), ((line + cntF s old (p + skF false (s.drop p)) : Nat) : Int)⟩ ∧
      Good s (p + skF false (s.drop p) + (tokF (s.drop (p + skF false (s.drop p)))).2.2.1) (line + cntF s old (p + skF false (s.drop p))) (p + skF false (s.drop p)) l
theorem lexI_good (s : List UInt8) : ∀ (f line old p : Nat) (acc : List S29), p ≤ s.length → s.length - p < f → (lexI s f line old (p + skF false (s.drop p)) acc).2.2 = 0 →
    ∃ l, lexI s f line old (p + skF false (s.drop p)) acc = (acc ++ l, s.length, 0) ∧ Good s p line old l := by
  intro f
  induction f with
  | zero => intro line old p acc hp h; omega
  | succ f ih =>
    intro line old p acc hp hf h0
    have hk := skF_le false (s.drop p)
    rw [List.length_drop] at hk
    by_cases hi : p + skF false (s.drop p) < s.length
    · have hne : s.drop (p + skF false (s.drop p)) ≠ [] := by rw [drop_at hi]; simp
      rw [lexI, if_pos hi] at h0 ⊢
      by_cases ht : (tokF (s.drop (p + skF false (s.drop p)))).1 = 0
      · have hpos := tokF_pos _ hne ht
        have hle := tokF_le _ hne
        rw [List.length_drop] at hle
        rw [if_pos ht] at h0 ⊢
        obtain ⟨l, h1, h2⟩ := ih _ _ (p + skF false (s.drop p) + (tokF (s.drop (p + skF false (s.drop p)))).2.2.1) _ (by omega) (by omega) h0
        exact ⟨_ :: l, by rw [h1, List.append_assoc]; rfl, hi, ht, rfl, h2⟩
      · rw [if_neg ht] at h0
        exact absurd h0 ht
    · rw [lexI_end0 _ _ _ _ _ _ (by omega)]
      refine ⟨[], by simp, ?_⟩
      show p + skF false (s.drop p) = s.length
      omega
theorem good_lexI (s : List UInt8) : ∀ (l : List S29) (f line old p : Nat) (acc : List S29), p ≤ s.length → s.length - p < f → Good s p line old l → lexI s f line old (p + skF false (s.drop p)) acc = (acc ++ l, s.length, 0)
  | [], f, line, old, p, acc, hp, hf, h => by
    have h : p + skF false (s.drop p) = s.length := h
    obtain ⟨f, rfl⟩ : ∃ f', f = f' + 1 := ⟨f - 1, by omega⟩
    rw [lexI_end0 _ _ _ _ _ _ (by omega)]; simp
  | x :: l, f, line, old, p, acc, hp, hf, h => by
    obtain ⟨hi, ht, hx, hg⟩ := h
    obtain ⟨f, rfl⟩ : ∃ f', f = f' + 1 := ⟨f - 1, by omega⟩
    have hne : s.drop (p + skF false (s.drop p)) ≠ [] := by rw [drop_at hi]; simp
    have hpos := tokF_pos _ hne ht
    have hle := tokF_le _ hne
    rw [List.length_drop] at hle
    rw [lexI, if_pos hi, if_pos ht, good_lexI s l f _ _ _ _ (by omega) (by omega) hg, hx, List.append_assoc]
    rfl
theorem LexF_good (s : List UInt8) (hs : s.length ≤ 65536) (h : (LexF s).2.2 = 0) : LexF s = ((LexF s).1, s.length, 0) ∧ Good s 0 1 0 (LexF s).1 := by
  unfold LexF at h ⊢
  rw [if_neg (by omega)] at h ⊢
  have e : skF false s = 0 + skF false (s.drop 0) := by simp
  rw [e] at h ⊢
  obtain ⟨l, h1, h2⟩ := lexI_good s (s.length + 1) 1 0 0 [] (by omega) (by omega) h
  rw [h1]
  exact ⟨rfl, h2⟩
theorem good_LexF (s : List UInt8) (hs : s.length ≤ 65536) (l : List S29) (h : Good s 0 1 0 l) : LexF s = (l, s.length, 0) := by
  unfold LexF
  rw [if_neg (by omega)]
  have e : skF false s = 0 + skF false (s.drop 0) := by simp
  rw [e, good_lexI s l (s.length + 1) 1 0 0 [] (by omega) (by omega) h]
  rfl
/-! #### the places -/
theorem numF_text (l : List UInt8) (h : (numF l).1 = 0) : ∀ c ∈ l.take (numF l).2.1, c ≠ 10 := by
  have hn : (numF l).2.1 = (bsF l).2 + endF (digP (bsF l).1) (l.drop (bsF l).2) := by
    unfold numF at h ⊢
    split at h
    · exact absurd h (by simp)
    · rename_i h0
      rw [if_neg h0]
      split at h
      · exact absurd h (by simp)
      · rename_i h1
        rw [if_neg h1]
        split at h
        · rename_i h2
          rw [if_pos h2]
        · exact absurd h (by simp)
  have hall := endF_all (digP (bsF l).1) (l.drop (bsF l).2)
  have hB := bsF_base l
  rw [hn]
  intro c hc
  have hc2 : c ∈ l.take (bsF l).2 ∨ c ∈ (l.drop (bsF l).2).take (endF (digP (bsF l).1) (l.drop (bsF l).2)) := by
    rw [List.take_add] at hc
    exact List.mem_append.mp hc
  rcases hc2 with hc | hc
  · unfold bsF at hc
    have pre : ∀ b : UInt8, b ≠ 10 → [48, b].isPrefixOf l = true → c ∈ l.take 2 → c ≠ 10 := by
      intro b hb hp hc
      match l, hp with
      | [x], hp => exact absurd hp (by simp [List.isPrefixOf])
      | x :: y :: t, hp =>
        simp [List.isPrefixOf] at hp
        obtain ⟨rfl, rfl⟩ := hp
        have hc : c ∈ [48, b] := hc
        rcases List.mem_cons.mp hc with rfl | hc
        · decide
        · rcases List.mem_cons.mp hc with rfl | hc
          · exact hb
          · exact absurd hc (by simp)
    split at hc
    · exact pre 120 (by decide) ‹_› hc
    · split at hc
      · exact pre 98 (by decide) ‹_› hc
      · simp at hc
  · have := hall c hc
    rintro rfl
    unfold digP at this
    rw [Int.toNat_natCast] at this
    have h2 := of_decide_eq_true this
    have h3 : dv (10 : UInt8).toNat = 99 := by decide
    rw [h3] at h2
    unfold isBase at hB; omega
theorem tokF_text (l : List UInt8) (hl : l ≠ []) (h : (tokF l).1 = 0) : ∀ c ∈ l.take (tokF l).2.2.1, c ≠ 10 := by
  unfold tokF at h ⊢
  by_cases hL : LI ((l.getD 0 0).toNat : Int) = true
  · rw [if_pos hL] at h ⊢
    by_cases h64 : 64 < endF PI l
    · rw [if_pos h64] at h; exact absurd h (by simp)
    · rw [if_neg h64]
      intro c hc
      have := endF_all PI l c hc
      rintro rfl
      revert this; decide
  · rw [if_neg hL] at h ⊢
    by_cases hD : DI ((l.getD 0 0).toNat : Int) = true
    · rw [if_pos hD] at h ⊢
      by_cases h0 : (numF l).1 = 0
      · rw [if_pos h0]; exact numF_text l h0
      · rw [if_neg h0] at h; exact absurd h h0
    · rw [if_neg hD] at h ⊢
      by_cases hp : puF l = 0
      · rw [if_pos hp] at h; exact absurd h (by simp)
      · rw [if_neg hp]
        show ∀ c ∈ l.take (puF l), c ≠ 10
        unfold puF at hp ⊢
        by_cases h2 : 2 ≤ l.length ∧ l.take 2 ∈ TWOS
        · rw [if_pos h2]
          have : ∀ w ∈ TWOS, ∀ c ∈ w, c ≠ 10 := by decide
          exact this _ h2.2
        · rw [if_neg h2] at hp ⊢
          by_cases h1 : l.getD 0 0 ∈ ONES
          · rw [if_pos h1]
            have : ∀ c ∈ ONES, c ≠ 10 := by decide
            cases l with
            | nil => exact absurd rfl hl
            | cons x t =>
              intro c hc
              have hc : c ∈ [x] := hc
              rw [List.mem_singleton] at hc
              rw [hc]; exact this _ h1
          · rw [if_neg h1] at hp; exact absurd rfl hp
theorem cntF_split (s : List UInt8) (a b c : Nat) (h1 : a ≤ b) (h2 : b ≤ c) : cntF s a c = cntF s a b + cntF s b c := by
  unfold cntF Lib.countByte
  rw [← List.count_append]
  congr 1
  have e1 : (s.take c).drop a = (s.drop a).take (c - a) := List.drop_take
  have e2 : (s.take b).drop a = (s.drop a).take (b - a) := List.drop_take
  have e3 : (s.take c).drop b = (s.drop b).take (c - b) := List.drop_take
  rw [e1, e2, e3, show c - a = (b - a) + (c - b) by omega, List.take_add, List.drop_drop, show a + (b - a) = b by omega]
theorem cntF_none (s : List UInt8) (i n : Nat) (h : ∀ c ∈ (s.drop i).take n, c ≠ 10) : cntF s i (i + n) = 0 := by
  unfold cntF Lib.countByte
  rw [take_drop]
  exact List.count_eq_zero.mpr (fun hm => h _ hm rfl)
theorem l4_1_ok (s : List UInt8) (hs : s.length ≤ 65536) (k m0 i idx : Nat) (l : List S29) (b0 : Int) (b1 : List UInt8) (b2 b4 : Int) (hi : i ≤ s.length) : ∀ (n line at_ m : Nat), i - at_ ≤ n → at_ ≤ i → n < m → line ≤ at_ + 1 →
    l4_1 k m0 m s l at_ line idx b0 b1 b2 i b4 = if b4 ≠ ((line + cntF s at_ i : Nat) : Int) then some ([.bool false], []) else l4_0 k m0 s l (wrap64 ((i : Int) + (b1.length : Int))) ((line + cntF s at_ i : Nat) : Int) (wrap64 ((idx : Int) + 1)) := by
  intro n
  induction n with
  | zero =>
    intro line at_ m h1 h2 h3 h4
    obtain rfl : at_ = i := by omega
    obtain ⟨m, rfl⟩ : ∃ m', m = m' + 1 := ⟨m - 1, by omega⟩
    have : cntF s at_ at_ = 0 := by have := cntF_le s at_ at_; omega
    rw [l4_1_eq, if_neg (by omega), this]; rfl
  | succ n ih =>
    intro line at_ m h1 h2 h3 h4
    by_cases hlt : at_ < i
    case neg => exact ih line at_ m (by omega) h2 (by omega) h4
    obtain ⟨m, rfl⟩ : ∃ m', m = m' + 1 := ⟨m - 1, by omega⟩
    have hcnt : cntF s at_ i = (if ((s.getD at_ 0).toNat : Int) = 10 then 1 else 0) + cntF s (at_ + 1) i := by
      rw [cntF_split s at_ (at_ + 1) i (by omega) (by omega)]
      congr 1
      unfold cntF Lib.countByte
      rw [take_drop, one2' s at_ (by omega)]
      by_cases h : s.getD at_ 0 = 10
      · rw [h]; rfl
      · rw [if_neg (fun e => h (UInt8.toNat_inj.mp (show (s.getD at_ 0).toNat = (10 : UInt8).toNat by show (s.getD at_ 0).toNat = 10; omega)))]
        exact List.count_eq_zero.mpr (fun hm => h (List.mem_singleton.mp hm).symm)
    rw [l4_1_eq, if_pos (by omega), if_pos (by omega), if_pos (by omega), Int.toNat_natCast, w64 (x := (at_ : Int) + 1) (by omega) (by omega), hcnt]
    by_cases hc : ((s.getD at_ 0).toNat : Int) = 10
    · rw [if_pos hc, if_pos hc, w64 (by omega) (by omega)]
      have := ih (line + 1) (at_ + 1) m (by omega) (by omega) (by omega) (by omega)
      rw [show line + (1 + cntF s (at_ + 1) i) = line + 1 + cntF s (at_ + 1) i by omega]
      exact this
    · rw [if_neg hc, if_neg hc]
      have := ih line (at_ + 1) m (by omega) (by omega) (by omega) (by omega)
      rw [(cntF s (at_ + 1) i).zero_add]
      exact this
theorem l4_ok (s : List UInt8) (hs : s.length ≤ 65536) (l : List S29) (hl : l.length ≤ 65536) (k : Nat) (hk : s.length + 1000 ≤ k) : ∀ (n idx m at_ line old : Nat), l.length - idx ≤ n → n < m → idx ≤ l.length → at_ ≤ s.length → old ≤ at_ → line ≤ at_ + 1 → cntF s old at_ = 0 → Good s at_ line old (l.drop idx) → l4_0 k m s l at_ line idx = some ([.bool true], []) := by
  intro n
  induction n with
  | zero =>
    intro idx m at_ line old h1 h2 h3 h4 h5 h6 h7 hg
    obtain ⟨m, rfl⟩ : ∃ m', m = m' + 1 := ⟨m - 1, by omega⟩
    rw [List.drop_eq_nil_of_le (by omega)] at hg
    have hg : at_ + skF false (s.drop at_) = s.length := hg
    rw [l4_0_eq, if_neg (by omega), eRSkip s (by omega) at_ k h4 (by omega), Option.bind_some, res14_eq, hg, decide_eq_true rfl]
  | succ n ih =>
    intro idx m at_ line old h1 h2 h3 h4 h5 h6 h7 hg
    obtain ⟨m, rfl⟩ : ∃ m', m = m' + 1 := ⟨m - 1, by omega⟩
    by_cases hlt : idx < l.length
    case neg => exact ih idx (m + 1) at_ line old (by omega) (by omega) h3 h4 h5 h6 h7 hg
    have hd : l.drop idx = l.getD idx z29 :: l.drop (idx + 1) := by
      rw [List.drop_eq_getElem_cons hlt]; congr 1; simp [List.getD, List.getElem?_eq_getElem hlt]
    rw [hd] at hg
    obtain ⟨hi, ht, hx, hg⟩ := hg
    have hS := eRSkip s (by omega) at_ k h4 (by omega)
    generalize hii : at_ + skF false (s.drop at_) = i at *
    have hne : s.drop i ≠ [] := by rw [drop_at hi]; simp
    have hpos := tokF_pos _ hne ht
    have hle := tokF_le _ hne
    have htx := tokF_text _ hne ht
    rw [List.length_drop] at hle
    generalize (tokF (s.drop i)).2.2.1 = q at *
    have hq : ((s.drop i).take q).length = q := by rw [List.length_take, List.length_drop]; omega
    have hcs : cntF s old i = cntF s at_ i := by rw [cntF_split s old at_ i h5 (by omega), h7, Nat.zero_add]
    rw [hcs] at hg hx
    have h41 := l4_1_ok s hs k m i idx l (tokF (s.drop i)).2.1 ((s.drop i).take q) ((tokF (s.drop i)).2.2.2 : Nat) ((line + cntF s at_ i : Nat) : Int) (by omega) (i - at_) line at_ k (Nat.le_refl _) (by omega) (by omega) h6
    have hC := cntF_le s at_ i
    have h0 : cntF s i (i + q) = 0 := cntF_none s i q htx
    have hn0 : ¬ (s.drop i).take q = [] := fun e => by
      have := congrArg List.length e
      rw [hq] at this; simp at this; omega
    have hih := ih (idx + 1) m (i + q) (line + cntF s at_ i) i (by omega) (by omega) (by omega) (by omega) (by omega) (by omega) h0 hg
    rw [l4_0_eq, if_pos (by omega), if_pos (by omega), if_pos (by omega), Int.toNat_natCast, hx]
    dsimp only
    rw [hq] at h41 ⊢
    have d1 : ¬ ((i : Int) < (at_ : Int)) := by omega
    have d2 : ¬ (((i + q : Nat) : Int) > (s.length : Int)) := by omega
    have d3 : (0 : Int) ≤ ((i + q : Nat) : Int) := by omega
    have d4 : ((i + q : Nat) : Int) ≤ (s.length : Int) := by omega
    have d5 : (0 : Int) ≤ (i : Int) := by omega
    have d6 : (i : Int) ≤ ((i + q : Nat) : Int) := by omega
    have c1 : wrap64 ((i : Int) + (q : Int)) = ((i + q : Nat) : Int) := by rw [w64 (by omega) (by omega)]; omega
    have c2 : wrap64 ((idx : Int) + 1) = ((idx + 1 : Nat) : Int) := wi1 idx (Nat.lt_of_le_of_lt h3 (Nat.lt_of_le_of_lt hl (by decide)))
    rw [c1] at h41 ⊢
    rw [if_neg d1, if_neg d2, if_neg hn0, if_pos d3, if_pos d4, if_pos d5, if_pos d6, Int.toNat_natCast, Int.toNat_natCast, take_drop, if_neg (fun h => h rfl), hS, Option.bind_some, res14_eq, if_neg (fun h => h rfl), h41, if_neg (fun h => h rfl), c2, hih]
theorem pPlaces (s : List UInt8) : ∃ k, evF T k 4 [.str s] [] = some ([.bool true], []) := by
  refine ⟨s.length + 4000 + 1, ?_⟩
  rw [f4_eq, eAw _ (by omega), Option.bind_some, res11_eq, if_neg (by decide)]
  by_cases h : (s.length : Int) > 2000
  · rw [if_pos h, Option.bind_some, res11_eq]
  · have hl := LexF_len s
    rw [if_neg h, eLex s _ (by omega), lexA_bind]
    by_cases h0 : (LexF s).2.2 = 0
    · obtain ⟨_, hg⟩ := LexF_good s (by omega) h0
      rw [if_neg (fun h => h h0)]
      exact l4_ok s (by omega) _ (by omega) _ (by omega) (LexF s).1.length 0 _ 0 1 0 (by omega) (by omega) (by omega) (by omega) (by omega) (by omega) (by have := cntF_le s 0 0; omega) hg
    · rw [if_pos h0]

end Go.Proofs.YtpcieagmnllimaaDoor
