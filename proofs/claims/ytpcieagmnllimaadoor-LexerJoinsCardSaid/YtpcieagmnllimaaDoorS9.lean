import Derived.Test.YtpcieagmnllimaaDoorS8
set_option linter.all false
namespace Go.Proofs.YtpcieagmnllimaaDoor
open Go Go.RowKit Go.Vm
/-! #### words -/
theorem kw_len : ∀ w ∈ KWS, w.length ≤ 64 := by decide
/-- The first token of a text without tokens ahead. -/
theorem lexI_end (s : List UInt8) (f line old i : Nat) (acc : List S29) (h : s.length ≤ i) : lexI s (f + 1) line old i acc = (acc, s.length, 0) := by
  rw [lexI, if_neg (by omega)]
theorem endF_app (p : Int → Bool) : ∀ (l r : List UInt8), (∀ c ∈ l, p (c.toNat : Int) = true) → endF p (l ++ r) = l.length + endF p r
  | [], r, _ => by simp
  | c :: l, r, h => by
    rw [List.cons_append, endF, if_pos (h c (by simp)), endF_app p l r (fun c hc => h c (by simp [hc]))]
    simp; omega
theorem skF_word {c : UInt8} {l : List UInt8} (h : PI (c.toNat : Int) = true) : skF false (c :: l) = 0 := by
  have hb : ¬ BL (c.toNat : Int) = true := by
    unfold PI LI DI at h; unfold BL; simp at h ⊢; omega
  have hc : [47, 47].isPrefixOf (c :: l) = false := by
    have h47 : ¬ (47 : UInt8) = c := by rintro rfl; revert h; decide
    simp [List.isPrefixOf, h47]
  rw [skF, if_neg hb, hc]; rfl
theorem LexF_word (s : List UInt8) (h0 : s ≠ []) (hL : LI ((s.getD 0 0).toNat : Int) = true) (hP : ∀ c ∈ s, PI (c.toNat : Int) = true) (hs : s.length ≤ 100) :
    LexF ([32] ++ s ++ [32]) = if 64 < s.length then ([], 1, 5) else ([⟨if KWF s = true then 2 else 1, s, 0, 1, 1⟩], s.length + 2, 0) := by
  obtain ⟨c, t, rfl⟩ : ∃ c t, s = c :: t := by cases s with | nil => exact absurd rfl h0 | cons c t => exact ⟨c, t, rfl⟩
  have hlen : ([32] ++ (c :: t) ++ [32]).length = (c :: t).length + 2 := by simp
  have hd1 : ([32] ++ (c :: t) ++ [32] : List UInt8).drop 1 = (c :: t) ++ [32] := rfl
  have hp32 : ¬ PI (((32 : UInt8).toNat : Nat) : Int) = true := by decide
  have hE : endF PI ((c :: t) ++ [32]) = (c :: t).length := by
    rw [endF_app PI _ _ hP, endF, if_neg hp32]; rfl
  have hsk : skF false ([32] ++ (c :: t) ++ [32]) = 1 := by
    have hb : BL (((32 : UInt8).toNat : Nat) : Int) = true := by decide
    show skF false (32 :: ((c :: t) ++ [32])) = 1
    rw [skF, if_pos hb]
    show skF false (c :: (t ++ [32])) + 1 = 1
    rw [skF_word (hP c (by simp))]
  have htok : tokF ((c :: t) ++ [32]) = if 64 < (c :: t).length then (5, 0, 0, 0) else (0, if KWF (c :: t) = true then 2 else 1, (c :: t).length, 0) := by
    unfold tokF
    have e0 : ((c :: t) ++ [(32 : UInt8)]).getD 0 0 = (c :: t).getD 0 0 := rfl
    rw [e0, if_pos hL, hE, List.take_left' rfl]
  unfold LexF
  rw [if_neg (by rw [hlen]; omega), hlen, hsk, lexI, if_pos (by rw [hlen]; omega), hd1, htok]
  by_cases h64 : 64 < (c :: t).length
  · rw [if_pos h64, if_pos h64]; rfl
  · rw [if_neg h64, if_neg h64]
    dsimp only
    rw [if_pos rfl]
    have hdn : ([32] ++ (c :: t) ++ [32] : List UInt8).drop (1 + (c :: t).length) = [32] := by
      rw [← List.drop_drop, hd1, List.drop_left']; rfl
    have hsk2 : skF false [32] = 1 := by decide
    have hcnt : cntF ([32] ++ (c :: t) ++ [32]) 0 1 = 0 := rfl
    rw [hdn, hsk2, hcnt, List.take_left' rfl, lexI_end _ _ _ _ _ _ (by rw [hlen]; omega), hlen]
    rfl
theorem l7_ok (s : List UInt8) (h0 : s ≠ []) (hs : s.length ≤ 100) (k : Nat) (hk : 3000 ≤ k) : ∀ (n i m : Nat), s.length - i ≤ n → i ≤ s.length → n < m →
    (∀ j, j < i → (if j = 0 then LI ((s.getD 0 0).toNat : Int) else PI ((s.getD j 0).toNat : Int)) = true) → l7_0 k m s i = some ([.bool true], []) := by
  intro n
  induction n with
  | zero =>
    intro i m h1 h2 h3 hall
    obtain ⟨m, rfl⟩ : ∃ m', m = m' + 1 := ⟨m - 1, by omega⟩
    have hpos : 0 < s.length := List.length_pos_iff.mpr h0
    have hL : LI ((s.getD 0 0).toNat : Int) = true := by simpa using hall 0 (by omega)
    have hP : ∀ c ∈ s, PI (c.toNat : Int) = true := by
      intro c hc
      obtain ⟨j, hj, rfl⟩ := List.getElem_of_mem hc
      have := hall j (by omega)
      have e : s.getD j 0 = s[j] := by simp [List.getD, List.getElem?_eq_getElem hj]
      rw [e] at this
      by_cases hj0 : j = 0
      · subst hj0
        rw [if_pos rfl, e] at this
        unfold PI; rw [this]; rfl
      · rw [if_neg hj0] at this; exact this
    rw [l7_0_eq, if_neg (by omega)]
    unfold chk
    rw [if_pos (show strOK _ _ by unfold strOK; simp; omega), if_pos (show strOK _ _ by unfold strOK; simp; omega), eLex _ k (by simp; omega), LexF_word s h0 hL hP hs]
    by_cases h64 : 64 < s.length
    · rw [if_pos h64, lexA_bind, if_pos (by omega)]; rfl
    · rw [if_neg h64, lexA_bind, if_neg (by omega), eRKW k s (by omega), Option.bind_some, res19_eq]
      by_cases hw : KWF s = true
      · rw [if_pos hw, if_pos hw, j7_0_eq]
        simp
      · rw [if_neg hw, if_neg hw, j7_0_eq]
        simp
  | succ n ih =>
    intro i m h1 h2 h3 hall
    obtain ⟨m, rfl⟩ : ∃ m', m = m' + 1 := ⟨m - 1, by omega⟩
    by_cases hi : i < s.length
    case neg => exact ih i (m + 1) (by omega) h2 (by omega) hall
    obtain ⟨k', rfl⟩ : ∃ k', k = k' + 2 := ⟨k - 2, by omega⟩
    have hc : (s.getD i 0).toNat < 256 := UInt8.toNat_lt _
    have e18' := e18 (k' + 1) _ 10 hc (.inl rfl)
    rw [l7_0_eq, if_pos (by omega), if_pos (by omega), if_pos (by omega), Int.toNat_natCast, e17 (k' + 1), Option.bind_some, res17_eq]
    have go : (if i = 0 then LI ((s.getD 0 0).toNat : Int) else PI ((s.getD i 0).toNat : Int)) = true → l7_0 (k' + 2) m s (wrap64 ((i : Int) + 1)) = some ([.bool true], []) := fun h => by
      rw [w64 (by omega) (by omega)]
      refine ih (i + 1) m (by omega) (by omega) (by omega) (fun j hj => ?_)
      by_cases hji : j = i
      · subst hji; exact h
      · exact hall j (by omega)
    by_cases hL : LI ((s.getD i 0).toNat : Int) = true
    · rw [if_neg (by rw [hL]; simp)]
      refine go ?_
      by_cases h : i = 0
      · rw [if_pos h]; rw [h] at hL; exact hL
      · rw [if_neg h]; unfold PI; rw [hL]; rfl
    · rw [if_pos (by simpa using hL)]
      by_cases h : i = 0
      · rw [if_pos (by omega)]
      · rw [if_neg (by omega), if_pos (by omega), if_pos (by omega), show (10 : Int) = ((10 : Nat) : Int) from rfl, e18', Option.bind_some, res18_eq]
        unfold dgI
        by_cases hd : dv (s.getD i 0).toNat < 10
        · rw [if_pos hd, if_neg (by omega)]
          refine go ?_
          rw [if_neg h]
          unfold PI
          rw [DI_dig]
          unfold digP
          rw [Int.toNat_natCast, decide_eq_true hd, Bool.or_true]
        · rw [if_neg hd, if_pos (by omega)]
theorem pWords (s : List UInt8) : ∃ k, evF T k 7 [.str s] [] = some ([.bool true], []) := by
  refine ⟨4000 + 1, ?_⟩
  rw [f7_eq, eAw _ (by omega), Option.bind_some, res11_eq, if_neg (by decide)]
  by_cases h0 : (s.length : Int) = 0
  · rw [if_pos h0, Option.bind_some, res11_eq]
  · rw [if_neg h0]
    by_cases h : (s.length : Int) > 100
    · rw [if_pos h, Option.bind_some, res11_eq]
    · rw [if_neg h]
      exact l7_ok s (fun e => h0 (by rw [e]; rfl)) (by omega) 4000 (by omega) s.length 0 4000 (by omega) (by omega) (by omega) (fun j hj => by omega)

end Go.Proofs.YtpcieagmnllimaaDoor
