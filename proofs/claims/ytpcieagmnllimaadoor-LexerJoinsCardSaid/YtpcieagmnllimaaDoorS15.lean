import Derived.Test.YtpcieagmnllimaaDoorS14
set_option linter.all false
namespace Go.Proofs.YtpcieagmnllimaaDoor
open Go Go.RowKit Go.Vm
/-! #### the law of spaces -/
def noNL (s : List UInt8) : List UInt8 := s.filter fun c => decide ((c.toNat : Int) ≠ 10)
theorem l15_ok (k : Nat) (s : List UInt8) (hs : s.length ≤ 1000) : ∀ (n i m : Nat) (acc : List UInt8), s.length - i ≤ n → i ≤ s.length → n < m → acc.length ≤ i + 2 → l15_0 k m s acc i = some ([.str (acc ++ noNL (s.drop i) ++ [10])], []) := by
  intro n
  induction n with
  | zero =>
    intro i m acc h1 h2 h3 h4
    obtain ⟨m, rfl⟩ : ∃ m', m = m' + 1 := ⟨m - 1, by omega⟩
    rw [l15_0_eq, if_neg (by omega), List.drop_eq_nil_of_le (by omega)]
    unfold chk
    rw [if_pos (show strOK _ _ by unfold strOK; simp; omega)]
    simp [noNL]
  | succ n ih =>
    intro i m acc h1 h2 h3 h4
    by_cases hi : i < s.length
    case neg => exact ih i m acc (by omega) h2 (by omega) h4
    obtain ⟨m, rfl⟩ : ∃ m', m = m' + 1 := ⟨m - 1, by omega⟩
    have hw : wrap64 ((i : Int) + 1) = ((i + 1 : Nat) : Int) := wi1 i (by omega)
    have c1 : (0 : Int) ≤ ((i + 1 : Nat) : Int) := by omega
    have c2 : ((i + 1 : Nat) : Int) ≤ (s.length : Int) := by omega
    have c3 : (0 : Int) ≤ (i : Int) := by omega
    have c4 : (i : Int) ≤ ((i + 1 : Nat) : Int) := by omega
    have c5 : (i : Int) < (s.length : Int) := by omega
    have hs1 : strOK acc [s.getD i 0] := by unfold strOK; rw [List.length_singleton]; exact Nat.le_trans (Nat.add_le_add_right (Nat.le_trans h4 (Nat.add_le_add_right (Nat.le_trans h2 hs) 2)) 1) (by decide)
    have i1 := ih (i + 1) m (acc ++ [s.getD i 0]) (by clear hw; omega) (by clear hw; omega) (by clear hw; omega) (by rw [List.length_append, List.length_singleton]; clear hw; omega)
    have i2 := ih (i + 1) m acc (by clear hw; omega) (by clear hw; omega) (by clear hw; omega) (by clear hw; omega)
    rw [l15_0_eq, if_pos c5, if_pos c3, if_pos c5, Int.toNat_natCast, hw, drop_at hi]
    by_cases hc : ((s.getD i 0).toNat : Int) ≠ 10
    · rw [if_pos hc, if_pos c1, if_pos c2, if_pos c3, if_pos c4, Int.toNat_natCast, take_drop, one2' s i hi]
      unfold chk
      rw [if_pos hs1, i1]
      unfold noNL
      rw [List.filter_cons, if_pos (decide_eq_true hc)]
      simp
    · rw [if_neg hc, i2]
      unfold noNL
      rw [List.filter_cons, if_neg (by simpa using hc)]
theorem eComment (k : Nat) (s : List UInt8) (hs : s.length ≤ 1000) (hk : 1100 ≤ k) : evF T k 15 [.str s] [] = some ([.str ([47, 47] ++ noNL s ++ [10])], []) := by
  obtain ⟨k, rfl⟩ : ∃ k', k = k' + 1 := ⟨k - 1, by omega⟩
  rw [f15_eq]
  have := l15_ok k s hs s.length 0 k [47, 47] (by omega) (by omega) (by omega) (by simp)
  rw [List.drop_zero] at this
  exact this
theorem noNL_10 (s : List UInt8) : ∀ c ∈ noNL s, c ≠ 10 := by
  intro c hc
  unfold noNL at hc
  have := (List.mem_filter.mp hc).2
  rintro rfl
  exact absurd this (by decide)
theorem noNL_len (s : List UInt8) : (noNL s).length ≤ s.length := List.length_filter_le _ _
theorem l16_ok (k : Nat) (a b : List S29) (hab : a.map key = b.map key) (hl : a.length ≤ 65536) : ∀ (n i m : Nat), a.length - i ≤ n → i ≤ a.length → n < m → l16_0 k m a b i = some ([.bool true], []) := by
  have hlen : a.length = b.length := by have := congrArg List.length hab; simpa using this
  have hk : ∀ i, i < a.length → key (a.getD i z29) = key (b.getD i z29) := by
    intro i hi
    have h1 : (a.map key)[i]? = (b.map key)[i]? := by rw [hab]
    rw [List.getElem?_map, List.getElem?_map, List.getElem?_eq_getElem hi, List.getElem?_eq_getElem (hlen ▸ hi)] at h1
    have h2 : key a[i] = key b[i] := by simpa using h1
    simp only [List.getD, List.getElem?_eq_getElem hi, List.getElem?_eq_getElem (hlen ▸ hi), Option.getD_some]
    exact h2
  intro n
  induction n with
  | zero =>
    intro i m h1 h2 h3
    obtain ⟨m, rfl⟩ : ∃ m', m = m' + 1 := ⟨m - 1, by omega⟩
    rw [l16_0_eq, if_neg (by omega)]
  | succ n ih =>
    intro i m h1 h2 h3
    by_cases hi : i < a.length
    case neg => exact ih i m (by omega) h2 (by omega)
    obtain ⟨m, rfl⟩ : ∃ m', m = m' + 1 := ⟨m - 1, by omega⟩
    have hkk := hk i hi
    unfold key at hkk
    simp only [Prod.mk.injEq] at hkk
    obtain ⟨k0, k1, k2⟩ := hkk
    have c1 : (i : Int) < (a.length : Int) := by omega
    have c2 : (0 : Int) ≤ (i : Int) := by omega
    have c3 : (i : Int) < (b.length : Int) := by omega
    have hih := ih (i + 1) m (by omega) (by omega) (by omega)
    rw [l16_0_eq, if_pos c1, if_pos c2, if_pos c1, if_pos c2, if_pos c3, Int.toNat_natCast, if_neg (fun h => h k0), if_pos c2, if_pos c1, if_pos c2, if_pos c3, if_neg (fun h => h k1), if_pos c2, if_pos c1, if_pos c2, if_pos c3, if_neg (fun h => h k2), wi1 i (Nat.lt_of_lt_of_le hi (Nat.le_trans hl (by decide)))]
    exact hih
theorem eSame (k : Nat) (a b : List S29) (hab : a.map key = b.map key) (hl : a.length ≤ 65536) (hk : 65600 ≤ k) : evF T k 16 [.vsl none (.named 29) a, .vsl none (.named 29) b] [] = some ([.bool true], []) := by
  obtain ⟨k, rfl⟩ : ∃ k', k = k' + 1 := ⟨k - 1, by omega⟩
  have hlen : a.length = b.length := by have := congrArg List.length hab; simpa using this
  rw [f16_eq, if_neg (by omega)]
  exact l16_ok k a b hab hl a.length 0 k (by omega) (by omega) (by omega)
theorem mem_le_sum : ∀ (l : List Nat) (x : Nat), x ∈ l → x ≤ l.sum
  | y :: l, x, h => by
    rw [List.sum_cons]
    rcases List.mem_cons.mp h with rfl | h
    · omega
    · have := mem_le_sum l x h; omega
def endT : List UInt8 := [(32 : UInt8), (47 : UInt8), (47 : UInt8), (32 : UInt8), (101 : UInt8), (110 : UInt8), (100 : UInt8)]
theorem l5_ok (k : Nat) (hk : 80000 ≤ k) (x1 : List (List UInt8)) (l : List S29) (hl : l.length ≤ 2000) (hx1 : x1.length ≤ 50) (hT : ∀ x ∈ l, TokT x) (hsum : (l.map (fun x => x.f1.length)).sum ≤ 2000) :
    ∀ (n i m : Nat) (L : List (List UInt8 × S29)), l.length - i ≤ n → i ≤ l.length → n < m → L.map (·.2) = l.take i → (∀ q ∈ L, Gap q.1) → l5_0 k m x1 l (body L) i = some ([.bool true], []) := by
  -- the bound of what is built
  have bnd : ∀ (i : Nat) (L : List (List UInt8 × S29)), i ≤ l.length → L.map (·.2) = l.take i → (∀ q ∈ L, Gap q.1) → (body L).length ≤ 54000 := by
    intro i L hi hm hg
    have h1 := body_len L (fun q hq => (hg q hq).2.2)
    have h2 : L.length = i := by
      have := congrArg List.length hm
      rw [List.length_map, List.length_take] at this; omega
    have h3 : (L.map (fun q => q.2.f1.length)).sum ≤ 2000 := by
      have e : L.map (fun q => q.2.f1.length) = (l.take i).map (fun x => x.f1.length) := by rw [← hm, List.map_map]; rfl
      rw [e]
      have e2 : (l.map (fun x => x.f1.length)).sum = ((l.take i).map (fun x => x.f1.length)).sum + ((l.drop i).map (fun x => x.f1.length)).sum := by
        rw [← List.sum_append, ← List.map_append, List.take_append_drop]
      omega
    omega
  have each : ∀ x ∈ l, x.f1.length ≤ 2000 := by
    intro x hx
    have : x.f1.length ≤ (l.map (fun x => x.f1.length)).sum := mem_le_sum _ _ (List.mem_map.mpr ⟨x, hx, rfl⟩)
    omega
  -- a token behind a gap
  have join : ∀ (i m : Nat) (L : List (List UInt8 × S29)) (g : List UInt8), i < l.length → L.map (·.2) = l.take i → (∀ q ∈ L, Gap q.1) → Gap g → j5_0 k m x1 l (body L) i g = l5_0 k m x1 l (body (L ++ [(g, l.getD i z29)])) ((i + 1 : Nat) : Int) := by
    intro i m L g hi hm hg hG
    have hb := bnd i L (by omega) hm hg
    have hf := each (l.getD i z29) (by simp only [List.getD, List.getElem?_eq_getElem hi, Option.getD_some]; exact List.getElem_mem _)
    have hg26 := hG.2.2
    have e : body L ++ (g ++ (l.getD i z29).f1) = body (L ++ [(g, l.getD i z29)]) := by rw [body_app]; simp [body]
    rw [j5_0_eq, if_pos (by omega), if_pos (by omega), Int.toNat_natCast]
    unfold chk
    rw [if_pos (show strOK _ _ by unfold strOK; omega), if_pos (show strOK _ _ by unfold strOK; rw [List.length_append]; omega), wi1 i (by omega), e]
  intro n
  induction n with
  | zero =>
    intro i m L h1 h2 h3 hm hg
    obtain ⟨m, rfl⟩ : ∃ m', m = m' + 1 := ⟨m - 1, by omega⟩
    obtain rfl : i = l.length := by omega
    have hb := bnd _ L (Nat.le_refl _) hm hg
    rw [List.take_length] at hm
    have hLT : ∀ q ∈ L, Gap q.1 ∧ TokT q.2 := fun q hq => ⟨hg q hq, hT _ (by rw [← hm]; exact List.mem_map.mpr ⟨q, hq, rfl⟩)⟩
    obtain ⟨l', g1, g2⟩ := good_body (body L ++ endT) endT (by decide) ⟨32, _, rfl, by decide⟩ L [] 1 0 hLT (by simp)
    have hlen : (body L ++ endT).length ≤ 60000 := by
      rw [List.length_append]
      have : endT.length = 7 := rfl
      omega
    have hLx := good_LexF (body L ++ endT) (by omega) l' g1
    have hkey : l.map key = l'.map key := by rw [g2, ← hm, List.map_map]; rfl
    rw [l5_0_eq, if_neg (by omega)]
    unfold chk
    rw [if_pos (show strOK _ _ by unfold strOK; simp; omega)]
    have e12 := eLex (body L ++ endT) k (by omega)
    refine (congrArg (fun z : Option (Ans N) => z.bind _) e12).trans ?_
    rw [hLx, lexA_bind, if_pos rfl, eSame k l l' hkey (by omega) (by omega), Option.bind_some, res16_eq]
  | succ n ih =>
    intro i m L h1 h2 h3 hm hg
    by_cases hi : i < l.length
    case neg => exact ih i m L (by omega) h2 (by omega) hm hg
    obtain ⟨m, rfl⟩ : ∃ m', m = m' + 1 := ⟨m - 1, by omega⟩
    have hd : (l.take i) ++ [l.getD i z29] = l.take (i + 1) := by
      rw [List.take_add_one, List.getElem?_eq_getElem hi]
      simp only [List.getD, List.getElem?_eq_getElem hi, Option.getD_some, Option.toList]
    have go : ∀ g, Gap g → j5_0 k m x1 l (body L) i g = some ([.bool true], []) := by
      intro g hG
      rw [join i m L g hi hm hg hG]
      exact ih (i + 1) m (L ++ [(g, l.getD i z29)]) (by omega) (by omega) (by omega) (by rw [List.map_append, hm, List.map_singleton, hd]) (fun q hq => by
        rcases List.mem_append.mp hq with hq | hq
        · exact hg q hq
        · rw [List.mem_singleton.mp hq]; exact hG)
    rw [l5_0_eq, if_pos (by omega)]
    by_cases hx : i < x1.length
    · rw [if_pos (by omega), if_pos (by omega), if_pos (by omega), Int.toNat_natCast]
      by_cases h20 : ((x1.getD i []).length : Int) > 20
      · rw [if_pos h20]
      · have hF := noNL_len (x1.getD i [])
        rw [if_neg h20, if_pos (by omega), if_pos (by omega), eComment k _ (by omega) (by omega), Option.bind_some, res15_eq]
        unfold chk
        rw [if_pos (show strOK _ _ by unfold strOK; simp only [List.length_append, List.length_cons, List.length_nil]; omega), if_pos (show strOK _ _ by unfold strOK; simp only [List.length_append, List.length_cons, List.length_nil]; omega)]
        exact go _ (gap2 (noNL (x1.getD i [])) (noNL_10 _) (by omega))
    · rw [if_neg (by omega)]
      exact go _ gap1
theorem pSpaces (s : List UInt8) (x1 : List (List UInt8)) : ∃ k, evF T k 5 [.str s, .vsl none .str x1] [] = some ([.bool true], []) := by
  refine ⟨90000 + 1, ?_⟩
  rw [f5_eq, eAw _ (by omega), Option.bind_some, res11_eq, if_neg (by decide)]
  by_cases h : (s.length : Int) > 2000
  · rw [if_pos h, Option.bind_some, res11_eq]
  · rw [if_neg h]
    by_cases h50 : (x1.length : Int) > 50
    · rw [if_pos h50, Option.bind_some, res11_eq]
    · have hl := LexF_len s
      rw [if_neg h50, eLex s _ (by omega), lexA_bind]
      by_cases h0 : (LexF s).2.2 = 0
      · obtain ⟨_, hg⟩ := LexF_good s (by omega) h0
        obtain ⟨t1, t2⟩ := good_texts s _ 0 1 0 (by omega) hg
        rw [if_neg (fun h => h h0)]
        exact l5_ok 90000 (by omega) x1 _ (by omega) (by omega) t1 (by omega) (LexF s).1.length 0 90000 [] (by omega) (by omega) (by omega) rfl (fun q hq => absurd hq (by simp))
      · rw [if_pos h0]

end Go.Proofs.YtpcieagmnllimaaDoor
