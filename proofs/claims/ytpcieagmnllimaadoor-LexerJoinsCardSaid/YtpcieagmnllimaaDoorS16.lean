import Derived.Test.YtpcieagmnllimaaDoorS15
set_option linter.all false
namespace Go.Proofs.YtpcieagmnllimaaDoor
open Go Go.RowKit Go.Vm
/-! #### joined tokens -/
/-- A token's text at the end of a text, or with a blank behind it. -/
theorem tok_end (l : List UInt8) (hl : l ≠ []) (h : (tokF l).1 = 0) (u : List UInt8) (hu : u = [] ∨ ∃ r, u = 32 :: r) : tokF (l.take (tokF l).2.2.1 ++ u) = tokF l ∧ skF false (l.take (tokF l).2.2.1 ++ u) = 0 := by
  have hb : BL (((32 : UInt8).toNat : Nat) : Int) = true := by decide
  rcases hu with rfl | ⟨r, rfl⟩
  · have hpos := tokF_pos l hl h
    have hle := tokF_le l hl
    have hne : l.take (tokF l).2.2.1 ≠ [] := fun e => by
      have := congrArg List.length e
      rw [List.length_take, List.length_nil] at this; omega
    have h1 := tokF_self l hl h (r := []) hb
    rw [tokF_stop hb hne] at h1
    have h2 := skF_text l hl h (r := []) hb
    have h3 := skF_tail 1 false (l.take (tokF l).2.2.1)
    rw [List.append_nil]
    refine ⟨h1, ?_⟩
    rw [show (l.take (tokF l).2.2.1 ++ List.replicate 1 32) = l.take (tokF l).2.2.1 ++ 32 :: [] from rfl, h2] at h3
    split at h3 <;> omega
  · exact ⟨tokF_self l hl h hb, skF_text l hl h hb⟩
def jbody : List S29 → List UInt8
  | [] => []
  | x :: l => 32 :: (x.f1 ++ jbody l)
theorem jbody_end : ∀ l : List S29, jbody l = [] ∨ ∃ r, jbody l = 32 :: r
  | [] => .inl rfl
  | _ :: _ => .inr ⟨_, rfl⟩
theorem good_first (t : List UInt8) (x : S29) (hx : TokT x) (P u : List UInt8) (g : Nat) (line old : Nat) (hd : t.drop P.length = List.replicate g 32 ++ (x.f1 ++ u)) (hg : g ≤ 1) (hP : P.length ≤ t.length) (hu : u = [] ∨ ∃ r, u = 32 :: r) :
    ∃ x', key x' = key x ∧ ∃ line' old', ∀ l', Good t (P.length + g + x.f1.length) line' old' l' → Good t P.length line old (x' :: l') := by
  obtain ⟨l, hne, hok, k0, k1, k2⟩ := hx
  obtain ⟨e1, e2⟩ := tok_end l hne hok u hu
  rw [← k1] at e1 e2
  have hpos := tokF_pos l hne hok
  have hle := tokF_le l hne
  have hlen1 : x.f1.length = (tokF l).2.2.1 := by rw [k1, List.length_take]; omega
  have hsk : skF false (t.drop P.length) = g := by
    rw [hd]
    match g, hg with
    | 0, _ => exact e2
    | 1, _ =>
      have hb : BL (((32 : UInt8).toNat : Nat) : Int) = true := by decide
      show skF false (32 :: (x.f1 ++ u)) = 1
      rw [skF, if_pos hb, e2]
  have hd2 : t.drop (P.length + g) = x.f1 ++ u := by
    rw [← List.drop_drop, hd, List.drop_left' (by simp)]
  have htl : t.length = P.length + g + (x.f1.length + u.length) := by
    have := congrArg List.length hd
    rw [List.length_drop, List.length_append, List.length_replicate, List.length_append] at this
    omega
  refine ⟨⟨(tokF l).2.1, x.f1, ((tokF l).2.2.2 : Nat), ((P.length + g : Nat) : Int), ((line + cntF t old (P.length + g) : Nat) : Int)⟩, ?_, line + cntF t old (P.length + g), P.length + g, fun l' hg' => ?_⟩
  · unfold key; rw [k0, k2]
  · refine ⟨?_, ?_, ?_, ?_⟩
    · rw [hsk, htl]; omega
    · rw [hsk, hd2, e1]; exact hok
    · rw [hsk, hd2, e1]
      have e : (x.f1 ++ u).take (tokF l).2.2.1 = x.f1 := List.take_left' hlen1
      rw [e]
    · rw [hsk, hd2, e1, ← hlen1]; exact hg'
theorem good_j (t : List UInt8) : ∀ (r : List S29) (P : List UInt8) (line old : Nat), t = P ++ jbody r → (∀ x ∈ r, TokT x) → ∃ l', Good t P.length line old l' ∧ l'.map key = r.map key
  | [], P, line, old, ht, _ => ⟨[], by
      show P.length + skF false (t.drop P.length) = t.length
      rw [ht, jbody, List.append_nil, List.drop_length]; rfl, rfl⟩
  | x :: r, P, line, old, ht, hT => by
    have hd : t.drop P.length = List.replicate 1 32 ++ (x.f1 ++ jbody r) := by rw [ht, List.drop_left' rfl]; rfl
    obtain ⟨x', hk, line', old', hf⟩ := good_first t x (hT x (by simp)) P (jbody r) 1 line old hd (Nat.le_refl _) (by rw [ht]; simp) (jbody_end r)
    obtain ⟨l', h1, h2⟩ := good_j t r (P ++ (32 :: x.f1)) line' old' (by rw [ht, jbody]; simp) (fun y hy => hT y (by simp [hy]))
    have e : (P ++ (32 :: x.f1)).length = P.length + 1 + x.f1.length := by simp; omega
    rw [e] at h1
    exact ⟨x' :: l', hf l' h1, by rw [List.map_cons, List.map_cons, hk, h2]⟩
def joinT : List S29 → List UInt8
  | [] => []
  | x :: r => x.f1 ++ jbody r
theorem good_joinT (l : List S29) (hT : ∀ x ∈ l, TokT x) : ∃ l', Good (joinT l) 0 1 0 l' ∧ l'.map key = l.map key := by
  cases l with
  | nil => exact ⟨[], rfl, rfl⟩
  | cons x r =>
    obtain ⟨x', hk, line', old', hf⟩ := good_first (joinT (x :: r)) x (hT x (by simp)) [] (jbody r) 0 1 0 rfl (by omega) (by simp) (jbody_end r)
    obtain ⟨l', h1, h2⟩ := good_j (joinT (x :: r)) r x.f1 line' old' rfl (fun y hy => hT y (by simp [hy]))
    exact ⟨x' :: l', hf l' (by simpa using h1), by rw [List.map_cons, List.map_cons, hk, h2]⟩
theorem joinT_lib : ∀ l : List S29, Lib.join (l.map (·.f1)) [32] = joinT l
  | [] => rfl
  | x :: r => by
    rw [List.map_cons, Lib.join_cons, joinT]
    congr 1
    have : ∀ r : List S29, Lib.joinTail [32] (r.map (·.f1)) = jbody r := by
      intro r
      induction r with
      | nil => rfl
      | cons y r ih =>
        unfold Lib.joinTail at ih ⊢
        rw [List.map_cons, List.map_cons, List.flatten_cons, ih]; rfl
    exact this r
theorem jbody_len : ∀ r : List S29, (jbody r).length = r.length + (r.map (fun x => x.f1.length)).sum
  | [] => rfl
  | x :: r => by rw [jbody, List.length_cons, List.length_append, jbody_len r, List.map_cons, List.sum_cons, List.length_cons]; omega
theorem joinT_len (l : List S29) : (joinT l).length ≤ l.length + (l.map (fun x => x.f1.length)).sum := by
  cases l with
  | nil => exact Nat.le_refl _
  | cons x r => rw [joinT, List.length_append, jbody_len, List.map_cons, List.sum_cons, List.length_cons]; omega
theorem jbody_app : ∀ (r : List S29) (x : S29), jbody (r ++ [x]) = jbody r ++ (32 :: x.f1)
  | [], x => by simp [jbody]
  | y :: r, x => by rw [List.cons_append, jbody, jbody, jbody_app r x]; simp
theorem joinT_app (r : List S29) (x : S29) : joinT (r ++ [x]) = if r = [] then x.f1 else joinT r ++ (32 :: x.f1) := by
  cases r with
  | nil => simp [joinT, jbody]
  | cons y r => rw [List.cons_append, joinT, joinT, jbody_app, if_neg (by simp)]; simp
theorem take_succ' (l : List S29) (i : Nat) (hi : i < l.length) : l.take (i + 1) = l.take i ++ [l.getD i z29] := by
  rw [List.take_add_one, List.getElem?_eq_getElem hi]
  simp only [List.getD, List.getElem?_eq_getElem hi, Option.getD_some, Option.toList]
theorem l25_ok (k : Nat) (hk : 10 ≤ k) (l : List S29) (hl : l.length ≤ 2000) (hj : (joinT l).length ≤ 10000) : ∀ (n i m : Nat), l.length - i ≤ n → i ≤ l.length → n < m → l25_0 k m l l.length i ((l.take i).map (·.f1)) = some ([.str (joinT l)], []) := by
  intro n
  induction n with
  | zero =>
    intro i m h1 h2 h3
    obtain ⟨m, rfl⟩ : ∃ m', m = m' + 1 := ⟨m - 1, by omega⟩
    obtain ⟨k, rfl⟩ : ∃ k', k = k' + 1 := ⟨k - 1, by omega⟩
    obtain rfl : i = l.length := by omega
    rw [l25_0_eq, if_neg (by omega), List.take_length]
    have e : evF T (k + 1) 39 [.vsl none .str (l.map (·.f1)), .str [(32 : UInt8)]] [] = some ([.str (joinT l)], []) := by
      have e0 : evF T (k + 1) 39 [.vsl none .str (l.map (·.f1)), .str [(32 : UInt8)]] [] = xJoin [.vsl none .str (l.map (·.f1)), .str [(32 : UInt8)]] [] := rfl
      rw [e0]
      show (bif Nat.ble (l.map (·.f1)).length 140737488355328 && Nat.ble (Lib.join (l.map (·.f1)) [32]).length 140737488355328 then some ([PV.str (Lib.join (l.map (·.f1)) [32])], []) else none) = some ([PV.str (joinT l)], [])
      rw [joinT_lib]
      have a1 : Nat.ble (l.map (·.f1)).length 140737488355328 = true := by rw [Nat.ble_eq, List.length_map]; omega
      have a2 : Nat.ble (joinT l).length 140737488355328 = true := by rw [Nat.ble_eq]; omega
      rw [a1, a2]; rfl
    refine (congrArg (fun z : Option (Ans N) => z.bind _) e).trans ?_
    rfl
  | succ n ih =>
    intro i m h1 h2 h3
    by_cases hi : i < l.length
    case neg => exact ih i m (by omega) h2 (by omega)
    obtain ⟨m, rfl⟩ : ∃ m', m = m' + 1 := ⟨m - 1, by omega⟩
    have hll : ((l.take i).map (·.f1)).length = i := by rw [List.length_map, List.length_take]; omega
    have hih := ih (i + 1) m (by omega) (by omega) (by omega)
    rw [take_succ' l i hi, List.map_append, List.map_singleton] at hih
    rw [l25_0_eq, if_pos (by omega), if_pos (by omega), if_pos (by omega), Int.toNat_natCast]
    unfold chk
    rw [if_pos (show ((((l.take i).map (·.f1)).length + [(l.getD i z29).f1].length) * 16 ≤ 140737488355328) by rw [hll, List.length_singleton]; omega), wi1 i (by omega)]
    exact hih
theorem l26_ok (k : Nat) (l : List S29) (hl : l.length ≤ 2000) (hj : ∀ i, (joinT (l.take i)).length ≤ 10000) : ∀ (n i m : Nat), l.length - i ≤ n → i ≤ l.length → n < m → l26_0 k m l (joinT (l.take i)) i = some ([.str (joinT l)], []) := by
  intro n
  induction n with
  | zero =>
    intro i m h1 h2 h3
    obtain ⟨m, rfl⟩ : ∃ m', m = m' + 1 := ⟨m - 1, by omega⟩
    obtain rfl : i = l.length := by omega
    rw [l26_0_eq, if_neg (by omega), List.take_length]
  | succ n ih =>
    intro i m h1 h2 h3
    by_cases hi : i < l.length
    case neg => exact ih i m (by omega) h2 (by omega)
    obtain ⟨m, rfl⟩ : ∃ m', m = m' + 1 := ⟨m - 1, by omega⟩
    have hih := ih (i + 1) m (by omega) (by omega) (by omega)
    have hb := hj i
    have hb1 := hj (i + 1)
    have e := take_succ' l i hi
    rw [e, joinT_app] at hih hb1
    have step : ∀ X : List UInt8, X ++ (l.getD i z29).f1 = (if l.take i = [] then (l.getD i z29).f1 else joinT (l.take i) ++ (32 :: (l.getD i z29).f1)) → X.length ≤ 10001 → j26_0 k m l X i = some ([.str (joinT l)], []) := by
      intro X hX hXl
      have hf : (l.getD i z29).f1.length ≤ 10000 := by
        have := congrArg List.length hX
        rw [List.length_append] at this
        omega
      rw [j26_0_eq, if_pos (by omega), if_pos (by omega), Int.toNat_natCast]
      unfold chk
      rw [if_pos (show strOK _ _ by unfold strOK; omega), wi1 i (by omega), hX]
      exact hih
    rw [l26_0_eq, if_pos (by omega)]
    by_cases h0 : i = 0
    · have ht : l.take i = [] := by rw [h0, List.take_zero]
      rw [if_neg (by omega)]
      refine step _ ?_ (by omega)
      rw [if_pos ht, ht]; rfl
    · have ht : l.take i ≠ [] := fun h => by
        have := congrArg List.length h
        rw [List.length_take, List.length_nil] at this; omega
      rw [if_pos (by omega)]
      unfold chk
      rw [if_pos (show strOK _ _ by unfold strOK; rw [List.length_singleton]; omega)]
      refine step _ ?_ (by rw [List.length_append, List.length_singleton]; omega)
      rw [if_neg ht]; simp
theorem lexI_err (s : List UInt8) : ∀ (f line old i : Nat) (acc : List S29), i ≤ s.length → s.length - i < f → (lexI s f line old i acc).2.2 ≠ 0 → (lexI s f line old i acc).1 = [] ∧ (lexI s f line old i acc).2.1 ≤ s.length
  | 0, _, _, _, _, _, h, _ => by omega
  | f + 1, line, old, i, acc, hi0, hf, h => by
    rw [lexI] at h ⊢
    by_cases hi : i < s.length
    · rw [if_pos hi] at h ⊢
      have hne : s.drop i ≠ [] := by rw [drop_at hi]; simp
      by_cases h0 : (tokF (s.drop i)).1 = 0
      · rw [if_pos h0] at h ⊢
        have hpos := tokF_pos (s.drop i) hne h0
        have hle := tokF_le (s.drop i) hne
        have hk := skF_le false (s.drop (i + (tokF (s.drop i)).2.2.1))
        rw [List.length_drop] at hle hk
        exact lexI_err s f _ _ _ _ (by omega) (by omega) h
      · rw [if_neg h0] at h ⊢; exact ⟨rfl, Nat.le_of_lt hi⟩
    · rw [if_neg hi] at h; exact absurd rfl h
theorem pJoins (s : List UInt8) : ∃ k, evF T k 10 [.str s] [] = some ([.bool true], []) := by
  refine ⟨90000 + 1, ?_⟩
  rw [f10_eq, eAw _ (by omega), Option.bind_some, res11_eq, if_neg (by decide)]
  by_cases h : (s.length : Int) > 2000
  · rw [if_pos h, Option.bind_some, res11_eq]
  · have hl := LexF_len s
    rw [if_neg h, eLex s _ (by omega), lexA_bind]
    by_cases h0 : (LexF s).2.2 = 0
    · obtain ⟨_, hg⟩ := LexF_good s (by omega) h0
      obtain ⟨t1, t2⟩ := good_texts s _ 0 1 0 (by omega) hg
      generalize (LexF s).1 = l at *
      have hjl := joinT_len l
      have hjt : ∀ i, (joinT (l.take i)).length ≤ 10000 := by
        intro i
        have h1 := joinT_len (l.take i)
        have h2 : (l.map (fun x => x.f1.length)).sum = ((l.take i).map (fun x => x.f1.length)).sum + ((l.drop i).map (fun x => x.f1.length)).sum := by
          rw [← List.sum_append, ← List.map_append, List.take_append_drop]
        have h3 : (l.take i).length ≤ l.length := by rw [List.length_take]; omega
        omega
      obtain ⟨l', g1, g2⟩ := good_joinT l t1
      have hLx := good_LexF (joinT l) (by omega) l' g1
      have e25 : evF T 90000 25 [.vsl none (.named 29) l] [] = some ([.str (joinT l)], []) := by
        have := l25_ok 89999 (by omega) l (by omega) (by omega) l.length 0 89999 (by omega) (by omega) (by omega)
        rw [show (90000 : Nat) = 89999 + 1 from rfl, f25_eq]
        exact this
      have e26 : evF T 90000 26 [.vsl none (.named 29) l] [] = some ([.str (joinT l)], []) := by
        have := l26_ok 89999 l (by omega) hjt l.length 0 89999 (by omega) (by omega) (by omega)
        rw [show (90000 : Nat) = 89999 + 1 from rfl, f26_eq]
        exact this
      rw [if_neg (fun h => h h0), e25, Option.bind_some, res25_eq, eLex (joinT l) _ (by omega), hLx, lexA_bind, if_pos rfl, if_pos rfl, eSame 90000 l l' g2.symm (by omega) (by omega), Option.bind_some, res16_eq, if_pos rfl, e26, Option.bind_some, res26_eq, decide_eq_true rfl]
    · have hE : (LexF s).1 = [] ∧ (LexF s).2.1 ≤ s.length := by
        unfold LexF at h0 ⊢
        rw [if_neg (by omega)] at h0 ⊢
        exact lexI_err s _ _ _ _ _ (skF_le false s) (by omega) h0
      rw [if_pos h0, hE.1, if_pos (show ((([] : List S29).length : Nat) : Int) = 0 from rfl), if_pos (Int.natCast_nonneg _), decide_eq_true (Int.ofNat_le.mpr hE.2)]

end Go.Proofs.YtpcieagmnllimaaDoor
