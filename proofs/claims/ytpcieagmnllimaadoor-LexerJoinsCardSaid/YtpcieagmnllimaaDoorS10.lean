import Derived.Test.YtpcieagmnllimaaDoorS9
set_option linter.all false
namespace Go.Proofs.YtpcieagmnllimaaDoor
open Go Go.RowKit Go.Vm
/-! #### a blank behind a text -/
theorem blank_not (b : UInt8) (hb : BL (b.toNat : Int) = true) : PI (b.toNat : Int) = false ∧ (∀ k, k ≤ 16 → digP k (b.toNat : Int) = false) ∧ b ≠ 120 ∧ b ≠ 98 ∧ b ≠ 47 := by
  have h : ∀ n : Fin 256, BL (n.val : Int) = true → PI (n.val : Int) = false ∧ dv n.val = 99 ∧ n.val ≠ 120 ∧ n.val ≠ 98 ∧ n.val ≠ 47 := by decide +kernel
  obtain ⟨h1, h2, h3, h4, h5⟩ := h ⟨b.toNat, b.toNat_lt⟩ hb
  refine ⟨h1, fun k hk => ?_, ?_, ?_, ?_⟩
  · unfold digP; rw [Int.toNat_natCast]
    have h2 : dv b.toNat = 99 := h2
    rw [h2]; exact decide_eq_false (by omega)
  · rintro rfl; exact h3 rfl
  · rintro rfl; exact h4 rfl
  · rintro rfl; exact h5 rfl
theorem endF_stop (p : Int → Bool) (b : UInt8) (r : List UInt8) (hb : p (b.toNat : Int) = false) : ∀ l : List UInt8, endF p (l ++ b :: r) = endF p l
  | [] => by
    have e : endF p (b :: r) = if p (b.toNat : Int) = true then endF p r + 1 else 0 := rfl
    rw [List.nil_append, e, hb]; rfl
  | c :: l => by rw [List.cons_append, endF, endF, endF_stop p b r hb l]
theorem prefix_stop {x y b : UInt8} {l r : List UInt8} (hb : b ≠ y) (hl : l ≠ []) : [x, y].isPrefixOf (l ++ b :: r) = [x, y].isPrefixOf l := by
  match l, hl with
  | [c], _ =>
    have : (y == b) = false := by simpa using fun h => hb (Eq.symm h)
    simp [List.isPrefixOf, this]
  | c :: d :: t, _ => simp [List.isPrefixOf]
theorem bsF_stop {b : UInt8} {l r : List UInt8} (h1 : b ≠ 120) (h2 : b ≠ 98) (hl : l ≠ []) : bsF (l ++ b :: r) = bsF l := by
  unfold bsF; rw [prefix_stop h1 hl, prefix_stop h2 hl]
theorem goesOn_stop {b : UInt8} {l r : List UInt8} (hb : PI (b.toNat : Int) = false) : goesOn (l ++ b :: r) = goesOn l := by
  cases l with
  | nil => exact hb
  | cons c t => rfl
theorem numF_stop {b : UInt8} {l r : List UInt8} (hb : BL (b.toNat : Int) = true) (hl : l ≠ []) : numF (l ++ b :: r) = numF l := by
  obtain ⟨h1, h2, h3, h4, h5⟩ := blank_not b hb
  have hB := bsF_base l
  have ho := bsF_le l
  have hE := endF_le (digP (bsF l).1) (l.drop (bsF l).2)
  rw [List.length_drop] at hE
  have hbb : digP (bsF l).1 (b.toNat : Int) = false := h2 _ (by unfold isBase at hB; omega)
  unfold numF
  rw [bsF_stop h3 h4 hl, List.drop_append_of_le_length ho, endF_stop _ _ _ hbb, List.drop_append_of_le_length (by omega), goesOn_stop h1, List.take_append_of_le_length (by rw [List.length_drop]; omega)]
theorem twos_blank (c b : UInt8) (hb : BL (b.toNat : Int) = true) : ¬ [c, b] ∈ TWOS := by
  intro h
  have h2 : ∀ w ∈ TWOS, BL ((w.getD 1 0).toNat : Int) = false := by decide
  have := h2 _ h
  rw [show ([c, b] : List UInt8).getD 1 0 = b from rfl, hb] at this
  exact absurd this (by simp)
theorem puF_stop {b : UInt8} {l r : List UInt8} (hb : BL (b.toNat : Int) = true) (hl : l ≠ []) : puF (l ++ b :: r) = puF l := by
  unfold puF
  match l, hl with
  | [c], _ =>
    have e1 : ¬ (2 ≤ ([c] ++ b :: r).length ∧ ([c] ++ b :: r).take 2 ∈ TWOS) := fun h => twos_blank c b hb h.2
    have e2 : ¬ (2 ≤ [c].length ∧ [c].take 2 ∈ TWOS) := fun h => absurd h.1 (by simp)
    rw [if_neg e1, if_neg e2]
    rfl
  | c :: d :: t, _ =>
    have e : ∀ x : List UInt8, (2 ≤ (c :: d :: x).length ∧ (c :: d :: x).take 2 ∈ TWOS) ↔ [c, d] ∈ TWOS := fun x => ⟨fun h => h.2, fun h => ⟨by simp, h⟩⟩
    have g0 : (c :: d :: t ++ b :: r).getD 0 0 = (c :: d :: t).getD 0 0 := rfl
    rw [g0, List.cons_append, List.cons_append]
    by_cases h : [c, d] ∈ TWOS
    · rw [if_pos ((e _).mpr h), if_pos ((e _).mpr h)]
    · rw [if_neg (fun h' => h ((e _).mp h')), if_neg (fun h' => h ((e _).mp h'))]
theorem tokF_stop {b : UInt8} {l r : List UInt8} (hb : BL (b.toNat : Int) = true) (hl : l ≠ []) : tokF (l ++ b :: r) = tokF l := by
  have h1 := (blank_not b hb).1
  have g0 : (l ++ b :: r).getD 0 0 = l.getD 0 0 := by cases l with | nil => exact absurd rfl hl | cons c t => rfl
  have hE := endF_le PI l
  unfold tokF
  rw [g0, endF_stop _ _ _ h1, List.take_append_of_le_length hE, numF_stop hb hl, puF_stop hb hl]
/-- Blanks at the end of a text. -/
theorem skF_blanks : ∀ (m : Bool) (n : Nat), skF m (List.replicate n 32) = n
  | _, 0 => by unfold skF; rfl
  | true, n + 1 => by
    have h : NI (((32 : UInt8).toNat : Nat) : Int) = true := by decide
    rw [List.replicate_succ, skF, if_pos h, skF_blanks true n]
  | false, n + 1 => by
    have h : BL (((32 : UInt8).toNat : Nat) : Int) = true := by decide
    rw [List.replicate_succ, skF, if_pos h, skF_blanks false n]
theorem skF_tail (n : Nat) : ∀ (m : Bool) (l : List UInt8), skF m (l ++ List.replicate n 32) = if skF m l = l.length then l.length + n else skF m l
  | m, [] => by
    have : skF m [] = 0 := by unfold skF; rfl
    rw [List.nil_append, skF_blanks, this]; simp
  | true, c :: l => by
    have h1 := skF_tail n true l
    have h2 := skF_tail n false l
    rw [List.cons_append, skF, skF, h1, h2, List.length_cons]
    split
    · by_cases h : skF true l = l.length
      · rw [if_pos h, if_pos (by omega)]; omega
      · rw [if_neg h, if_neg (by omega)]
    · by_cases h : skF false l = l.length
      · rw [if_pos h, if_pos (by omega)]; omega
      · rw [if_neg h, if_neg (by omega)]
  | false, c :: l => by
    have h1 := skF_tail n true l
    have h2 := skF_tail n false l
    have hp : n = 0 ∨ [47, 47].isPrefixOf (c :: l ++ List.replicate n 32) = [47, 47].isPrefixOf (c :: l) := by
      cases n with
      | zero => exact .inl rfl
      | succ n => exact .inr (by rw [List.replicate_succ]; exact prefix_stop (by decide) (by simp))
    rcases hp with rfl | hp
    · rw [List.replicate_zero, List.append_nil, Nat.add_zero]
      split
      · rename_i h; rw [h]
      · rfl
    · rw [List.cons_append] at hp
      rw [List.cons_append, skF, skF, hp, h1, h2, List.length_cons]
      split
      · by_cases h : skF false l = l.length
        · rw [if_pos h, if_pos (by omega)]; omega
        · rw [if_neg h, if_neg (by omega)]
      · split
        · by_cases h : skF true l = l.length
          · rw [if_pos h, if_pos (by omega)]; omega
          · rw [if_neg h, if_neg (by omega)]
        · rw [if_neg (by omega)]
theorem lexI_tail (s : List UInt8) (n : Nat) : ∀ (f f' line line' old old' i : Nat) (acc acc' : List S29), s.length - i < f → s.length - i < f' → i < s.length →
    (lexI (s ++ List.replicate (n + 1) 32) f line old i acc).2.2 = (lexI s f' line' old' i acc').2.2 ∧ ((lexI s f' line' old' i acc').2.2 = 0 → (lexI (s ++ List.replicate (n + 1) 32) f line old i acc).2.1 = s.length + (n + 1)) := by
  intro f
  induction f with
  | zero => intro f' line line' old old' i acc acc' h; omega
  | succ f ih =>
    intro f' line line' old old' i acc acc' h1 h2 hi
    obtain ⟨f', rfl⟩ : ∃ g, f' = g + 1 := ⟨f' - 1, by omega⟩
    have hne : s.drop i ≠ [] := by rw [drop_at hi]; simp
    have hlen : (s ++ List.replicate (n + 1) (32 : UInt8)).length = s.length + (n + 1) := by simp
    have hd : ∀ j, j ≤ s.length → (s ++ List.replicate (n + 1) (32 : UInt8)).drop j = s.drop j ++ List.replicate (n + 1) 32 := fun j hj => List.drop_append_of_le_length hj
    have ht : tokF ((s ++ List.replicate (n + 1) (32 : UInt8)).drop i) = tokF (s.drop i) := by
      rw [hd i (by omega), List.replicate_succ]
      exact tokF_stop (by decide) hne
    rw [lexI, lexI, if_pos (by omega), if_pos hi, ht]
    by_cases h0 : (tokF (s.drop i)).1 = 0
    · have hpos := tokF_pos (s.drop i) hne h0
      have hle := tokF_le (s.drop i) hne
      rw [List.length_drop] at hle
      rw [if_pos h0, if_pos h0]
      generalize (tokF (s.drop i)).2.2.1 = q at *
      have hk := skF_le false (s.drop (i + q))
      rw [List.length_drop] at hk
      rw [hd (i + q) (by omega), skF_tail, List.length_drop]
      by_cases he : skF false (s.drop (i + q)) = s.length - (i + q)
      · rw [if_pos he, he]
        obtain ⟨g, rfl⟩ : ∃ g', f = g' + 1 := ⟨f - 1, by omega⟩
        obtain ⟨g', rfl⟩ : ∃ g, f' = g + 1 := ⟨f' - 1, by omega⟩
        rw [lexI_end _ _ _ _ _ _ (by rw [hlen]; omega), lexI_end _ _ _ _ _ _ (by omega)]
        exact ⟨rfl, fun _ => hlen⟩
      · rw [if_neg he]
        exact ih f' _ _ _ _ (i + q + skF false (s.drop (i + q))) _ _ (by omega) (by omega) (by omega)
    · rw [if_neg h0, if_neg h0]
      exact ⟨rfl, fun h => absurd h h0⟩
theorem LexF_tail (s : List UInt8) (n : Nat) (h : s.length + (n + 1) = 65536) :
    (LexF (s ++ List.replicate (n + 1) 32)).2.2 = (LexF s).2.2 ∧ ((LexF s).2.2 = 0 → (LexF (s ++ List.replicate (n + 1) 32)).2.1 = 65536) := by
  have hlen : (s ++ List.replicate (n + 1) (32 : UInt8)).length = s.length + (n + 1) := by simp
  have hk := skF_le false s
  unfold LexF
  rw [if_neg (by rw [hlen]; omega), if_neg (by omega), skF_tail]
  by_cases he : skF false s = s.length
  · rw [if_pos he, he, lexI_end _ _ _ _ _ _ (by rw [hlen]; omega), lexI_end _ _ _ _ _ _ (by omega)]
    exact ⟨rfl, fun _ => by rw [hlen]; omega⟩
  · rw [if_neg he]
    obtain ⟨a, b⟩ := lexI_tail s n ((s ++ List.replicate (n + 1) (32 : UInt8)).length + 1) (s.length + 1) 1 1 0 0 (skF false s) [] [] (by rw [hlen]; omega) (by omega) (by omega)
    exact ⟨a, fun h0 => (b h0).trans h⟩
theorem l8_rounds (k : Nat) (s : List UInt8) (x1 : Int) (n : Nat) (hn : n ≤ 65536) : ∀ (j i m : Nat), j = n - i → i ≤ n → l8_0 k (m + j) s x1 n i (List.replicate i 32 ++ List.replicate (n - i) 0) = l8_0 k m s x1 n n (List.replicate n 32) := by
  intro j
  induction j with
  | zero =>
    intro i m hj hi
    obtain rfl : i = n := by omega
    rw [Nat.add_zero, Nat.sub_self]; simp
  | succ j ih =>
    intro i m hj hi
    have hr : ((List.replicate i (32 : Int) ++ List.replicate (n - i) 0).length : Int) = n := by simp; omega
    have hs : (List.replicate i (32 : Int) ++ List.replicate (n - i) 0).set i 32 = List.replicate (i + 1) 32 ++ List.replicate (n - (i + 1)) 0 := by
      rw [List.set_append_right _ _ (by simp), List.length_replicate, Nat.sub_self, show n - i = (n - (i + 1)) + 1 by omega, List.replicate_succ, List.set_cons_zero, List.replicate_succ']
      simp
    rw [show m + (j + 1) = (m + j) + 1 by omega, l8_0_eq, if_pos (by omega), if_pos (by omega), if_pos (by rw [hr]; omega), Int.toNat_natCast, w64 (by omega) (by omega)]
    have := ih (i + 1) m (by omega) (by omega)
    rw [show ((i + 1 : Nat) : Int) = (i : Int) + 1 by omega] at this
    rw [← this, ← hs]
theorem ofBytes_blank (n : Nat) : ofBytes (List.replicate n (32 : Int)) = List.replicate n (32 : UInt8) := by
  unfold ofBytes; rw [List.map_replicate]; rfl
theorem pLimits (s : List UInt8) (a : Int) (ha : 0 ≤ a ∧ a < 256) : ∃ k, evF T k 8 [.str s, .int .u8 a] [] = some ([.bool true], []) := by
  refine ⟨200000 + 1, ?_⟩
  rw [f8_eq, eAw _ (by omega), Option.bind_some, res11_eq, if_neg (by decide)]
  by_cases h : (s.length : Int) > 100
  · rw [if_pos h, Option.bind_some, res11_eq]
  · have hn : s.length ≤ 100 := by omega
    obtain ⟨n, hN⟩ : ∃ n, s.length + (n + 1) = 65536 := ⟨65535 - s.length, by omega⟩
    have hw : wrap64 ((65536 : Int) - (s.length : Int)) = ((n + 1 : Nat) : Int) := by rw [w64 (by omega) (by omega)]; omega
    have hw2 : wrap64 (wrap64 a + 1) = ((a.toNat + 1 : Nat) : Int) := by rw [w64 (x := a) (by omega) (by omega), w64 (by omega) (by omega)]; omega
    have hlen : (s ++ List.replicate (n + 1) (32 : UInt8)).length = 65536 := by simp; omega
    obtain ⟨t1, t2⟩ := LexF_tail s n hN
    have hk1 : (s ++ List.replicate (n + 1) (32 : UInt8)).length + 1300 ≤ 200000 := by rw [hlen]; decide
    have hk2 : s.length + 1300 ≤ 200000 := by omega
    have hx : (ofBytes (List.replicate (((a.toNat + 1 : Nat) : Int)).toNat (0 : Int))).length = a.toNat + 1 := by unfold ofBytes; simp; omega
    have ha' : a.toNat < 256 := by omega
    have c1 : (0 : Int) ≤ ((n + 1 : Nat) : Int) := Int.natCast_nonneg _
    have c2 : ((1 : Nat) : Int) * ((n + 1 : Nat) : Int) ≤ 281474976710656 := by omega
    have c3 : ((n + 1 : Nat) : Int) ≤ 9223372036854775807 := by omega
    have d1 : (0 : Int) ≤ ((a.toNat + 1 : Nat) : Int) := Int.natCast_nonneg _
    have d2 : ((1 : Nat) : Int) * ((a.toNat + 1 : Nat) : Int) ≤ 281474976710656 := by omega
    have d3 : ((a.toNat + 1 : Nat) : Int) ≤ 9223372036854775807 := by omega
    have hr := l8_rounds 200000 s a (n + 1) (by omega) (n + 1) 0 (200000 - (n + 1)) (by omega) (by omega)
    rw [show 200000 - (n + 1) + (n + 1) = 200000 by omega] at hr
    rw [show 200000 - (n + 1) = (200000 - (n + 1) - 1) + 1 by omega] at hr
    have hs1 : strOK s (List.replicate (n + 1) (32 : UInt8)) := by unfold strOK; rw [List.length_replicate, hN]; decide
    have hs2 : strOK (s ++ List.replicate (n + 1) (32 : UInt8)) (ofBytes (List.replicate (((a.toNat + 1 : Nat) : Int)).toNat (0 : Int))) := by unfold strOK; rw [hlen, hx]; omega
    have hlong : LexF ((s ++ List.replicate (n + 1) (32 : UInt8)) ++ ofBytes (List.replicate (((a.toNat + 1 : Nat) : Int)).toNat (0 : Int))) = ([], 65536, 5) := by
      unfold LexF
      rw [if_pos (by rw [List.length_append, hlen, hx]; omega)]
    have hk3 : ((s ++ List.replicate (n + 1) (32 : UInt8)) ++ ofBytes (List.replicate (((a.toNat + 1 : Nat) : Int)).toNat (0 : Int))).length + 1300 ≤ 200000 := by rw [List.length_append, hlen, hx]; omega
    rw [if_neg h, hw]
    unfold chk
    rw [if_pos c1, if_pos (Int.le_refl _), if_pos c2, if_pos c3, Int.toNat_natCast, List.length_replicate]
    refine Eq.trans ?_ (hr.trans ?_)
    · rw [List.replicate_zero, List.nil_append, Nat.sub_zero]; rfl
    · rw [l8_0_eq, if_neg (Int.lt_irrefl _), ofBytes_blank]
      unfold chk
      rw [if_pos hs1, eLex _ 200000 hk1, lexA_bind, eLex _ 200000 hk2, lexA_bind, hw2, if_pos d1, if_pos (Int.le_refl _), if_pos d2, if_pos d3, if_pos hs1, if_pos hs2, eLex _ 200000 hk3, hlong, lexA_bind, t1, if_pos rfl]
      by_cases h0 : (LexF s).2.2 = 0
      · rw [if_neg (fun h => h h0), t2 h0]; rfl
      · rw [if_pos h0]; rfl

end Go.Proofs.YtpcieagmnllimaaDoor
