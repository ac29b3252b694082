import Derived.Test.YtpcieagmnllimaaDoorS10
import Derived.Test.YtpcieagmnllimaaDoorS13
set_option linter.all false
namespace Go.Proofs.YtpcieagmnllimaaDoor
open Go Go.RowKit Go.Vm
/-! #### spaces between tokens -/
theorem numF_self (l : List UInt8) (h : (numF l).1 = 0) {b : UInt8} {r : List UInt8} (hb : BL (b.toNat : Int) = true) : numF (l.take (numF l).2.1 ++ b :: r) = numF l := by
  have hn : (numF l).2.1 = (bsF l).2 + endF (digP (bsF l).1) (l.drop (bsF l).2) ∧ endF (digP (bsF l).1) (l.drop (bsF l).2) ≠ 0 ∧ valB (bsF l).1 0 ((l.drop (bsF l).2).take (endF (digP (bsF l).1) (l.drop (bsF l).2))) < 18446744073709551616 ∧ (numF l).2.2 = valB (bsF l).1 0 ((l.drop (bsF l).2).take (endF (digP (bsF l).1) (l.drop (bsF l).2))) := by
    unfold numF at h ⊢
    split at h
    · exact absurd h (by simp)
    · rename_i h0
      rw [if_neg h0]
      split at h
      · exact absurd h (by simp)
      · rename_i h1
        rw [if_neg h1]
        split at h
        · rename_i h2
          rw [if_pos h2]; exact ⟨rfl, h0, h2, rfl⟩
        · exact absurd h (by simp)
  obtain ⟨g1, g2, g3, g4⟩ := hn
  obtain ⟨b1, b2, b3, b4, b5⟩ := blank_not b hb
  have ho := bsF_le l
  have hE := endF_le (digP (bsF l).1) (l.drop (bsF l).2)
  rw [List.length_drop] at hE
  have hB := bsF_base l
  have hbs : bsF (l.take (numF l).2.1 ++ b :: r) = bsF l := by
    have hpos := numF_pos l h
    rw [bsF_stop b3 b4 (by
      intro e
      have := congrArg List.length e
      rw [List.length_take, List.length_nil] at this
      have hle := numF_le l
      omega)]
    -- the prefix is within what is taken
    have pre : ∀ x y : UInt8, digP 10 (y.toNat : Int) = false → ([x, y].isPrefixOf (l.take (numF l).2.1) = [x, y].isPrefixOf l) ∨ (numF l).2.1 = 1 := by
      intro x y hy
      by_cases h1 : (numF l).2.1 = 1
      · exact .inr h1
      · refine .inl ?_
        match l, h1, hpos with
        | [], _, _ => simp
        | [a], _, _ => cases (numF [a]).2.1 <;> simp [List.isPrefixOf]
        | a :: c :: t, h1, hpos =>
          obtain ⟨n, hn⟩ : ∃ n, (numF (a :: c :: t)).2.1 = n + 2 := ⟨(numF (a :: c :: t)).2.1 - 2, by omega⟩
          rw [hn]; simp [List.isPrefixOf]
    by_cases h1 : (numF l).2.1 = 1
    · -- one digit
      have h2 : (bsF l).2 = 0 := by
        unfold bsF at g1 g2 ⊢
        split
        · rename_i hp; rw [if_pos hp] at g1 g2; dsimp only at g1 g2; omega
        · rename_i hp
          split
          · rename_i hp2; rw [if_neg hp, if_pos hp2] at g1 g2; dsimp only at g1 g2; omega
          · rfl
      have h3 : bsF l = (10, 0) := by
        unfold bsF at h2 ⊢
        split at h2
        · exact absurd h2 (by simp)
        · rename_i hp
          rw [if_neg hp]
          split at h2
          · exact absurd h2 (by simp)
          · rename_i hp2
            rw [if_neg hp2]
      rw [h3, h1]
      cases l with
      | nil => rfl
      | cons a t =>
        show bsF [a] = (10, 0)
        unfold bsF
        rw [if_neg (by simp [List.isPrefixOf]), if_neg (by simp [List.isPrefixOf])]
    · have p1 := (pre 48 120 (by decide)).resolve_right h1
      have p2 := (pre 48 98 (by decide)).resolve_right h1
      unfold bsF
      rw [p1, p2]
  have hd : (l.take (numF l).2.1 ++ b :: r).drop (bsF l).2 = (l.drop (bsF l).2).take (endF (digP (bsF l).1) (l.drop (bsF l).2)) ++ b :: r := by
    rw [List.drop_append_of_le_length (by rw [List.length_take]; omega), g1, List.drop_take]
    congr 2; omega
  have hbb : digP (bsF l).1 (b.toNat : Int) = false := b2 _ (by unfold isBase at hB; omega)
  have hlen : ((l.drop (bsF l).2).take (endF (digP (bsF l).1) (l.drop (bsF l).2))).length = endF (digP (bsF l).1) (l.drop (bsF l).2) := by rw [List.length_take, List.length_drop]; omega
  have hE2 : endF (digP (bsF l).1) ((l.drop (bsF l).2).take (endF (digP (bsF l).1) (l.drop (bsF l).2)) ++ b :: r) = endF (digP (bsF l).1) (l.drop (bsF l).2) := by
    rw [endF_app _ _ _ (endF_all _ _), endF, if_neg (by rw [hbb]; simp), hlen]; rfl
  have hd2 : (l.take (numF l).2.1 ++ b :: r).drop ((bsF l).2 + endF (digP (bsF l).1) (l.drop (bsF l).2)) = b :: r := by
    rw [← List.drop_drop, hd, List.drop_left' hlen]
  have e1 : (numF l) = (0, (numF l).2.1, (numF l).2.2) := by rw [← h]
  rw [e1]
  show numF (l.take (numF l).2.1 ++ b :: r) = _
  rw [numF, hbs, hd, hE2, if_neg g2, hd2, if_neg (show ¬ goesOn (b :: r) = true by rw [show goesOn (b :: r) = PI (b.toNat : Int) from rfl, b1]; simp), List.take_left' hlen, if_pos g3, ← g1, ← g4]
theorem tokF_self (l : List UInt8) (hl : l ≠ []) (h : (tokF l).1 = 0) {b : UInt8} {r : List UInt8} (hb : BL (b.toNat : Int) = true) : tokF (l.take (tokF l).2.2.1 ++ b :: r) = tokF l := by
  have hpos := tokF_pos l hl h
  have hle := tokF_le l hl
  obtain ⟨b1, b2, b3, b4, b5⟩ := blank_not b hb
  have g0 : ∀ n, 1 ≤ n → (l.take n ++ b :: r).getD 0 0 = l.getD 0 0 := by
    intro n hn
    obtain ⟨n, rfl⟩ : ∃ m, n = m + 1 := ⟨n - 1, by omega⟩
    cases l with
    | nil => exact absurd rfl hl
    | cons c t => rfl
  by_cases hL : LI ((l.getD 0 0).toNat : Int) = true
  · have ht : tokF l = if 64 < endF PI l then (5, 0, 0, 0) else (0, if KWF (l.take (endF PI l)) = true then 2 else 1, endF PI l, 0) := by unfold tokF; rw [if_pos hL]
    by_cases h64 : 64 < endF PI l
    · rw [if_pos h64] at ht; rw [ht] at h; exact absurd h (by simp)
    · rw [if_neg h64] at ht
      rw [ht] at hpos hle ⊢
      dsimp only at hpos hle ⊢
      have hl2 : (l.take (endF PI l)).length = endF PI l := by rw [List.length_take]; omega
      have hE : endF PI (l.take (endF PI l) ++ b :: r) = endF PI l := by
        rw [endF_app _ _ _ (endF_all _ _), endF, if_neg (by rw [b1]; simp), hl2]; rfl
      unfold tokF
      rw [g0 _ hpos, if_pos hL, hE, if_neg h64, List.take_left' hl2]
  · by_cases hD : DI ((l.getD 0 0).toNat : Int) = true
    · have ht : tokF l = if (numF l).1 = 0 then (0, 3, (numF l).2.1, (numF l).2.2) else ((numF l).1, 0, 0, 0) := by unfold tokF; rw [if_neg hL, if_pos hD]
      by_cases h0 : (numF l).1 = 0
      · rw [if_pos h0] at ht
        rw [ht] at hpos hle ⊢
        dsimp only at hpos hle ⊢
        have hs := numF_self l h0 (r := r) hb
        unfold tokF
        rw [g0 _ hpos, if_neg hL, if_pos hD, hs, if_pos h0]
      · rw [if_neg h0] at ht; rw [ht] at h; exact absurd h h0
    · have ht : tokF l = if puF l = 0 then (4, 0, 0, 0) else (0, 4, puF l, 0) := by unfold tokF; rw [if_neg hL, if_neg hD]
      by_cases h0 : puF l = 0
      · rw [if_pos h0] at ht; rw [ht] at h; exact absurd h (by simp)
      · rw [if_neg h0] at ht
        rw [ht] at hpos hle ⊢
        dsimp only at hpos hle ⊢
        have hpu : puF (l.take (puF l) ++ b :: r) = puF l := by
          rw [puF_stop hb (by
            intro e
            have := congrArg List.length e
            rw [List.length_take, List.length_nil] at this
            omega)]
          by_cases h2 : 2 ≤ l.length ∧ l.take 2 ∈ TWOS
          · have e2 : puF l = 2 := by unfold puF; rw [if_pos h2]
            rw [e2]
            unfold puF
            rw [if_pos ⟨by rw [List.length_take]; omega, by rw [List.take_take]; exact h2.2⟩]
          · have e1 : puF l = 1 := by
              unfold puF at h0 ⊢
              rw [if_neg h2] at h0 ⊢
              split at h0
              · rename_i hm; rw [if_pos hm]
              · exact absurd rfl h0
            have hm : l.getD 0 0 ∈ ONES := by
              unfold puF at h0
              rw [if_neg h2] at h0
              split at h0
              · assumption
              · exact absurd rfl h0
            rw [e1]
            cases l with
            | nil => exact absurd rfl hl
            | cons c t =>
              show puF [c] = 1
              unfold puF
              rw [if_neg (fun h => absurd h.1 (by simp)), if_pos (show [c].getD 0 0 ∈ ONES from hm)]
        unfold tokF
        rw [g0 _ hpos, if_neg hL, if_neg hD, hpu, if_neg h0]
theorem tokF_first (l : List UInt8) (hl : l ≠ []) (h : (tokF l).1 = 0) : ¬ BL ((l.getD 0 0).toNat : Int) = true ∧ (l.getD 0 0 = 47 → (tokF l).2.2.1 = 1) := by
  have key : ∀ n : Fin 256, (LI (n.val : Int) = true ∨ DI (n.val : Int) = true → ¬ BL (n.val : Int) = true ∧ n.val ≠ 47) := by decide +kernel
  have k := key ⟨(l.getD 0 0).toNat, UInt8.toNat_lt _⟩
  have h47 : l.getD 0 0 = 47 → (l.getD 0 0).toNat = 47 := fun e => by rw [e]; rfl
  unfold tokF at h ⊢
  by_cases hL : LI ((l.getD 0 0).toNat : Int) = true
  · exact ⟨(k (.inl hL)).1, fun e => absurd (h47 e) (k (.inl hL)).2⟩
  · by_cases hD : DI ((l.getD 0 0).toNat : Int) = true
    · exact ⟨(k (.inr hD)).1, fun e => absurd (h47 e) (k (.inr hD)).2⟩
    · rw [if_neg hL, if_neg hD] at h ⊢
      by_cases h0 : puF l = 0
      · rw [if_pos h0] at h; exact absurd h (by simp)
      · rw [if_neg h0]
        have t1 : ∀ w ∈ TWOS, ¬ BL ((w.getD 0 0).toNat : Int) = true ∧ w.getD 0 0 ≠ 47 := by decide
        have t2 : ∀ c ∈ ONES, ¬ BL (c.toNat : Int) = true := by decide
        have e2 : 2 ≤ l.length → (l.take 2).getD 0 0 = l.getD 0 0 := fun _ => by cases l with | nil => rfl | cons c t => rfl
        unfold puF at h0 ⊢
        by_cases h2 : 2 ≤ l.length ∧ l.take 2 ∈ TWOS
        · have := t1 _ h2.2
          rw [e2 h2.1] at this
          exact ⟨this.1, fun e => absurd e this.2⟩
        · rw [if_neg h2] at h0 ⊢
          by_cases h1 : l.getD 0 0 ∈ ONES
          · rw [if_pos h1]; exact ⟨t2 _ h1, fun _ => rfl⟩
          · rw [if_neg h1] at h0; exact absurd rfl h0
theorem skF_text (l : List UInt8) (hl : l ≠ []) (h : (tokF l).1 = 0) {b : UInt8} {r : List UInt8} (hb : BL (b.toNat : Int) = true) : skF false (l.take (tokF l).2.2.1 ++ b :: r) = 0 := by
  have hpos := tokF_pos l hl h
  obtain ⟨f1, f2⟩ := tokF_first l hl h
  have b5 := (blank_not b hb).2.2.2.2
  generalize (tokF l).2.2.1 = n at hpos f2 ⊢
  obtain ⟨n, rfl⟩ : ∃ m, n = m + 1 := ⟨n - 1, by omega⟩
  cases l with
  | nil => exact absurd rfl hl
  | cons c t =>
    have f1 : ¬ BL (c.toNat : Int) = true := f1
    have f2 : c = 47 → n + 1 = 1 := f2
    rw [List.take_succ_cons, List.cons_append, skF, if_neg f1]
    by_cases hc : c = 47
    · have := f2 hc
      obtain rfl : n = 0 := by omega
      rw [List.take_zero, List.nil_append, if_neg]
      simp [List.isPrefixOf]
      exact fun _ h => b5 h.symm
    · rw [if_neg]
      simp [List.isPrefixOf]
      exact fun h => absurd h.symm hc
/-- A gap between tokens. -/
def Gap (g : List UInt8) : Prop := (∀ r, skF false (g ++ r) = g.length + skF false r) ∧ (∃ b t, g = b :: t ∧ BL (b.toNat : Int) = true) ∧ g.length ≤ 26
theorem gap1 : Gap [32] := ⟨fun r => by
  have h : BL (((32 : UInt8).toNat : Nat) : Int) = true := by decide
  show skF false (32 :: r) = 1 + skF false r
  rw [skF, if_pos h]; omega, ⟨32, [], rfl, by decide⟩, by simp⟩
theorem skF_line : ∀ (F r : List UInt8), (∀ c ∈ F, c ≠ 10) → skF true (F ++ 10 :: r) = F.length + 1 + skF false r
  | [], r, _ => by
    have h : ¬ NI (((10 : UInt8).toNat : Nat) : Int) = true := by decide
    show skF true (10 :: r) = 0 + 1 + skF false r
    rw [skF, if_neg h]; omega
  | c :: F, r, hF => by
    have hc : NI (c.toNat : Int) = true := (NI_iff _).mpr (fun e => hF c (by simp) (UInt8.toNat_inj.mp (show c.toNat = (10 : UInt8).toNat by show c.toNat = 10; omega)))
    rw [List.cons_append, skF, if_pos hc, skF_line F r (fun c h => hF c (by simp [h])), List.length_cons]; omega
theorem gap2 (F : List UInt8) (hF : ∀ c ∈ F, c ≠ 10) (hl : F.length ≤ 20) : Gap (([9, 10] ++ ([47, 47] ++ F ++ [10])) ++ [32]) := by
  refine ⟨fun r => ?_, ⟨9, _, rfl, by decide⟩, by simp; omega⟩
  have e : (([9, 10] ++ ([47, 47] ++ F ++ [10])) ++ [32]) ++ r = 9 :: 10 :: 47 :: 47 :: (F ++ 10 :: 32 :: r) := by simp
  have h9 : BL (((9 : UInt8).toNat : Nat) : Int) = true := by decide
  have h10 : BL (((10 : UInt8).toNat : Nat) : Int) = true := by decide
  have h32 : BL (((32 : UInt8).toNat : Nat) : Int) = true := by decide
  have h47 : ¬ BL (((47 : UInt8).toNat : Nat) : Int) = true := by decide
  have n47 : NI (((47 : UInt8).toNat : Nat) : Int) = true := by decide
  have hp : [47, 47].isPrefixOf (47 :: 47 :: (F ++ 10 :: 32 :: r)) = true := by simp [List.isPrefixOf]
  have hlen : ((([9, 10] ++ ([47, 47] ++ F ++ [10])) ++ [32]) : List UInt8).length = F.length + 6 := by simp
  rw [e, hlen, skF, if_pos h9, skF, if_pos h10, skF, if_neg h47, if_pos hp, skF, if_pos n47, skF_line F _ hF, skF, if_pos h32]; omega
def body : List (List UInt8 × S29) → List UInt8
  | [] => []
  | q :: L => q.1 ++ q.2.f1 ++ body L
theorem body_app : ∀ (L M : List (List UInt8 × S29)), body (L ++ M) = body L ++ body M
  | [], M => rfl
  | q :: L, M => by rw [List.cons_append, body, body, body_app L M]; simp
/-- A token's text and what it is. -/
def TokT (x : S29) : Prop := ∃ l : List UInt8, l ≠ [] ∧ (tokF l).1 = 0 ∧ x.f0 = (tokF l).2.1 ∧ x.f1 = l.take (tokF l).2.2.1 ∧ x.f2 = ((tokF l).2.2.2 : Nat)
def key (x : S29) : Int × List UInt8 × Int := (x.f0, x.f1, x.f2)
theorem good_texts (s : List UInt8) : ∀ (l : List S29) (p line old : Nat), p ≤ s.length → Good s p line old l → (∀ x ∈ l, TokT x) ∧ p + (l.map (fun x => x.f1.length)).sum ≤ s.length
  | [], p, line, old, hp, h => ⟨fun x h => absurd h (by simp), by simp; omega⟩
  | x :: l, p, line, old, hp, h => by
    obtain ⟨hi, ht, hx, hg⟩ := h
    have hne : s.drop (p + skF false (s.drop p)) ≠ [] := by rw [drop_at hi]; simp
    have hle := tokF_le _ hne
    rw [List.length_drop] at hle
    obtain ⟨h1, h2⟩ := good_texts s l _ _ _ (by omega) hg
    refine ⟨fun y hy => ?_, ?_⟩
    · rcases List.mem_cons.mp hy with rfl | hy
      · exact ⟨_, hne, ht, by rw [hx], by rw [hx], by rw [hx]⟩
      · exact h1 y hy
    · rw [List.map_cons, List.sum_cons]
      have : x.f1.length = (tokF (s.drop (p + skF false (s.drop p)))).2.2.1 := by rw [hx]; simp; omega
      omega
theorem good_body (t tail : List UInt8) (htl : skF false tail = tail.length) (htb : ∃ b r, tail = b :: r ∧ BL (b.toNat : Int) = true) : ∀ (L : List (List UInt8 × S29)) (P : List UInt8) (line old : Nat), (∀ q ∈ L, Gap q.1 ∧ TokT q.2) → t = P ++ (body L ++ tail) →
    ∃ l', Good t P.length line old l' ∧ l'.map key = L.map (fun q => key q.2)
  | [], P, line, old, hL, ht => ⟨[], by
      show P.length + skF false (t.drop P.length) = t.length
      rw [ht, body, List.nil_append, List.drop_left' rfl, htl]; simp, rfl⟩
  | q :: L, P, line, old, hL, ht => by
    obtain ⟨⟨g1, -, -⟩, l, hne, hok, k0, k1, k2⟩ := hL q (by simp)
    have hrest : ∃ b r, body L ++ tail = b :: r ∧ BL (b.toNat : Int) = true := by
      cases L with
      | nil => exact htb
      | cons q' L' =>
        obtain ⟨⟨-, ⟨b, t', e, hb⟩, -⟩, -⟩ := hL q' (by simp)
        exact ⟨b, t' ++ q'.2.f1 ++ body L' ++ tail, by rw [body, e]; simp, hb⟩
    obtain ⟨b, r, hr, hb⟩ := hrest
    have hd : t.drop P.length = q.1 ++ (q.2.f1 ++ b :: r) := by
      rw [ht, List.drop_left' rfl, body, ← hr]; simp
    have hsk : skF false (t.drop P.length) = q.1.length := by rw [hd, g1, k1, skF_text l hne hok hb]; rfl
    have hi : P.length + skF false (t.drop P.length) = (P ++ q.1).length := by rw [hsk, List.length_append]
    have hd2 : t.drop (P ++ q.1).length = q.2.f1 ++ b :: r := by
      rw [List.length_append, ← List.drop_drop, hd, List.drop_left' rfl]
    have htok : tokF (t.drop (P ++ q.1).length) = tokF l := by rw [hd2, k1]; exact tokF_self l hne hok hb
    have hle := tokF_le l hne
    have hlen1 : q.2.f1.length = (tokF l).2.2.1 := by rw [k1, List.length_take]; omega
    have htlen : t.length = (P ++ q.1).length + (q.2.f1.length + (r.length + 1)) := by
      rw [ht, body, List.append_assoc, hr]; simp; omega
    obtain ⟨l', h1, h2⟩ := good_body t tail htl htb L (P ++ q.1 ++ q.2.f1) (line + cntF t old (P ++ q.1).length) (P ++ q.1).length (fun q hq => hL q (by simp [hq])) (by rw [ht, body]; simp)
    refine ⟨⟨(tokF l).2.1, q.2.f1, ((tokF l).2.2.2 : Nat), ((P ++ q.1).length : Nat), ((line + cntF t old (P ++ q.1).length : Nat) : Int)⟩ :: l', ?_, ?_⟩
    · refine ⟨?_, ?_, ?_, ?_⟩
      · rw [hi, htlen]; omega
      · rw [hi, htok]; exact hok
      · rw [hi, htok, hd2]
        have e : (q.2.f1 ++ b :: r).take (tokF l).2.2.1 = q.2.f1 := List.take_left' hlen1
        rw [e]
      · rw [hi, htok]
        rw [List.length_append, hlen1] at h1
        exact h1
    · rw [List.map_cons, List.map_cons, h2]
      congr 1
      unfold key
      rw [k0, k2]
theorem body_len : ∀ (L : List (List UInt8 × S29)), (∀ q ∈ L, q.1.length ≤ 26) → (body L).length ≤ 26 * L.length + (L.map (fun q => q.2.f1.length)).sum
  | [], _ => by simp [body]
  | q :: L, h => by
    have h1 := body_len L (fun q hq => h q (by simp [hq]))
    have h2 := h q (by simp)
    rw [body, List.map_cons, List.sum_cons, List.length_cons]
    simp only [List.length_append]
    omega

end Go.Proofs.YtpcieagmnllimaaDoor
