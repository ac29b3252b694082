import Derived.Test.YtojlhbckfkpjhaaDoorS6
set_option linter.all false
namespace Go.Proofs.YtojlhbckfkpjhaaDoor
open Go Go.RowKit Go.Vm
/-! ### what Format wrote, parsed -/
theorem dec_bytes : ∀ (j u : Nat), u < 10 ^ (j + 1) → ∀ b ∈ Lib.decDigits u, 48 ≤ b.toNat ∧ b.toNat ≤ 57 := by
  have dig : ∀ d : Nat, d < 10 → 48 ≤ (UInt8.ofNat (48 + d)).toNat ∧ (UInt8.ofNat (48 + d)).toNat ≤ 57 := fun d h => by
    rw [UInt8.toNat_ofNat']; omega
  intro j
  induction j with
  | zero =>
    intro u h b hb
    rw [Lib.decDigits_one (by simpa using h)] at hb
    rw [List.mem_singleton.mp hb]; exact dig u (by simpa using h)
  | succ j ih =>
    intro u h b hb
    by_cases c : u < 10
    · rw [Lib.decDigits_one c] at hb
      rw [List.mem_singleton.mp hb]; exact dig u c
    · rw [dec_big c] at hb
      rcases List.mem_append.mp hb with hb | hb
      · exact ih (u / 10) (by rw [Nat.pow_succ] at h; omega) b hb
      · rw [List.mem_singleton.mp hb]; exact dig _ (Nat.mod_lt _ (by decide))
theorem dec_ne (u : Nat) : Lib.decDigits u ≠ [] := by
  by_cases c : u < 10
  · rw [Lib.decDigits_one c]; simp
  · rw [dec_big c]; simp
theorem pu_app : ∀ (l : List UInt8) (a u : Nat) (d : UInt8), Lib.parseUint10 a l = .ok u → Lib.parseUint10 a (l ++ [d]) = Lib.parseUint10 u [d]
  | [], a, u, d, h => by
    simp only [Lib.parseUint10] at h
    injection h with h; subst h; rfl
  | c :: r, a, u, d, h => by
    rw [List.cons_append, Lib.parseUint10]
    rw [Lib.parseUint10] at h
    by_cases c1 : 48 ≤ c.toNat ∧ c.toNat ≤ 57
    · rw [if_pos c1] at h ⊢
      by_cases c2 : 1844674407370955162 ≤ a
      · rw [if_pos c2] at h; exact absurd h (by simp)
      · rw [if_neg c2] at h ⊢
        by_cases c3 : 18446744073709551616 ≤ a * 10 + (c.toNat - 48)
        · rw [if_pos c3] at h; exact absurd h (by simp)
        · rw [if_neg c3] at h ⊢
          exact pu_app r _ u d h
    · rw [if_neg c1] at h; exact absurd h (by simp)
theorem pu_dec : ∀ (j u : Nat), u < 10 ^ (j + 1) → u ≤ 9223372036854775808 → Lib.parseUint10 0 (Lib.decDigits u) = .ok u := by
  have one : ∀ a d : Nat, d < 10 → a ≤ 922337203685477580 → Lib.parseUint10 a [UInt8.ofNat (48 + d)] = .ok (a * 10 + d) := fun a d h ha => by
    have e : (UInt8.ofNat (48 + d)).toNat = 48 + d := by rw [UInt8.toNat_ofNat']; omega
    rw [Lib.parseUint10, e, if_pos ⟨by omega, by omega⟩, if_neg (by omega), if_neg (by omega), Lib.parseUint10]
    congr 1; omega
  intro j
  induction j with
  | zero =>
    intro u h _
    have h : u < 10 := by simpa using h
    rw [Lib.decDigits_one h, one 0 u h (by omega)]; congr 1; omega
  | succ j ih =>
    intro u h hu
    by_cases c : u < 10
    · rw [Lib.decDigits_one c, one 0 u c (by omega)]; congr 1; omega
    · rw [dec_big c, pu_app _ _ _ _ (ih (u / 10) (by rw [Nat.pow_succ] at h; omega) (by omega)), one (u / 10) (u % 10) (Nat.mod_lt _ (by decide)) (by omega)]
      congr 1; omega
theorem at_itoa {n : Int} (h : inR n) : at_ (Lib.itoa n) = some n := by
  unfold inR at h
  unfold at_
  have : Lib.atoiAll (Lib.itoa n) = .ok n := by
    unfold Lib.itoa
    split
    · rename_i c
      obtain ⟨u, rfl⟩ : ∃ u : Nat, n = -(u : Int) := ⟨n.natAbs, by omega⟩
      rw [Int.natAbs_neg, Int.natAbs_natCast]
      unfold Lib.atoiAll
      have e1 : (45 : UInt8).toNat = 45 := rfl
      dsimp only
      rw [if_pos (.inr e1)]
      unfold Lib.parseMag
      rw [if_neg (dec_ne u), pu_dec 18 u (by omega) (by omega)]
      dsimp only
      rw [if_neg (fun h => h.1 e1), if_neg (by omega), if_pos e1]
    · rename_i c
      obtain ⟨u, rfl⟩ : ∃ u : Nat, n = (u : Int) := ⟨n.toNat, by omega⟩
      rw [Int.toNat_natCast]
      have hp := pu_dec 18 u (by omega) (by omega)
      cases hd : Lib.decDigits u with
      | nil => exact absurd hd (dec_ne u)
      | cons b r =>
        obtain ⟨b1, b2⟩ := dec_bytes 18 u (by omega) b (by rw [hd]; exact List.mem_cons_self)
        rw [hd] at hp
        unfold Lib.atoiAll
        dsimp only
        rw [if_neg (by omega)]
        unfold Lib.parseMag
        rw [if_neg (List.cons_ne_nil _ _), hp]
        dsimp only
        rw [if_neg (by omega), if_neg (by omega), if_neg (by omega)]
  rw [this]
theorem itoa_bytes {n : Int} (h : inR n) : ∀ b ∈ Lib.itoa n, b ≠ 32 ∧ b ≠ 10 := by
  unfold inR at h
  have k : ∀ (u : Nat) (b : UInt8), u ≤ 9223372036854775808 → b ∈ Lib.decDigits u → b ≠ 32 ∧ b ≠ 10 := fun u b hu hb => by
    obtain ⟨b1, b2⟩ := dec_bytes 18 u (by omega) b hb
    exact ⟨fun e => by rw [e] at b1; exact absurd b1 (by decide), fun e => by rw [e] at b1; exact absurd b1 (by decide)⟩
  intro b hb
  unfold Lib.itoa at hb
  split at hb
  · rcases List.mem_cons.mp hb with rfl | hb
    · decide
    · exact k _ b (by omega) hb
  · exact k _ b (by omega) hb
theorem cut1_app (c : UInt8) : ∀ (w r : List UInt8), (∀ b ∈ w, b ≠ c) → cut1 c (w ++ c :: r) = (w, r, true)
  | [], r, _ => by rw [List.nil_append, cut1, if_pos rfl]
  | b :: w, r, h => by
    rw [List.cons_append, cut1, if_neg (h b List.mem_cons_self), cut1_app c w r fun x hx => h x (List.mem_cons_of_mem _ hx)]
theorem cut1_no (c : UInt8) : ∀ (w : List UInt8), (∀ b ∈ w, b ≠ c) → cut1 c w = (w, [], false)
  | [], _ => rfl
  | b :: w, h => by
    rw [cut1, if_neg (h b List.mem_cons_self), cut1_no c w fun x hx => h x (List.mem_cons_of_mem _ hx)]
theorem rd_lst : ∀ (r : List Int) (n : Int) (acc : List Int) (f : Nat), inR n → (∀ x ∈ r, inR x) → r.length + 2 ≤ f → rd f (Lib.itoa n ++ lst r) true acc = some (acc ++ n :: r)
  | [], n, acc, f, hn, _, hf => by
    obtain ⟨f, rfl⟩ : ∃ f', f = f' + 2 := ⟨f - 2, by simp at hf; omega⟩
    have e : cut1 32 (Lib.itoa n ++ lst []) = (Lib.itoa n, [], false) := by
      rw [lst, List.append_nil]; exact cut1_no 32 _ fun b hb => (itoa_bytes hn b hb).1
    rw [rd, if_pos rfl, e]
    dsimp only
    rw [at_itoa hn]
    dsimp only
    rw [rd, if_neg (by simp)]
  | m :: r, n, acc, f, hn, hr, hf => by
    rw [List.length_cons] at hf
    obtain ⟨f, rfl⟩ : ∃ f', f = f' + 1 := ⟨f - 1, by omega⟩
    have e : cut1 32 (Lib.itoa n ++ lst (m :: r)) = (Lib.itoa n, Lib.itoa m ++ lst r, true) := by
      rw [lst]; exact cut1_app 32 _ _ fun b hb => (itoa_bytes hn b hb).1
    rw [rd, if_pos rfl, e]
    dsimp only
    rw [at_itoa hn]
    dsimp only
    rw [rd_lst r m (acc ++ [n]) f (hr m List.mem_cons_self) (fun x hx => hr x (List.mem_cons_of_mem _ hx)) (by omega), List.append_assoc]
    rfl
theorem lst_ge : ∀ l : List Int, l.length ≤ (lst l).length
  | [] => Nat.le_refl _
  | n :: l => by have := lst_ge l; rw [lst, List.length_cons, List.length_cons, List.length_append]; omega
theorem rdF_line {w : List UInt8} {l : List Int} (hw : ∀ b ∈ w, b ≠ 32) (hl : ∀ x ∈ l, inR x) : rdF (w ++ lst l) = some (w, l) := by
  unfold rdF
  cases l with
  | nil =>
    rw [lst, List.append_nil, cut1_no 32 w hw]
    rfl
  | cons n r =>
    rw [lst, cut1_app 32 w _ hw]
    dsimp only
    have := lst_ge r
    rw [rd_lst r n [] _ (hl n List.mem_cons_self) (fun x hx => hl x (List.mem_cons_of_mem _ hx)) (by rw [List.length_append]; omega)]
    rfl
theorem word_ok (n : S37) : ∀ b ∈ word n, b ≠ 32 ∧ b ≠ 10 := by
  unfold word
  split; decide; split; decide; split <;> decide
theorem node_word {n : S37} (h : known n) : nodeF (word n) (nums n) = some (plainN n) := by
  obtain ⟨n1, n2, n3, n4, n5, n6⟩ := ne_words
  unfold nodeF word nums plainN
  rcases n with ⟨f0, f1, f2, f3, f4, f5, f6⟩
  rcases h with h | h | h | h
  · have h : f0 = 1 := h
    subst h; rfl
  · have h : f0 = 2 := h
    subst h; rfl
  · have h : f0 = 3 := h
    subst h; rfl
  · have h : f0 = 4 := h
    subst h; rfl
theorem line_back {n : S37} (hn : NOk n) (h : known n) : lineF (line n) = some (plainN n) := by
  unfold lineF line
  rw [rdF_line (fun b hb => (word_ok n b hb).1) (nums_ok hn).1, Option.bind_some]
  exact node_word h
/-- Lines, each with a line feed behind it. -/
def cat : List (List UInt8) → List UInt8
  | [] => []
  | x :: r => x ++ [10] ++ cat r
theorem body_cat : ∀ t : List S37, body t = cat (t.map line)
  | [] => rfl
  | n :: t => by rw [body, List.map_cons, cat, body_cat t]
theorem text_cat (ii : Int) (t : List S37) : text ii t = cat ((wInt ++ lst [ii]) :: t.map line) := by
  unfold text; rw [cat, body_cat]
theorem spl_no (c : UInt8) : ∀ x : List UInt8, (∀ b ∈ x, b ≠ c) → spl c x = [x]
  | [], _ => rfl
  | b :: x, h => by
    rw [spl, if_neg (h b List.mem_cons_self), spl_no c x fun y hy => h y (List.mem_cons_of_mem _ hy)]; rfl
theorem spl_app (c : UInt8) : ∀ x r : List UInt8, (∀ b ∈ x, b ≠ c) → spl c (x ++ c :: r) = x :: spl c r
  | [], r, _ => by rw [List.nil_append, spl, if_pos rfl]
  | b :: x, r, h => by
    rw [List.cons_append, spl, if_neg (h b List.mem_cons_self), spl_app c x r fun y hy => h y (List.mem_cons_of_mem _ hy)]; rfl
/-- The lines of such a text, without the last line feed. -/
theorem spl_cat : ∀ (r : List (List UInt8)) (x : List UInt8), (∀ b ∈ x, b ≠ 10) → (∀ y ∈ r, ∀ b ∈ y, b ≠ 10) → ∃ P, cat (x :: r) = P ++ [10] ∧ spl 10 P = x :: r
  | [], x, hx, _ => ⟨x, by rw [cat, cat, List.append_nil], spl_no 10 x hx⟩
  | y :: r, x, hx, hr => by
    obtain ⟨P, h1, h2⟩ := spl_cat r y (hr y List.mem_cons_self) fun z hz => hr z (List.mem_cons_of_mem _ hz)
    refine ⟨x ++ 10 :: P, ?_, ?_⟩
    · rw [cat, h1]; simp
    · rw [spl_app 10 x P hx, h2]
theorem trim_app (P : List UInt8) : trimN (P ++ [10]) = P := by
  unfold trimN
  have e : (P ++ [10]).length - 1 = P.length := by rw [List.length_append]; rfl
  rw [e, List.drop_left, if_pos ⟨by rw [List.length_append]; show 1 ≤ _ + 1; omega, rfl⟩, List.take_left]
theorem lst_bytes : ∀ {l : List Int}, (∀ x ∈ l, inR x) → ∀ b ∈ lst l, b ≠ 10
  | [], _, b, hb => absurd hb (by simp [lst])
  | n :: l, h, b, hb => by
    rw [lst] at hb
    rcases List.mem_cons.mp hb with rfl | hb
    · decide
    · rcases List.mem_append.mp hb with hb | hb
      · exact (itoa_bytes (h n List.mem_cons_self) b hb).2
      · exact lst_bytes (fun x hx => h x (List.mem_cons_of_mem _ hx)) b hb
theorem pl_back : ∀ (t : List S37) (acc : List S37), (∀ n ∈ t, NOk n ∧ known n) → pl (t.map line) acc = some (acc ++ t.map plainN)
  | [], acc, _ => by rw [List.map_nil, List.map_nil, pl, List.append_nil]
  | n :: t, acc, h => by
    obtain ⟨h1, h2⟩ := h n List.mem_cons_self
    rw [List.map_cons, pl, line_back h1 h2]
    dsimp only
    rw [pl_back t _ fun m hm => h m (List.mem_cons_of_mem _ hm), List.map_cons, List.append_assoc]
    rfl
theorem plain_line {n : S37} (h : known n) : line (plainN n) = line n ∧ known (plainN n) := by
  unfold line word nums plainN known
  rcases n with ⟨f0, f1, f2, f3, f4, f5, f6⟩
  rcases h with h | h | h | h
  · have h : f0 = 1 := h
    subst h; exact ⟨rfl, .inl rfl⟩
  · have h : f0 = 2 := h
    subst h; exact ⟨rfl, .inr (.inl rfl)⟩
  · have h : f0 = 3 := h
    subst h; exact ⟨rfl, .inr (.inr (.inl rfl))⟩
  · have h : f0 = 4 := h
    subst h; exact ⟨rfl, .inr (.inr (.inr rfl))⟩
theorem body_plain : ∀ t : List S37, (∀ n ∈ t, known n) → body (t.map plainN) = body t
  | [], _ => rfl
  | n :: t, h => by
    rw [List.map_cons, body, body, (plain_line (h n List.mem_cons_self)).1, body_plain t fun m hm => h m (List.mem_cons_of_mem _ hm)]
theorem getD_map {t : List S37} {j : Nat} (h : j < t.length) : (t.map plainN).getD j z37 = plainN (t.getD j z37) := by
  rw [List.getD_eq_getElem?_getD, List.getD_eq_getElem?_getD, List.getElem?_map, List.getElem?_eq_getElem h]; rfl
/-- What Format wrote is parsed as the refutation, its other fields zero. -/
theorem par_back {ii : Int} {t : List S37} (h0 : inR ii) (ht : ∀ n ∈ t, NOk n) (hk : ∀ j, j < t.length → known (t.getD j z37)) (hl : (text ii t).length ≤ 65536) : parF (text ii t) = okA ii (t.map plainN) := by
  have hkm : ∀ n ∈ t, known n := fun n hn => by
    obtain ⟨j, hj, rfl⟩ := List.mem_iff_getElem.mp hn
    have := hk j hj
    rwa [List.getD_eq_getElem?_getD, List.getElem?_eq_getElem hj] at this
  have hi : ∀ x ∈ [ii], inR x := fun x hx => by rw [List.mem_singleton.mp hx]; exact h0
  obtain ⟨P, h1, h2⟩ := spl_cat (t.map line) (wInt ++ lst [ii]) (fun b hb => by
    rcases List.mem_append.mp hb with hb | hb
    · exact (by decide : ∀ b ∈ wInt, b ≠ 10) b hb
    · exact lst_bytes hi b hb) (fun y hy b hb => by
    obtain ⟨n, hn, rfl⟩ := List.mem_map.mp hy
    unfold line at hb
    rcases List.mem_append.mp hb with hb | hb
    · exact (word_ok n b hb).2
    · exact lst_bytes (nums_ok (ht n hn)).1 b hb)
  have hT : text ii t = P ++ [10] := (text_cat ii t).trans h1
  have hf : fmt ii (t.map plainN) = (text ii t, 0) := by
    unfold fmt
    have e : text ii (t.map plainN) = text ii t := by unfold text; rw [body_plain t hkm]
    rw [if_pos (fun j hj => by
      rw [List.length_map] at hj
      rw [getD_map hj]
      exact (plain_line (hk j hj)).2), e, if_neg (by omega)]
  unfold parF
  rw [show trimN (text ii t) = P from by rw [hT]; exact trim_app P, h2]
  show headF (text ii t) (wInt ++ lst [ii]) (t.map line) = _
  unfold headF
  rw [rdF_line (by decide) hi]
  show (if wInt = wInt ∧ [ii].length = 1 then restF (text ii t) ([ii].getD 0 0) (t.map line) [] else errA) = _
  rw [if_pos ⟨rfl, rfl⟩]
  unfold restF
  rw [pl_back t [] fun n hn => ⟨ht n hn, hkm n hn⟩]
  show finF (text ii t) ii ([] ++ t.map plainN) = _
  rw [List.nil_append]
  unfold finF
  rw [hf, if_neg (fun h => h rfl), if_neg (fun h => h rfl)]

end Go.Proofs.YtojlhbckfkpjhaaDoor
