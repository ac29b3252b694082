import Derived.Test.YtpcieagmnllimaaDoorS6
set_option linter.all false
namespace Go.Proofs.YtpcieagmnllimaaDoor
open Go Go.RowKit Go.Vm
/-! #### the two lexers -/
def cntF (s : List UInt8) (old i : Nat) : Nat := Lib.countByte ((s.take i).drop old) 10
def lexI (s : List UInt8) : Nat → Nat → Nat → Nat → List S29 → List S29 × Nat × Int
  | 0, _, _, _, _ => ([], 0, 0)
  | f + 1, line, old, i, acc => if i < s.length then
      (if (tokF (s.drop i)).1 = 0 then
        lexI s f (line + cntF s old i) i (i + (tokF (s.drop i)).2.2.1 + skF false (s.drop (i + (tokF (s.drop i)).2.2.1))) (acc ++ [⟨(tokF (s.drop i)).2.1, (s.drop i).take (tokF (s.drop i)).2.2.1, ((tokF (s.drop i)).2.2.2 : Nat), (i : Int), ((line + cntF s old i : Nat) : Int)⟩])
      else ([], i, (tokF (s.drop i)).1)) else (acc, s.length, 0)
def lexA (p : List S29 × Nat × Int) : Option (Ans N) := some ([.vsl none (.named 29) p.1, .int .i64 (p.2.1 : Nat), .int .i64 p.2.2], [])
def LexF (s : List UInt8) : List S29 × Nat × Int := if 65536 < s.length then ([], 65536, 5) else lexI s (s.length + 1) 1 0 (skF false s) []
theorem cntF_le (s : List UInt8) (old i : Nat) : cntF s old i ≤ i - old := by
  unfold cntF Lib.countByte
  have h := List.count_le_length (a := (10 : UInt8)) (l := (s.take i).drop old)
  rw [List.length_drop, List.length_take] at h
  omega
theorem e29 (k : Nat) (s : List UInt8) (c : UInt8) : evF T (k + 1) 29 [.str s, .str [c]] [] = some ([.int .i64 (Lib.countByte s c : Nat)], []) := rfl
theorem l12_ok (s : List UInt8) (hs : s.length ≤ 65536) : ∀ (f line old i m k : Nat) (acc : List S29), s.length - i < f → s.length - i < m → old ≤ i → i ≤ s.length → line ≤ old + 1 → acc.length ≤ i → s.length + 1200 ≤ k →
    l12_0 k m s line old i acc = lexA (lexI s f line old i acc) := by
  intro f
  induction f with
  | zero => intro line old i m k acc h; omega
  | succ f ih =>
    intro line old i m k acc h1 h2 h3 h4 h5 h6 h7
    obtain ⟨m, rfl⟩ : ∃ m', m = m' + 1 := ⟨m - 1, by omega⟩
    rw [l12_0_eq, lexI]
    by_cases hi : i < s.length
    · have hne : s.drop i ≠ [] := by rw [drop_at hi]; simp
      obtain ⟨hN0, hN1⟩ := eNext s (by omega) i k hi (by omega)
      have hle := tokF_le (s.drop i) hne
      rw [List.length_drop] at hle
      rw [if_pos (by omega), if_pos hi]
      by_cases h0 : (tokF (s.drop i)).1 = 0
      · have hpos := tokF_pos (s.drop i) hne h0
        have hC := cntF_le s old i
        have hx : ((s.drop i).take (tokF (s.drop i)).2.2.1).length = (tokF (s.drop i)).2.2.1 := by rw [List.length_take, List.length_drop]; omega
        obtain ⟨k, rfl⟩ : ∃ k', k = k' + 1 := ⟨k - 1, by omega⟩
        have hS := eSkip s (by omega) (i + (tokF (s.drop i)).2.2.1) (k + 1) (by omega) (by omega)
        have hk := skF_le false (s.drop (i + (tokF (s.drop i)).2.2.1))
        rw [List.length_drop] at hk
        have hl : wrap64 ((line : Int) + (cntF s old i : Nat)) = ((line + cntF s old i : Nat) : Int) := by rw [w64 (by omega) (by omega)]; omega
        have hc : Lib.countByte ((s.take i).drop old) 10 = cntF s old i := rfl
        rw [hN0 h0, Option.bind_some, res28_eq, if_neg (by simp), if_pos h0, if_pos (by omega), if_pos (by omega), if_pos (by omega), if_pos (by omega)]
        rw [e29, Option.bind_some, res29_eq, Int.toNat_natCast, Int.toNat_natCast, hc, hx, hl]
        generalize hn : (tokF (s.drop i)).2.2.1 = n at *
        rw [w64 (by omega) (by omega), show (i : Int) + (n : Int) = ((i + n : Nat) : Int) by omega, hS, Option.bind_some, res27_eq]
        generalize skF false (s.drop (i + n)) = q at *
        generalize cntF s old i = cn at *
        unfold chk
        rw [if_pos (by simp; omega)]
        clear hN0 hN1 hx hS hl hc
        refine ih (line + cn) i (i + n + q) m (k + 1) _ ?_ ?_ ?_ ?_ ?_ ?_ ?_
        · omega
        · omega
        · omega
        · omega
        · omega
        · rw [List.length_append, List.length_singleton]; omega
        · omega
      · obtain ⟨a, b, c, d, g, hN⟩ := hN1 h0
        rw [hN, Option.bind_some, res28_eq, if_pos h0, if_neg h0]
        rfl
    · rw [if_neg (by omega), if_neg hi]; rfl
theorem eLex (s : List UInt8) (k : Nat) (hk : s.length + 1300 ≤ k) : evF T k 12 [.str s] [] = lexA (LexF s) := by
  obtain ⟨k, rfl⟩ : ∃ k', k = k' + 1 := ⟨k - 1, by omega⟩
  rw [f12_eq]
  unfold LexF
  by_cases h : 65536 < s.length
  · rw [if_pos (by omega), if_pos h]; rfl
  · have hS := eSkip s (by omega) 0 k (by omega) (by omega)
    have hk' := skF_le false s
    rw [if_neg (by omega), if_neg h, show (0 : Int) = ((0 : Nat) : Int) from rfl, hS, Option.bind_some, res27_eq, List.drop_zero, Nat.zero_add]
    exact l12_ok s (by omega) (s.length + 1) 1 0 (skF false s) k k [] (by omega) (by omega) (by omega) (by omega) (by omega) (by simp) (by omega)
/-! the reference's -/
theorem l13_1_ok (s : List UInt8) (hs : s.length ≤ 65536) (k m0 i : Nat) (acc : List S29) (hi : i ≤ s.length) : ∀ (n line seen m : Nat), i - seen ≤ n → seen ≤ i → n < m → line ≤ seen + 1 →
    ∃ m', l13_1 k m0 m s line seen i acc = l13_1 k m0 (m' + 1) s ((line + cntF s seen i : Nat) : Int) i i acc := by
  intro n
  induction n with
  | zero =>
    intro line seen m h1 h2 h3 h4
    obtain rfl : seen = i := by omega
    refine ⟨m - 1, ?_⟩
    have : cntF s seen seen = 0 := by have := cntF_le s seen seen; omega
    rw [this, show m - 1 + 1 = m by omega]; rfl
  | succ n ih =>
    intro line seen m h1 h2 h3 h4
    by_cases hlt : seen < i
    case neg => exact ih line seen m (by omega) h2 (by omega) h4
    obtain ⟨m, rfl⟩ : ∃ m', m = m' + 1 := ⟨m - 1, by omega⟩
    have hd : (s.take i).drop seen = s.getD seen 0 :: (s.take i).drop (seen + 1) := by
      rw [drop_at (show seen < (s.take i).length by rw [List.length_take]; omega)]
      congr 1
      simp only [List.getD, List.getElem?_take]
      rw [if_pos hlt]
    have hcnt : cntF s seen i = cntF s (seen + 1) i + (if ((s.getD seen 0).toNat : Int) = 10 then 1 else 0) := by
      unfold cntF Lib.countByte
      rw [hd, List.count_cons]
      congr 1
      by_cases h : s.getD seen 0 = 10
      · rw [h]; rfl
      · rw [if_neg (by simpa using h), if_neg (fun e => h (UInt8.toNat_inj.mp (show (s.getD seen 0).toNat = (10 : UInt8).toNat by show (s.getD seen 0).toNat = 10; omega)))]
    rw [l13_1_eq, if_pos (by omega), if_pos (by omega), if_pos (by omega), Int.toNat_natCast, w64 (x := (seen : Int) + 1) (by omega) (by omega), hcnt]
    by_cases hc : ((s.getD seen 0).toNat : Int) = 10
    · rw [if_pos hc, if_pos hc, w64 (by omega) (by omega)]
      obtain ⟨m', h⟩ := ih (line + 1) (seen + 1) m (by omega) (by omega) (by omega) (by omega)
      refine ⟨m', ?_⟩
      rw [show line + (cntF s (seen + 1) i + 1) = line + 1 + cntF s (seen + 1) i by omega, ← h]
      rfl
    · rw [if_neg hc, if_neg hc]
      obtain ⟨m', h⟩ := ih line (seen + 1) m (by omega) (by omega) (by omega) (by omega)
      refine ⟨m', ?_⟩
      rw [(cntF s (seen + 1) i).add_zero, ← h]
      rfl
theorem l13_2_ok (s : List UInt8) (hs : s.length ≤ 65536) (k m0 i : Nat) (acc : List S29) (x6 x7 : Int) (b0 : Int) (b1 : List UInt8) (b2 b3 b4 : Int) (hk : 1100 ≤ k) : ∀ (n e m : Nat), s.length - e ≤ n → i ≤ e → e ≤ s.length → n < m →
    l13_2 k m0 m s x6 x7 i e acc b0 b1 b2 b3 b4 = if 64 < e + endF PI (s.drop e) - i then some ([.vsl none (.named 29) [], .int .i64 (i : Int), .int .i64 (5 : Int)], []) else
      if KWF ((s.drop i).take (e + endF PI (s.drop e) - i)) = true then j13_0 k m0 s x6 x7 i ((e + endF PI (s.drop e) : Nat) : Int) acc (2 : Int) b1 b2 b3 b4 else j13_0 k m0 s x6 x7 i ((e + endF PI (s.drop e) : Nat) : Int) acc (1 : Int) b1 b2 b3 b4 := by
  have fin : ∀ e : Nat, i ≤ e → e ≤ s.length → (if (wrap64 ((e : Int) - (i : Int))) > (64 : Int) then some ([.vsl none (.named 29) [], .int .i64 (i : Int), .int .i64 (5 : Int)], []) else if 0 ≤ (e : Int) then if (e : Int) ≤ (s.length : Int) then if 0 ≤ (i : Int) then if (i : Int) ≤ (e : Int) then (evF T k 19 [.str ((s.take (e : Int).toNat).drop (i : Int).toNat)] []).bind fun r => res19 r fun y4 => if y4 = true then j13_0 k m0 s x6 x7 i e acc (2 : Int) b1 b2 b3 b4 else j13_0 k m0 s x6 x7 i e acc (1 : Int) b1 b2 b3 b4 else none else none else none else none : Option (Ans N)) =
      if 64 < e - i then some ([.vsl none (.named 29) [], .int .i64 (i : Int), .int .i64 (5 : Int)], []) else if KWF ((s.drop i).take (e - i)) = true then j13_0 k m0 s x6 x7 i e acc (2 : Int) b1 b2 b3 b4 else j13_0 k m0 s x6 x7 i e acc (1 : Int) b1 b2 b3 b4 := by
    intro e h1 h2
    rw [w64 (by omega) (by omega)]
    by_cases h : 64 < e - i
    · rw [if_pos (by omega), if_pos h]
    · rw [if_neg (by omega), if_neg h, if_pos (by omega), if_pos (by omega), if_pos (by omega), if_pos (by omega), Int.toNat_natCast, Int.toNat_natCast, eRKW k _ (by omega), Option.bind_some, res19_eq, List.drop_take]
  intro n
  induction n with
  | zero =>
    intro e m h1 h2 h3 h4
    obtain ⟨m, rfl⟩ : ∃ m', m = m' + 1 := ⟨m - 1, by omega⟩
    rw [l13_2_eq, if_neg (by omega), List.drop_eq_nil_of_le (show s.length ≤ e by omega)]
    exact fin e h2 h3
  | succ n ih =>
    intro e m h1 h2 h3 h4
    obtain ⟨m, rfl⟩ : ∃ m', m = m' + 1 := ⟨m - 1, by omega⟩
    by_cases he : e < s.length
    · have hc : (s.getD e 0).toNat < 256 := UInt8.toNat_lt _
      obtain ⟨k', rfl⟩ : ∃ k', k = k' + 2 := ⟨k - 2, by omega⟩
      rw [l13_2_eq, if_pos (by omega), if_pos (by omega), if_pos (by omega), Int.toNat_natCast, e30 k' _ hc, Option.bind_some, res30_eq]
      by_cases hp : PI ((s.getD e 0).toNat : Int) = true
      · have hE : e + endF PI (s.drop e) = e + 1 + endF PI (s.drop (e + 1)) := by rw [drop_at he, endF, if_pos hp]; omega
        rw [if_pos hp, w64 (by omega) (by omega), hE]
        exact ih (e + 1) m (by omega) (by omega) (by omega) (by omega)
      · have hE : e + endF PI (s.drop e) = e := by rw [drop_at he, endF, if_neg hp]; rfl
        rw [if_neg hp, hE]
        exact fin e h2 h3
    · rw [l13_2_eq, if_neg (by omega), List.drop_eq_nil_of_le (show s.length ≤ e by omega)]
      exact fin e h2 h3
theorem wi1 (i : Nat) (h : i < 4611686018427387904) : wrap64 ((i : Int) + 1) = ((i + 1 : Nat) : Int) := by rw [w64 (by omega) (by omega)]; rfl
theorem wi2 (i : Nat) (h : i < 4611686018427387904) : wrap64 ((i : Int) + 2) = ((i + 2 : Nat) : Int) := by rw [w64 (by omega) (by omega)]; rfl
theorem one2 (s : List UInt8) (i : Nat) (hi : i < s.length) : (s.drop i).take 1 = [s.getD i 0] := by rw [drop_at hi]; rfl
theorem mem_ONEL (c : UInt8) : [c] ∈ ONEL ↔ c ∈ ONES := by
  unfold ONEL
  rw [List.mem_map]
  constructor
  · rintro ⟨d, h, e⟩; injection e with e; exact e ▸ h
  · intro h; exact ⟨c, h, rfl⟩
theorem j13_ok (s : List UInt8) (hs : s.length ≤ 65536) (k m0 i e : Nat) (acc : List S29) (line : Nat) (b0 : Int) (b1 : List UInt8) (b2 b3 b4 : Int) (h1 : i ≤ e) (h2 : e ≤ s.length) (ha : acc.length ≤ i) (hk : s.length + 40 ≤ k) :
    j13_0 k m0 s line i i e acc b0 b1 b2 b3 b4 = l13_0 k m0 s line i ((e + skF false (s.drop e) : Nat) : Int) (acc ++ [(⟨b0, (s.drop i).take (e - i), b2, b3, b4⟩ : S29)]) := by
  have hS := eRSkip s (by omega) e k (by omega) (by omega)
  rw [j13_0_eq, if_pos (by omega), if_pos (by omega), if_pos (by omega), if_pos (by omega), Int.toNat_natCast, Int.toNat_natCast, hS, Option.bind_some, res14_eq, List.drop_take]
  clear hS
  unfold chk
  rw [if_pos (by rw [List.length_singleton]; omega)]
theorem l13_ok (s : List UInt8) (hs : s.length ≤ 65536) : ∀ (f line old i m k : Nat) (acc : List S29), s.length - i < f → s.length - i < m → old ≤ i → i ≤ s.length → line ≤ old + 1 → acc.length ≤ i → s.length + 1200 ≤ k →
    l13_0 k m s line old i acc = lexA (lexI s f line old i acc) := by
  intro f
  induction f with
  | zero => intro line old i m k acc h; omega
  | succ f ih =>
    intro line old i m k acc h1 h2 h3 h4 h5 h6 h7
    obtain ⟨m, rfl⟩ : ∃ m', m = m' + 1 := ⟨m - 1, by omega⟩
    rw [l13_0_eq, lexI]
    by_cases hi : i < s.length
    case neg => rw [if_neg (by omega), if_neg hi]; rfl
    obtain ⟨m', hm'⟩ := l13_1_ok s hs k m i acc h4 (i - old) line old k (Nat.le_refl _) h3 (by omega) h5
    rw [if_pos (by omega), if_pos hi, hm', l13_1_eq, if_neg (by omega)]
    clear hm'
    have hC := cntF_le s old i
    have hne : s.drop i ≠ [] := by rw [drop_at hi]; simp
    have hc256 : (s.getD i 0).toNat < 256 := UInt8.toNat_lt _
    have hpos := tokF_pos (s.drop i) hne
    have hle := tokF_le (s.drop i) hne
    rw [List.length_drop] at hle
    -- the way on behind a token
    have next : ∀ (kd : Int) (num : Nat) (n : Nat) (b1 : List UInt8), tokF (s.drop i) = (0, kd, n, num) →
        j13_0 k m s ((line + cntF s old i : Nat) : Int) i i ((i + n : Nat) : Int) acc kd b1 (num : Int) (i : Int) ((line + cntF s old i : Nat) : Int) = lexA (if (tokF (s.drop i)).1 = 0 then
        lexI s f (line + cntF s old i) i (i + (tokF (s.drop i)).2.2.1 + skF false (s.drop (i + (tokF (s.drop i)).2.2.1))) (acc ++ [⟨(tokF (s.drop i)).2.1, (s.drop i).take (tokF (s.drop i)).2.2.1, ((tokF (s.drop i)).2.2.2 : Nat), (i : Int), ((line + cntF s old i : Nat) : Int)⟩])
      else ([], i, (tokF (s.drop i)).1)) := by
      intro kd num n b1 ht
      rw [ht] at hpos hle ⊢
      have hpos := hpos rfl
      dsimp only at hpos hle ⊢
      have hk := skF_le false (s.drop (i + n))
      rw [List.length_drop] at hk
      rw [if_pos rfl, j13_ok s hs k m i (i + n) acc _ kd b1 num i _ (by omega) (by omega) h6 (by omega), show i + n - i = n by omega]
      generalize cntF s old i = cn at *
      generalize skF false (s.drop (i + n)) = q at *
      refine ih (line + cn) i (i + n + q) m k _ ?_ ?_ ?_ ?_ ?_ ?_ ?_
      · omega
      · omega
      · omega
      · omega
      · omega
      · rw [List.length_append, List.length_singleton]; omega
      · omega
    have stop : ∀ (e : Int) (x : Int × Nat × Nat), e ≠ 0 → tokF (s.drop i) = (e, x) → (some ([.vsl none (.named 29) [], .int .i64 (i : Int), .int .i64 e], []) : Option (Ans N)) = lexA (if (tokF (s.drop i)).1 = 0 then
        lexI s f (line + cntF s old i) i (i + (tokF (s.drop i)).2.2.1 + skF false (s.drop (i + (tokF (s.drop i)).2.2.1))) (acc ++ [⟨(tokF (s.drop i)).2.1, (s.drop i).take (tokF (s.drop i)).2.2.1, ((tokF (s.drop i)).2.2.2 : Nat), (i : Int), ((line + cntF s old i : Nat) : Int)⟩])
      else ([], i, (tokF (s.drop i)).1)) := by
      intro e x he ht
      rw [ht]; dsimp only; rw [if_neg he]; rfl
    generalize lexA (if (tokF (s.drop i)).1 = 0 then
        lexI s f (line + cntF s old i) i (i + (tokF (s.drop i)).2.2.1 + skF false (s.drop (i + (tokF (s.drop i)).2.2.1))) (acc ++ [⟨(tokF (s.drop i)).2.1, (s.drop i).take (tokF (s.drop i)).2.2.1, ((tokF (s.drop i)).2.2.2 : Nat), (i : Int), ((line + cntF s old i : Nat) : Int)⟩])
      else ([], i, (tokF (s.drop i)).1)) = R at next stop ⊢
    obtain ⟨k, rfl⟩ : ∃ k', k = k' + 2 := ⟨k - 2, by omega⟩
    rw [if_pos (by omega), if_pos (by omega), Int.toNat_natCast, e17 (k + 1), Option.bind_some, res17_eq]
    by_cases hL : LI ((s.getD i 0).toNat : Int) = true
    · have hE : i + 1 + endF PI (s.drop (i + 1)) = i + endF PI (s.drop i) := by
        have hp : PI ((s.getD i 0).toNat : Int) = true := by unfold PI; rw [hL]; rfl
        rw [drop_at hi, endF, if_pos hp]; omega
      have ht : tokF (s.drop i) = if 64 < endF PI (s.drop i) then (5, 0, 0, 0) else (0, if KWF ((s.drop i).take (endF PI (s.drop i))) = true then 2 else 1, endF PI (s.drop i), 0) := by
        unfold tokF; rw [getD_drop0, if_pos hL]
      have h13 := l13_2_ok s hs (k + 2) m i acc ((line + cntF s old i : Nat) : Int) i (0 : Int) [] (0 : Int) (i : Int) ((line + cntF s old i : Nat) : Int) (by omega) (s.length - (i + 1)) (i + 1) (k + 2) (Nat.le_refl _) (by omega) (by omega) (by omega)
      rw [hE, show i + endF PI (s.drop i) - i = endF PI (s.drop i) by omega] at h13
      rw [if_pos hL, w64 (x := (i : Int) + 1) (by omega) (by omega), show (i : Int) + 1 = ((i + 1 : Nat) : Int) from rfl, h13]
      clear h13 hE
      by_cases h64 : 64 < endF PI (s.drop i)
      · rw [if_pos h64] at ht ⊢
        exact stop 5 _ (by omega) ht
      · rw [if_neg h64] at ht ⊢
        by_cases hk : KWF ((s.drop i).take (endF PI (s.drop i))) = true
        · rw [if_pos hk] at ht ⊢
          exact next 2 0 _ [] ht
        · rw [if_neg hk] at ht ⊢
          exact next 1 0 _ [] ht
    · have e18' := e18 (k + 1) _ 10 hc256 (.inl rfl)
      rw [if_neg hL, if_pos (by omega), if_pos (by omega), show (10 : Int) = ((10 : Nat) : Int) from rfl, e18', Option.bind_some, res18_eq]
      have hDI : dgI 10 (s.getD i 0).toNat ≥ 0 ↔ DI ((s.getD i 0).toNat : Int) = true := by
        rw [DI_dig]
        unfold dgI digP
        rw [Int.toNat_natCast]
        by_cases h : dv (s.getD i 0).toNat < 10
        · rw [if_pos h, decide_eq_true h]; exact ⟨fun _ => rfl, fun _ => by omega⟩
        · rw [if_neg h, decide_eq_false h]; exact ⟨fun h => absurd h (by decide), fun h => absurd h (by simp)⟩
      clear e18'
      by_cases hD : DI ((s.getD i 0).toNat : Int) = true
      · have ht : tokF (s.drop i) = if (numF (s.drop i)).1 = 0 then (0, 3, (numF (s.drop i)).2.1, (numF (s.drop i)).2.2) else ((numF (s.drop i)).1, 0, 0, 0) := by
          unfold tokF; rw [getD_drop0, if_neg hL, if_pos hD]
        rw [if_pos (hDI.mpr hD), eRNum s (by omega) i (k + 2) hi (by omega)]
        unfold numR
        rw [Option.bind_some, res31_eq]
        by_cases h0 : (numF (s.drop i)).1 = 0
        · rw [if_pos h0] at ht
          rw [if_neg (by omega)]
          exact next 3 _ _ [] ht
        · rw [if_neg h0] at ht
          rw [if_pos h0]
          exact stop _ _ h0 ht
      · have ht : tokF (s.drop i) = if puF (s.drop i) = 0 then (4, 0, 0, 0) else (0, 4, puF (s.drop i), 0) := by
          unfold tokF; rw [getD_drop0, if_neg hL, if_neg hD]
        have hk2 : 1010 ≤ k + 2 := by omega
        have hb1 : i < 4611686018427387904 := by omega
        have w1 := wi1 i hb1
        have w2 := wi2 i hb1
        have e32a : evF T (k + 2) 32 [.str ((s.drop i).take 2), .vsl none .str TWOS] [] = some ([.bool (decide ((s.drop i).take 2 ∈ TWOS))], []) := eOne _ TWOS (by decide) (k + 2) hk2
        have e32b : evF T (k + 2) 32 [.str ((s.drop i).take 1), .vsl none .str ONEL] [] = some ([.bool (decide (s.getD i 0 ∈ ONES))], []) := by
          rw [eOne _ ONEL (by decide) (k + 2) hk2, one2 s i hi]
          exact sb (decide_eq_decide.mpr (mem_ONEL _))
        have one : ((evF T (k + 2) 32 [.str ((s.drop i).take 1), .vsl none .str ONEL] []).bind fun r => res32 r fun y13 => if (!y13) = true then some ([.vsl none (.named 29) [], .int .i64 (i : Int), .int .i64 (4 : Int)], []) else j13_0 (k + 2) m s ((line + cntF s old i : Nat) : Int) i i ((i + 1 : Nat) : Int) acc (4 : Int) [] (0 : Int) (i : Int) ((line + cntF s old i : Nat) : Int) : Option (Ans N)) = (if (!decide (s.getD i 0 ∈ ONES)) = true then some ([.vsl none (.named 29) [], .int .i64 (i : Int), .int .i64 (4 : Int)], []) else j13_0 (k + 2) m s ((line + cntF s old i : Nat) : Int) i i ((i + 1 : Nat) : Int) acc (4 : Int) [] (0 : Int) (i : Int) ((line + cntF s old i : Nat) : Int)) := by
          rw [e32b, Option.bind_some, res32_eq]
        have t1 : (s.take (i + 1)).drop i = (s.drop i).take 1 := take_drop s i 1
        have t2 : (s.take (i + 2)).drop i = (s.drop i).take 2 := take_drop s i 2
        have last : ¬ (2 ≤ (s.drop i).length ∧ (s.drop i).take 2 ∈ TWOS) → (if (!decide (s.getD i 0 ∈ ONES)) = true then some ([.vsl none (.named 29) [], .int .i64 (i : Int), .int .i64 (4 : Int)], []) else j13_0 (k + 2) m s ((line + cntF s old i : Nat) : Int) i i ((i + 1 : Nat) : Int) acc (4 : Int) [] (0 : Int) (i : Int) ((line + cntF s old i : Nat) : Int) : Option (Ans N)) = R := fun hno => by
          unfold puF at ht
          rw [if_neg hno, getD_drop0] at ht
          by_cases h1 : s.getD i 0 ∈ ONES
          · rw [if_pos h1, if_neg (by decide)] at ht
            rw [if_neg (by simpa using h1)]
            exact next 4 0 1 [] ht
          · rw [if_neg h1, if_pos rfl] at ht
            rw [if_pos (by simpa using h1)]
            exact stop 4 _ (by decide) ht
        rw [if_neg (fun h => hD (hDI.mp h)), w1, w2]
        have c1 : (0 : Int) ≤ ((i + 1 : Nat) : Int) := Int.natCast_nonneg _
        have c2 : (0 : Int) ≤ ((i + 2 : Nat) : Int) := Int.natCast_nonneg _
        have c3 : (0 : Int) ≤ (i : Int) := Int.natCast_nonneg _
        have c4 : (i : Int) ≤ ((i + 1 : Nat) : Int) := Int.ofNat_le.mpr (Nat.le_succ _)
        have c5 : (i : Int) ≤ ((i + 2 : Nat) : Int) := Int.ofNat_le.mpr (Nat.le_add_right _ _)
        have c6 : ((i + 1 : Nat) : Int) ≤ (s.length : Int) := Int.ofNat_le.mpr hi
        by_cases hlt : i + 1 < s.length
        · have c7 : ((i + 1 : Nat) : Int) < (s.length : Int) := Int.ofNat_lt.mpr hlt
          have c8 : ((i + 2 : Nat) : Int) ≤ (s.length : Int) := Int.ofNat_le.mpr hlt
          rw [if_pos c7, if_pos c2, if_pos c8, if_pos c3, if_pos c5, Int.toNat_natCast, Int.toNat_natCast, t2]
          refine (congrArg (fun z : Option (Ans N) => z.bind _) e32a).trans ?_
          rw [Option.bind_some, res32_eq]
          by_cases h2 : (s.drop i).take 2 ∈ TWOS
          · have hh : 2 ≤ (s.drop i).length ∧ (s.drop i).take 2 ∈ TWOS := ⟨by rw [List.length_drop]; exact Nat.le_sub_of_add_le (by rw [Nat.add_comm]; exact hlt), h2⟩
            rw [if_pos (decide_eq_true h2)]
            unfold puF at ht
            rw [if_pos hh, if_neg (by decide)] at ht
            exact next 4 0 2 [] ht
          · rw [if_neg (by simpa using h2), if_pos c1, if_pos c6, if_pos c3, if_pos c4, t1]
            exact one.trans (last (fun h => h2 h.2))
        · have c7 : ¬ ((i + 1 : Nat) : Int) < (s.length : Int) := fun h => hlt (Int.ofNat_lt.mp h)
          rw [if_neg c7, if_pos c1, if_pos c6, if_pos c3, if_pos c4, Int.toNat_natCast, t1]
          refine one.trans (last (fun h => hlt ?_))
          have := h.1
          rw [List.length_drop] at this
          exact Nat.lt_of_sub_pos (Nat.lt_of_lt_of_le (by decide) (Nat.sub_le_sub_right this 1))
theorem eRLex (s : List UInt8) (k : Nat) (hk : s.length + 1300 ≤ k) : evF T k 13 [.str s] [] = lexA (LexF s) := by
  obtain ⟨k, rfl⟩ : ∃ k', k = k' + 1 := ⟨k - 1, by omega⟩
  rw [f13_eq]
  unfold LexF
  by_cases h : 65536 < s.length
  · rw [if_pos (by omega), if_pos h]; rfl
  · have hS := eRSkip s (by omega) 0 k (by omega) (by omega)
    have hk' := skF_le false s
    rw [if_neg (by omega), if_neg h, show (0 : Int) = ((0 : Nat) : Int) from rfl, hS, Option.bind_some, res14_eq, List.drop_zero, Nat.zero_add]
    exact l13_ok s (by omega) (s.length + 1) 1 0 (skF false s) k k [] (by omega) (by omega) (by omega) (by omega) (by omega) (by simp) (by omega)

end Go.Proofs.YtpcieagmnllimaaDoor
