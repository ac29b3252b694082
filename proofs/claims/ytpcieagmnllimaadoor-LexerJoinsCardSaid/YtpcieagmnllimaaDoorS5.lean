import Derived.Test.YtpcieagmnllimaaDoorS4
set_option linter.all false
namespace Go.Proofs.YtpcieagmnllimaaDoor
open Go Go.RowKit Go.Vm
/-! #### the reference's number -/
def numR (at_ : Nat) (p : Int × Nat × Nat) : Option (Ans N) := some ([.int .u64 (p.2.2 : Nat), .int .i64 ((at_ + p.2.1 : Nat) : Int), .int .i64 p.1], [])
theorem goesOn_lt {s : List UInt8} {i : Nat} (h : i < s.length) : goesOn (s.drop i) = PI ((s.getD i 0).toNat : Int) := by rw [drop_at h]; rfl
theorem goesOn_ge {s : List UInt8} {i : Nat} (h : s.length ≤ i) : goesOn (s.drop i) = false := by rw [List.drop_eq_nil_of_le h]; rfl
theorem valB_cons (b acc : Nat) (c : UInt8) (l : List UInt8) : valB b acc (c :: l) = valB b (acc * b + dv c.toNat) l := rfl
/-- What the reference's loop answers from a place on. -/
def numL (s : List UInt8) (at_ from_ b acc i : Nat) : Option (Ans N) :=
  numR at_ (if i + endF (digP b) (s.drop i) = from_ then (4, 0, 0) else if goesOn (s.drop (i + endF (digP b) (s.drop i))) = true then (4, 0, 0) else
    if valB b acc ((s.drop i).take (endF (digP b) (s.drop i))) < 18446744073709551616 then (0, i + endF (digP b) (s.drop i) - at_, valB b acc ((s.drop i).take (endF (digP b) (s.drop i)))) else (5, 0, 0))
theorem big_iff (b acc d : Nat) (hb : isBase b) (hd : d < b) (ha : acc < 18446744073709551616) : ((acc : Int) > wr .u64 ((wr .u64 ((18446744073709551615 : Int) - (wr .u64 (d : Int)))).tdiv (wr .u64 (b : Int)))) ↔ 18446744073709551616 ≤ acc * b + d := by
  have hb16 : b ≤ 16 ∧ 2 ≤ b := by unfold isBase at hb; omega
  rw [wu64 (x := (d : Int)) (by omega) (by omega), wu64 (x := (b : Int)) (by omega) (by omega), wu64 (x := 18446744073709551615 - (d : Int)) (by omega) (by omega), show (18446744073709551615 : Int) - (d : Int) = ((18446744073709551615 - d : Nat) : Int) by omega]
  have e : Int.tdiv ((18446744073709551615 - d : Nat) : Int) (b : Int) = (((18446744073709551615 - d) / b : Nat) : Int) := rfl
  rw [e]
  rcases hb with rfl | rfl | rfl <;> (rw [wu64 (by omega) (by omega)]; omega)
theorem l31_ok (s : List UInt8) (hs : s.length < 4611686018427387904) (at_ from_ b : Nat) (hb : isBase b) : ∀ (n i k m acc : Nat) (x10 : Int) (big : Bool), s.length - i ≤ n → at_ ≤ i → from_ ≤ i → i ≤ s.length → n < m → 10 ≤ k →
    ((big = false ∧ x10 = acc ∧ acc < 18446744073709551616) ∨ (big = true ∧ 0 ≤ x10 ∧ x10 < 18446744073709551616 ∧ 18446744073709551616 ≤ acc)) → l31_0 k m s at_ b i from_ x10 big = numL s at_ from_ b acc i := by
  have hb16 : b ≤ 16 ∧ 2 ≤ b := by unfold isBase at hb; omega
  have fin : ∀ (i acc : Nat) (x10 : Int) (big : Bool), at_ ≤ i → ((big = false ∧ x10 = acc ∧ acc < 18446744073709551616) ∨ (big = true ∧ 0 ≤ x10 ∧ x10 < 18446744073709551616 ∧ 18446744073709551616 ≤ acc)) →
      (if big = true then some ([.int .u64 (0 : Int), .int .i64 (at_ : Int), .int .i64 (5 : Int)], []) else some ([.int .u64 x10, .int .i64 (i : Int), .int .i64 (0 : Int)], []) : Option (Ans N)) = numR at_ (if acc < 18446744073709551616 then (0, i - at_, acc) else (5, 0, 0)) := by
    intro i acc x10 big hi h
    rcases h with ⟨rfl, rfl, h⟩ | ⟨rfl, -, -, h⟩
    · rw [if_neg (by simp), if_pos h]
      unfold numR
      dsimp only
      rw [show at_ + (i - at_) = i by omega]
    · rw [if_pos rfl, if_neg (by omega)]; rfl
  intro n
  induction n with
  | zero =>
    intro i k m acc x10 big h1 h2 h2' h3 h4 h5 h6
    obtain ⟨m, rfl⟩ : ∃ m', m = m' + 1 := ⟨m - 1, by omega⟩
    unfold numL
    rw [l31_0_eq, if_neg (by omega), List.drop_eq_nil_of_le (show s.length ≤ i by omega), show endF (digP b) [] = 0 from rfl, Nat.add_zero, goesOn_ge (by omega), List.take_zero, show valB b acc [] = acc from rfl]
    by_cases hf : i = from_
    · rw [if_pos (by omega), if_pos hf]; rfl
    · rw [if_neg (by omega), if_neg hf, if_neg (by omega), if_neg (show ¬ (false = true) by simp)]
      exact fin i acc x10 big h2 h6
  | succ n ih =>
    intro i k m acc x10 big h1 h2 h2' h3 h4 h5 h6
    by_cases hi : i < s.length
    case neg => exact ih i k m acc x10 big (by omega) h2 h2' h3 (by omega) h5 h6
    obtain ⟨m, rfl⟩ : ∃ m', m = m' + 1 := ⟨m - 1, by omega⟩
    obtain ⟨k, rfl⟩ : ∃ k', k = k' + 2 := ⟨k - 2, by omega⟩
    have hc : (s.getD i 0).toNat < 256 := UInt8.toNat_lt _
    have e := e18 (k + 1) _ b hc hb
    rw [l31_0_eq, if_pos (by omega), if_pos (by omega), if_pos (by omega), Int.toNat_natCast, e, Option.bind_some, res18_eq]
    unfold dgI
    by_cases hd : dv (s.getD i 0).toNat < b
    · have hp : digP b ((s.getD i 0).toNat : Int) = true := by unfold digP; rw [Int.toNat_natCast]; exact decide_eq_true hd
      have step : numL s at_ from_ b acc i = numL s at_ from_ b (acc * b + dv (s.getD i 0).toNat) (i + 1) := by
        unfold numL
        rw [drop_at hi, endF, if_pos hp, List.take_succ_cons, valB_cons]
        rw [show i + (endF (digP b) (s.drop (i + 1)) + 1) = i + 1 + endF (digP b) (s.drop (i + 1)) by omega]
      rw [if_pos hd, if_pos (by omega), if_pos (by omega), if_pos (by omega), Option.bind_some, res18_eq, if_neg (by rw [wu64 (by omega) (by omega)]; omega), step]
      have j1 : ∀ big' : Bool, j31_1 (k + 2) m s at_ b i from_ x10 big' (wr .u64 (dv (s.getD i 0).toNat : Int)) = l31_0 (k + 2) m s at_ b ((i + 1 : Nat) : Int) from_ (wr .u64 ((wr .u64 (x10 * (b : Int))) + (dv (s.getD i 0).toNat : Int))) big' := by
        intro big'
        rw [j31_1_eq, w64 (by omega) (by omega), wu64 (x := (b : Int)) (by omega) (by omega), wu64 (x := (dv (s.getD i 0).toNat : Int)) (by omega) (by omega)]
        rfl
      have hw : ∀ x : Int, 0 ≤ wr .u64 x ∧ wr .u64 x < 18446744073709551616 := fun x => by
        rw [show wr .u64 x = x % 18446744073709551616 from (show IntKind.wrap .u64 x = _ by simp [IntKind.wrap, IntKind.bits, IntKind.signed])]; omega
      rcases h6 with ⟨rfl, rfl, ha⟩ | ⟨rfl, hx0, hx1, ha⟩
      · by_cases hbig : 18446744073709551616 ≤ acc * b + dv (s.getD i 0).toNat
        · rw [if_pos ((big_iff b acc _ hb hd ha).mpr hbig), j1]
          exact ih (i + 1) (k + 2) m _ _ true (by omega) (by omega) (by omega) (by omega) (by omega) (by omega) (.inr ⟨rfl, (hw _).1, (hw _).2, hbig⟩)
        · rw [if_neg (fun h => hbig ((big_iff b acc _ hb hd ha).mp h)), j1]
          have ea : ((acc : Int) * (b : Int)) = ((acc * b : Nat) : Int) := by simp
          rw [ea, wu64 (x := ((acc * b : Nat) : Int)) (by omega) (by omega), wu64 (by omega) (by omega)]
          exact ih (i + 1) (k + 2) m (acc * b + dv (s.getD i 0).toNat) _ false (by omega) (by omega) (by omega) (by omega) (by omega) (by omega) (.inl ⟨rfl, by omega, by omega⟩)
      · have hge : 18446744073709551616 ≤ acc * b + dv (s.getD i 0).toNat := by
          have : acc * 1 ≤ acc * b := Nat.mul_le_mul_left _ (by omega)
          omega
        have go : j31_1 (k + 2) m s at_ b i from_ x10 true (wr .u64 (dv (s.getD i 0).toNat : Int)) = numL s at_ from_ b (acc * b + dv (s.getD i 0).toNat) (i + 1) := by
          rw [j1]
          exact ih (i + 1) (k + 2) m _ _ true (by omega) (by omega) (by omega) (by omega) (by omega) (by omega) (.inr ⟨rfl, (hw _).1, (hw _).2, hge⟩)
        split
        · exact go
        · exact go
    · have hp : ¬ digP b ((s.getD i 0).toNat : Int) = true := by unfold digP; rw [Int.toNat_natCast]; simpa using hd
      rw [if_neg hd, if_neg (by omega)]
      unfold numL
      have hE : endF (digP b) (s.drop i) = 0 := by rw [drop_at hi, endF, if_neg hp]
      rw [hE, Nat.add_zero i, List.take_zero, goesOn_lt hi, show valB b acc [] = acc from rfl]
      by_cases hf : i = from_
      · rw [if_pos (by omega), if_pos hf]; rfl
      · rw [if_neg (by omega), if_neg hf, if_pos (by omega), if_pos (by omega), if_pos (by omega), e30 k _ hc, Option.bind_some, res30_eq]
        by_cases hp2 : PI ((s.getD i 0).toNat : Int) = true
        · rw [if_pos hp2, if_pos hp2]; rfl
        · rw [if_neg hp2, if_neg hp2]
          exact fin i acc x10 big h2 h6
theorem eRNum (s : List UInt8) (hs : s.length < 4611686018427387904) (i k : Nat) (hi : i < s.length) (hk : s.length + 30 ≤ k) : evF T k 31 [.str s, .int .i64 i] [] = numR i (numF (s.drop i)) := by
  obtain ⟨k, rfl⟩ : ∃ k', k = k' + 1 := ⟨k - 1, by omega⟩
  have j : ∀ b o : Nat, isBase b → i + o ≤ s.length → bsF (s.drop i) = (b, o) → j31_0 k s i b ((i + o : Nat) : Int) = numR i (numF (s.drop i)) := by
    intro b o hb ho hF
    rw [j31_0_eq]
    have := l31_ok s hs i (i + o) b hb _ (i + o) k k 0 0 false (Nat.le_refl _) (by omega) (by omega) ho (by omega) (by omega) (.inl ⟨rfl, rfl, by omega⟩)
    rw [this]
    unfold numL numF
    rw [hF]
    dsimp only
    rw [List.drop_drop, List.drop_drop]
    generalize endF (digP b) (s.drop (i + o)) = n
    rw [show i + o + n = i + (o + n) by omega]
    by_cases h0 : n = 0
    · rw [if_pos (by omega), if_pos h0]
    · rw [if_neg (by omega), if_neg h0, show i + (o + n) - i = o + n by omega]
  have e2 : wrap64 ((i : Int) + 2) = ((i + 2 : Nat) : Int) := by rw [w64 (by omega) (by omega)]; rfl
  have e1 : wrap64 ((i : Int) + 1) = ((i + 1 : Nat) : Int) := by rw [w64 (by omega) (by omega)]; rfl
  rw [f31_eq, e1, e2, if_pos (by omega), if_pos (by omega), Int.toNat_natCast, Int.toNat_natCast]
  have u : ∀ (c : UInt8) (n : Nat), n < 256 → ((c.toNat : Int) = n ↔ c = UInt8.ofNat n) := fun c n hn => by
    constructor
    · intro h
      apply UInt8.toNat_inj.mp
      rw [UInt8.toNat_ofNat']
      omega
    · rintro rfl
      rw [UInt8.toNat_ofNat']
      omega
  by_cases h0 : ((s.getD i 0).toNat : Int) = 48
  · rw [if_pos h0]
    have h0' : s.getD i 0 = 48 := (u _ 48 (by omega)).mp h0
    by_cases h1 : i + 1 < s.length
    · have hd : s.drop i = 48 :: s.getD (i + 1) 0 :: s.drop (i + 2) := by rw [drop_at hi, drop_at h1, h0']
      rw [if_pos (by omega), if_pos (by omega), if_pos (by omega)]
      by_cases hx : ((s.getD (i + 1) 0).toNat : Int) = 120
      · have hx' : s.getD (i + 1) 0 = 120 := (u _ 120 (by omega)).mp hx
        rw [if_pos hx, if_pos (by omega), if_pos (by omega), if_neg (by omega)]
        exact j 16 2 (.inr (.inl rfl)) (by omega) (by rw [hd, hx']; rfl)
      · rw [if_neg hx, if_pos (by omega), if_pos (by omega)]
        have hx' : ¬ s.getD (i + 1) 0 = 120 := fun h => hx ((u _ 120 (by omega)).mpr h)
        by_cases hb : ((s.getD (i + 1) 0).toNat : Int) = 98
        · have hb' : s.getD (i + 1) 0 = 98 := (u _ 98 (by omega)).mp hb
          rw [if_pos hb, if_pos (by omega), if_pos (by omega), if_pos hb]
          exact j 2 2 (.inr (.inr rfl)) (by omega) (by rw [hd, hb']; rfl)
        · have hb' : ¬ s.getD (i + 1) 0 = 98 := fun h => hb ((u _ 98 (by omega)).mpr h)
          rw [if_neg hb]
          refine j 10 0 (.inl rfl) (by omega) ?_
          rw [hd]
          unfold bsF
          have a1 : [48, 120].isPrefixOf (48 :: s.getD (i + 1) 0 :: s.drop (i + 2)) = false := by simp [List.isPrefixOf]; exact fun h => hx' h.symm
          have a2 : [48, 98].isPrefixOf (48 :: s.getD (i + 1) 0 :: s.drop (i + 2)) = false := by simp [List.isPrefixOf]; exact fun h => hb' h.symm
          rw [a1, a2]; rfl
    · rw [if_neg (by omega)]
      refine j 10 0 (.inl rfl) (by omega) ?_
      rw [drop_at hi, List.drop_eq_nil_of_le (by omega)]
      unfold bsF
      rw [show [48, 120].isPrefixOf [s.getD i 0] = false by simp [List.isPrefixOf], show [48, 98].isPrefixOf [s.getD i 0] = false by simp [List.isPrefixOf]]; rfl
  · rw [if_neg h0]
    refine j 10 0 (.inl rfl) (by omega) ?_
    have h0' : ¬ s.getD i 0 = 48 := fun h => h0 ((u _ 48 (by omega)).mpr h)
    rw [drop_at hi]
    unfold bsF
    have a1 : ∀ x, [48, x].isPrefixOf (s.getD i 0 :: s.drop (i + 1)) = false := fun x => by simp [List.isPrefixOf]; intro h; exact absurd h.symm h0'
    rw [a1, a1]; rfl

end Go.Proofs.YtpcieagmnllimaaDoor
