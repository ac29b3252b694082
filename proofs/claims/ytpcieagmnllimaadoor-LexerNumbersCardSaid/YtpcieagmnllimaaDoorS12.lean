import Derived.Test.YtpcieagmnllimaaDoorS10
import Derived.Test.YtpcieagmnllimaaDoorS13
set_option linter.all false
namespace Go.Proofs.YtpcieagmnllimaaDoor
open Go Go.RowKit Go.Vm
/-! #### numbers that are written -/
abbrev HEX : List UInt8 := [(48 : UInt8), (49 : UInt8), (50 : UInt8), (51 : UInt8), (52 : UInt8), (53 : UInt8), (54 : UInt8), (55 : UInt8), (56 : UInt8), (57 : UInt8), (97 : UInt8), (98 : UInt8), (99 : UInt8), (100 : UInt8), (101 : UInt8), (102 : UInt8)]
def hexc (d : Nat) : UInt8 := HEX.getD d 0
theorem hex_take : ∀ d, d < 16 → (HEX.take (d + 1)).drop d = [hexc d] ∧ dv (hexc d).toNat = d := by decide
def digs (b : Nat) : Nat → Nat → List UInt8 → List UInt8
  | 0, _, acc => acc
  | f + 1, x, acc => if x = 0 then acc else digs b f (x / b) (hexc (x % b) :: acc)
theorem digs_val (b : Nat) (hb : 2 ≤ b ∧ b ≤ 16) : ∀ (f x : Nat) (acc : List UInt8), x < 2 ^ f → valB b 0 (digs b f x acc) = valB b x acc ∧ (digs b f x acc).length ≤ f + acc.length ∧ ((∀ c ∈ acc, dv c.toNat < b) → ∀ c ∈ digs b f x acc, dv c.toNat < b) ∧ (acc ≠ [] ∨ x ≠ 0 → digs b f x acc ≠ [])
  | 0, x, acc, h => by
    obtain rfl : x = 0 := by simp at h; omega
    exact ⟨rfl, by simp [digs], fun h => h, fun h => h.elim id (fun h => absurd rfl h)⟩
  | f + 1, x, acc, h => by
    unfold digs
    by_cases h0 : x = 0
    · rw [if_pos h0, h0]
      exact ⟨rfl, by omega, fun h => h, fun h => h.elim id (fun h => absurd rfl h)⟩
    · rw [if_neg h0]
      have hlt : x % b < b := Nat.mod_lt _ (by omega)
      obtain ⟨g1, g2⟩ := hex_take (x % b) (by omega)
      have hx : x / b < 2 ^ f := by
        rw [Nat.div_lt_iff_lt_mul (by omega)]
        rw [Nat.pow_succ] at h
        exact Nat.lt_of_lt_of_le h (Nat.mul_le_mul_left _ hb.1)
      obtain ⟨i1, i2, i3, i4⟩ := digs_val b hb f (x / b) (hexc (x % b) :: acc) hx
      refine ⟨?_, ?_, fun hc => i3 (fun c hm => ?_), fun _ => i4 (.inl (by simp))⟩
      · rw [i1, valB_cons, g2, Nat.div_add_mod' x b]
      · rw [List.length_cons] at i2; omega
      · rcases List.mem_cons.mp hm with rfl | hm
        · rw [g2]; exact hlt
        · exact hc c hm
theorem valB_zeros (b : Nat) : ∀ (z : Nat) (l : List UInt8), valB b 0 (List.replicate z 48 ++ l) = valB b 0 l
  | 0, l => rfl
  | z + 1, l => by
    rw [List.replicate_succ, List.cons_append, valB_cons]
    have : dv (48 : UInt8).toNat = 0 := by decide
    rw [this, Nat.zero_mul, Nat.add_zero]
    exact valB_zeros b z l
/-- A number's text: its base, its digits. -/
def preB (b : Nat) : List UInt8 := if b = 16 then [48, 120] else if b = 2 then [48, 98] else []
theorem bsF_pre (b : Nat) (hb : isBase b) (R r : List UInt8) (h10 : b = 10 → ¬ [48, 120].isPrefixOf (R ++ r) = true ∧ ¬ [48, 98].isPrefixOf (R ++ r) = true) : bsF (preB b ++ R ++ r) = (b, (preB b).length) := by
  rcases hb with rfl | rfl | rfl
  · obtain ⟨h1, h2⟩ := h10 rfl
    have e : preB 10 = [] := rfl
    rw [e, List.nil_append]
    unfold bsF
    rw [if_neg h1, if_neg h2]; rfl
  · rfl
  · rfl
/-- What a number's text followed by something that is no digit is. -/
theorem numF_text2 (b : Nat) (hb : isBase b) (R : List UInt8) (c : UInt8) (r : List UInt8) (hR : R ≠ []) (hd : ∀ x ∈ R, dv x.toNat < b) (hc : ¬ digP b (c.toNat : Int) = true) (hv : valB b 0 R < 18446744073709551616)
    (h10 : b = 10 → ¬ [48, 120].isPrefixOf (R ++ c :: r) = true ∧ ¬ [48, 98].isPrefixOf (R ++ c :: r) = true) :
    numF (preB b ++ R ++ c :: r) = if PI (c.toNat : Int) = true then (4, 0, 0) else (0, (preB b ++ R).length, valB b 0 R) := by
  have hE : endF (digP b) (R ++ c :: r) = R.length := by
    rw [endF_app _ _ _ (fun x hx => by unfold digP; rw [Int.toNat_natCast]; exact decide_eq_true (hd x hx)), endF, if_neg hc]; rfl
  have hpos : 0 < R.length := List.length_pos_iff.mpr hR
  unfold numF
  rw [bsF_pre b hb R (c :: r) h10]
  dsimp only
  have e1 : (preB b ++ R ++ c :: r).drop (preB b).length = R ++ c :: r := by rw [List.append_assoc, List.drop_left' rfl]
  have e2 : (preB b ++ R ++ c :: r).drop ((preB b).length + R.length) = c :: r := by rw [← List.drop_drop, e1, List.drop_left' rfl]
  have e3 : (R ++ c :: r).take R.length = R := List.take_left' rfl
  rw [e1, hE, e2, e3, if_neg (by omega)]
  by_cases hp : PI (c.toNat : Int) = true
  · rw [if_pos hp, if_pos (show goesOn (c :: r) = true from hp)]
  · rw [if_neg hp, if_neg (show ¬ goesOn (c :: r) = true from hp), if_pos hv, List.length_append]
theorem first_digit (b : Nat) (hb : isBase b) (R : List UInt8) (hR : R ≠ []) (hd : ∀ x ∈ R, dv x.toNat < b) (r : List UInt8) : DI (((preB b ++ R ++ r).getD 0 0).toNat : Int) = true := by
  rcases hb with rfl | rfl | rfl
  · match R, hR, hd with
    | x :: t, _, hd =>
      show DI (x.toNat : Int) = true
      rw [DI_dig]
      unfold digP
      rw [Int.toNat_natCast]
      exact decide_eq_true (hd x (by simp))
  · show DI (((48 : UInt8).toNat : Nat) : Int) = true; decide
  · show DI (((48 : UInt8).toNat : Nat) : Int) = true; decide
theorem DI_not_LI (a : Int) (h : DI a = true) : ¬ LI a = true := by
  unfold DI at h; unfold LI
  simp at h ⊢; omega
theorem PI_of_DI (a : Int) (h : DI a = true) : PI a = true := by unfold PI; rw [h, Bool.or_true]
theorem tokF_num (l : List UInt8) (h : DI ((l.getD 0 0).toNat : Int) = true) : tokF l = if (numF l).1 = 0 then (0, 3, (numF l).2.1, (numF l).2.2) else ((numF l).1, 0, 0, 0) := by
  unfold tokF
  rw [if_neg (DI_not_LI _ h), if_pos h]
theorem skF_first (l : List UInt8) (hl : l ≠ []) (h : PI ((l.getD 0 0).toNat : Int) = true) : skF false l = 0 := by
  cases l with
  | nil => exact absurd rfl hl
  | cons c t => exact skF_word h
theorem LexF_num (b : Nat) (hb : isBase b) (R : List UInt8) (hR : R ≠ []) (hd : ∀ x ∈ R, dv x.toNat < b) (hl : R.length ≤ 100) (hv : valB b 0 R < 18446744073709551616) (h10 : b = 10 → ¬ [48, 120].isPrefixOf (R ++ [59]) = true ∧ ¬ [48, 98].isPrefixOf (R ++ [59]) = true) :
    LexF (preB b ++ R ++ [59]) = ([⟨3, preB b ++ R, (valB b 0 R : Nat), 0, 1⟩, ⟨4, [59], 0, ((preB b ++ R).length : Nat), 1⟩], (preB b ++ R).length + 1, 0) := by
  have hp2 : (preB b).length ≤ 2 := by unfold preB; split <;> (try split) <;> simp
  have hpos : 0 < R.length := List.length_pos_iff.mpr hR
  have hlen : (preB b ++ R ++ [59]).length = (preB b ++ R).length + 1 := by simp; omega
  have hS : (preB b ++ R).length = (preB b).length + R.length := List.length_append
  have hDI := first_digit b hb R hR hd [59]
  have hne : preB b ++ R ++ [59] ≠ [] := by simp
  have hn := numF_text2 b hb R 59 [] hR hd (by
    unfold digP; rw [Int.toNat_natCast]
    have : dv (59 : UInt8).toNat = 99 := by decide
    rw [this]; unfold isBase at hb; simp; omega) hv h10
  rw [if_neg (by decide)] at hn
  have ht := tokF_num _ hDI
  rw [hn, if_pos rfl] at ht
  have htk : (preB b ++ R ++ [59]).take (preB b ++ R).length = preB b ++ R := List.take_left' rfl
  have hdr : (preB b ++ R ++ [59]).drop (preB b ++ R).length = [59] := List.drop_left' rfl
  have h59 : tokF [59] = (0, 4, 1, 0) := by decide +kernel
  have hs59 : skF false [59] = 0 := by decide
  have hg0 : cntF (preB b ++ R ++ [59]) 0 0 = 0 := by have := cntF_le (preB b ++ R ++ [59]) 0 0; omega
  have hg1 : cntF (preB b ++ R ++ [59]) 0 (preB b ++ R).length = 0 := by
    have := cntF_none (preB b ++ R ++ [59]) 0 (preB b ++ R).length (by
      rw [List.drop_zero]
      have h := tokF_text _ hne (by rw [ht])
      rw [ht] at h; exact h)
    rwa [Nat.zero_add] at this
  have hgood : Good (preB b ++ R ++ [59]) 0 1 0 [⟨3, preB b ++ R, (valB b 0 R : Nat), 0, 1⟩, ⟨4, [59], 0, ((preB b ++ R).length : Nat), 1⟩] := by
    have e0 : 0 + skF false ((preB b ++ R ++ [59]).drop 0) = 0 := by
      rw [List.drop_zero, skF_first _ hne (PI_of_DI _ hDI)]
    refine ⟨?_, ?_, ?_, ?_⟩
    · rw [e0, hlen]; omega
    · rw [e0, List.drop_zero, ht]
    · rw [e0, List.drop_zero, ht]
      dsimp only
      rw [htk, hg0]; rfl
    · rw [e0, List.drop_zero, ht, hg0]
      dsimp only
      rw [Nat.zero_add]
      have e1 : (preB b ++ R).length + skF false ((preB b ++ R ++ [59]).drop (preB b ++ R).length) = (preB b ++ R).length := by rw [hdr, hs59]; rfl
      refine ⟨?_, ?_, ?_, ?_⟩
      · rw [e1, hlen]; omega
      · rw [e1, hdr, h59]
      · rw [e1, hdr, h59]
        dsimp only
        rw [hg1]; rfl
      · rw [e1, hdr, h59]
        show (preB b ++ R).length + 1 + skF false ((preB b ++ R ++ [59]).drop ((preB b ++ R).length + 1)) = _
        rw [List.drop_eq_nil_of_le (by rw [hlen]; exact Nat.le_refl _), hlen]
        rfl
  rw [good_LexF _ (by rw [hlen]; omega) _ hgood, hlen]
theorem LexF_bad (b : Nat) (hb : isBase b) (R : List UInt8) (hR : R ≠ []) (hd : ∀ x ∈ R, dv x.toNat < b) (hl : R.length ≤ 100) (hv : valB b 0 R < 18446744073709551616) (c : UInt8) (hc : 103 ≤ c.toNat ∧ c.toNat ≤ 122) :
    LexF ([43] ++ (preB b ++ R) ++ [c]) = ([], 1, 4) := by
  have hp2 : (preB b).length ≤ 2 := by unfold preB; split <;> (try split) <;> simp
  have hDI := first_digit b hb R hR hd [c]
  have hlen : ([43] ++ (preB b ++ R) ++ [c]).length = (preB b).length + R.length + 2 := by simp; omega
  have hne : preB b ++ R ++ [c] ≠ [] := by simp
  have hd1 : ([43] ++ (preB b ++ R) ++ [c]).drop 1 = preB b ++ R ++ [c] := rfl
  have hPI : PI (c.toNat : Int) = true := by unfold PI LI; simp; omega
  have hdc : ¬ digP b (c.toNat : Int) = true := by
    unfold digP; rw [Int.toNat_natCast]
    have := dv_cases c.toNat
    unfold isBase at hb; simp; omega
  have hnum : (numF (preB b ++ R ++ [c])).1 = 4 := by
    by_cases hx : b = 10 ∧ ([48, 120].isPrefixOf (R ++ [c]) = true ∨ [48, 98].isPrefixOf (R ++ [c]) = true)
    · obtain ⟨rfl, hx⟩ := hx
      have hR1 : R = [48] ∧ c = 120 := by
        match R, hR, hd, hx with
        | [x], _, _, hx =>
          simp [List.isPrefixOf] at hx
          rcases hx with ⟨h1, h2⟩ | ⟨h1, h2⟩
          · exact ⟨by rw [← h1], h2.symm⟩
          · rw [← h2] at hc; exact absurd hc (by decide)
        | x :: y :: t, _, hd, hx =>
          simp [List.isPrefixOf] at hx
          have hy := hd y (by simp)
          rcases hx with ⟨-, h2⟩ | ⟨-, h2⟩
          · rw [← h2] at hy; exact absurd hy (by decide)
          · rw [← h2] at hy; exact absurd hy (by decide)
      obtain ⟨rfl, rfl⟩ := hR1
      decide +kernel
    · rw [numF_text2 b hb R c [] hR hd hdc hv (fun h => ⟨fun h1 => hx ⟨h, .inl h1⟩, fun h1 => hx ⟨h, .inr h1⟩⟩), if_pos hPI]
  have ht := tokF_num _ hDI
  rw [if_neg (by rw [hnum]; decide), hnum] at ht
  have h43 : ∀ l : List UInt8, puF (43 :: l) = 1 := by
    intro l
    unfold puF
    have e43 : ((43 : UInt8) :: l).getD 0 0 = 43 := rfl
    rw [e43, if_neg (fun h => ?_), if_pos (show (43 : UInt8) ∈ ONES by decide)]
    have h2 : ∀ w ∈ TWOS, w.getD 0 0 ≠ 43 := by decide
    have h3 := h2 _ h.2
    cases l with
    | nil => exact h3 rfl
    | cons x t => exact h3 rfl
  have htok : tokF ([43] ++ (preB b ++ R) ++ [c]) = (0, 4, 1, 0) := by
    have e : [43] ++ (preB b ++ R) ++ [c] = 43 :: (preB b ++ R ++ [c]) := rfl
    rw [e]
    unfold tokF
    rw [h43]
    rfl
  have hsk : skF false ([43] ++ (preB b ++ R) ++ [c]) = 0 := by
    have e : [43] ++ (preB b ++ R) ++ [c] = 43 :: (preB b ++ R ++ [c]) := rfl
    rw [e]
    have h1 : ¬ BL (((43 : UInt8).toNat : Nat) : Int) = true := by decide
    have h2 : [47, 47].isPrefixOf ((43 : UInt8) :: (preB b ++ R ++ [c])) = false := rfl
    rw [skF, if_neg h1, h2]; rfl
  unfold LexF
  rw [if_neg (by rw [hlen]; omega), hsk, lexI, if_pos (by rw [hlen]; omega), List.drop_zero, htok, if_pos rfl]
  dsimp only
  rw [Nat.zero_add, hd1, skF_first _ hne (PI_of_DI _ hDI), hlen, lexI, if_pos (by rw [hlen]; omega), hd1, ht, if_neg (by decide)]

def SP (z b x : Nat) : List UInt8 := List.replicate z 48 ++ (if digs b 64 x [] = [] then [48] else digs b 64 x [])
theorem SP_ok (z b x : Nat) (hz : z < 20) (hb : 2 ≤ b ∧ b ≤ 16) (hx : x < 18446744073709551616) : valB b 0 (SP z b x) = x ∧ (SP z b x).length ≤ 90 ∧ SP z b x ≠ [] ∧ ∀ c ∈ SP z b x, dv c.toNat < b := by
  obtain ⟨h1, h2, h3, h4⟩ := digs_val b hb 64 x [] (by omega)
  have h48 : dv (48 : UInt8).toNat = 0 := by decide
  unfold SP
  by_cases h : digs b 64 x [] = []
  · have h0 : x = 0 := by
      by_cases h0 : x = 0
      · exact h0
      · exact absurd h (h4 (.inr h0))
    rw [if_pos h]
    refine ⟨?_, ?_, by simp, ?_⟩
    · rw [valB_zeros, h0]
      show 0 * b + dv (48 : UInt8).toNat = 0
      rw [h48, Nat.zero_mul]
    · simp; omega
    · intro c hc
      rcases List.mem_append.mp hc with hc | hc
      · rw [(List.mem_replicate.mp hc).2, h48]; omega
      · rw [List.mem_singleton.mp hc, h48]; omega
  · rw [if_neg h]
    refine ⟨?_, ?_, by simp [h], ?_⟩
    · rw [valB_zeros, h1]; rfl
    · simp at h2 ⊢; omega
    · intro c hc
      rcases List.mem_append.mp hc with hc | hc
      · rw [(List.mem_replicate.mp hc).2, h48]; omega
      · exact h3 (fun c hc => absurd hc (by simp)) c hc
theorem SP_10 (R : List UInt8) (hR : R ≠ []) (hd : ∀ c ∈ R, dv c.toNat < 10) : ¬ [48, 120].isPrefixOf (R ++ [59]) = true ∧ ¬ [48, 98].isPrefixOf (R ++ [59]) = true := by
  match R, hR, hd with
  | [x], _, _ => exact ⟨by simp [List.isPrefixOf], by simp [List.isPrefixOf]⟩
  | x :: y :: t, _, hd =>
    have hy := hd y (by simp)
    refine ⟨fun h => ?_, fun h => ?_⟩
    · simp [List.isPrefixOf] at h
      rw [← h.2] at hy; exact absurd hy (by decide)
    · simp [List.isPrefixOf] at h
      rw [← h.2] at hy; exact absurd hy (by decide)
theorem j6_2_ok (k m0 : Nat) (x0 : Nat) (x2 : Int) (h2 : 0 ≤ x2 ∧ x2 < 256) (x7 : List UInt8) (b z : Nat) (hb : isBase b) (hz : z < 20) (hx : x0 < 18446744073709551616) (x33 x34 : Int) (r0 : List Int) (hk : 2000 ≤ k) :
    j6_2 k m0 x0 x2 x7 (preB b ++ SP z b x0) x33 x34 r0 = l6_1 k m0 x0 x2 x7 x33 (wrap64 (x34 + 1)) r0 := by
  obtain ⟨g1, g2, g3, g4⟩ := SP_ok z b x0 hz (by unfold isBase at hb; omega) hx
  have hp2 : (preB b).length ≤ 2 := by unfold preB; split <;> (try split) <;> simp
  have hS : (preB b ++ SP z b x0).length = (preB b).length + (SP z b x0).length := List.length_append
  have hv : valB b 0 (SP z b x0) < 18446744073709551616 := by rw [g1]; exact hx
  have hA := LexF_num b hb (SP z b x0) g3 g4 (by omega) hv (fun h => by subst h; exact SP_10 _ g3 g4)
  have hc : 103 + x2.tmod 20 = ((103 + x2.toNat % 20 : Nat) : Int) := by
    obtain ⟨n, rfl⟩ : ∃ n : Nat, x2 = n := ⟨x2.toNat, by omega⟩
    have e : Int.tmod (n : Int) 20 = ((n % 20 : Nat) : Int) := rfl
    rw [e, Int.toNat_natCast]; omega
  have hlt : x2.toNat % 20 < 20 := Nat.mod_lt _ (by omega)
  have hby : ofBytes [wr .u8 ((103 : Int) + x2.tmod 20)] = [UInt8.ofNat (103 + x2.toNat % 20)] := by
    rw [hc, wu8 (by omega) (by omega)]
    unfold ofBytes
    rw [List.map_singleton, Int.toNat_natCast]
  have hB := LexF_bad b hb (SP z b x0) g3 g4 (by omega) hv (UInt8.ofNat (103 + x2.toNat % 20)) (by rw [UInt8.toNat_ofNat']; omega)
  have hk1 : (preB b ++ SP z b x0 ++ [59]).length + 1300 ≤ k := by simp; omega
  have hk2 : ([43] ++ (preB b ++ SP z b x0) ++ [UInt8.ofNat (103 + x2.toNat % 20)]).length + 1300 ≤ k := by simp; omega
  rw [j6_2_eq, hby]
  unfold chk
  rw [if_pos (show strOK _ _ by unfold strOK; simp; omega), eLex _ k hk1, hA, lexA_bind]
  dsimp only
  have q0 : ∀ (a b : S29), [a, b].getD (0 : Int).toNat z29 = a := fun _ _ => rfl
  have q1 : ∀ (a b : S29), [a, b].getD (1 : Int).toNat z29 = b := fun _ _ => rfl
  have q2 : ∀ (a b : S29), ((([a, b] : List S29).length : Nat) : Int) = 2 := fun _ _ => rfl
  simp only [q0, q1, q2]
  rw [if_neg (by decide), if_neg (by decide), if_pos (by decide), if_pos (by decide), if_neg (by decide), if_pos (by decide), if_pos (by decide), if_neg (by rw [g1]; exact fun h => h rfl), if_pos (by decide), if_pos (by decide), if_neg (fun h => h rfl), if_pos (by decide), if_pos (by decide), if_neg (by decide), if_neg (by decide), if_pos (show strOK _ _ by unfold strOK; simp; omega), if_pos (show strOK _ _ by unfold strOK; simp; omega), eLex _ k hk2, hB, lexA_bind]
  dsimp only
  rw [if_neg (by decide), if_neg (by decide), if_neg (by decide)]
theorem j6_0_ok (k m0 : Nat) (x0 : Nat) (x2 : Int) (h2 : 0 ≤ x2 ∧ x2 < 256) (b z : Nat) (hb : isBase b) (hz : z < 20) (hx : x0 < 18446744073709551616) (D : List UInt8) (hD : List.replicate z 48 ++ D = SP z b x0) (x33 x34 : Int) (r0 : List Int) (hk : 2000 ≤ k) :
    j6_0 k m0 x0 x2 (List.replicate z 48) b D x33 x34 r0 = l6_1 k m0 x0 x2 (List.replicate z 48) x33 (wrap64 (x34 + 1)) r0 := by
  have hj := j6_2_ok k m0 x0 x2 h2 (List.replicate z 48) b z hb hz hx x33 x34 r0 hk
  obtain ⟨g1, g2, g3, g4⟩ := SP_ok z b x0 hz (by unfold isBase at hb; omega) hx
  have hlen : (List.replicate z (48 : UInt8)).length + D.length ≤ 90 := by rw [← List.length_append, hD]; exact g2
  rw [j6_0_eq, hD]
  unfold chk
  rw [if_pos (show strOK _ _ by unfold strOK; omega)]
  rcases hb with rfl | rfl | rfl
  · rw [if_neg (by decide), j6_1_eq, if_neg (by decide)]
    exact hj
  · rw [if_pos (by decide), if_pos (show strOK _ _ by unfold strOK; simp; omega), j6_1_eq, if_neg (by decide)]
    exact hj
  · rw [if_neg (by decide), j6_1_eq, if_pos (by decide)]
    unfold chk
    rw [if_pos (show strOK _ _ by unfold strOK; simp; omega)]
    exact hj
theorem l6_2_ok (k m0 : Nat) (x0 : Nat) (x2 : Int) (h2 : 0 ≤ x2 ∧ x2 < 256) (b z : Nat) (hb : isBase b) (hz : z < 20) (hx : x0 < 18446744073709551616) (x33 x34 : Int) (r0 : List Int) (hk : 2000 ≤ k) :
    ∀ (f x m : Nat) (acc : List UInt8), x < 2 ^ f → f ≤ 64 → f + acc.length ≤ 64 → digs b f x acc = digs b 64 x0 [] → f < m → l6_2 k m0 m x0 x2 (List.replicate z 48) b acc x x33 x34 r0 = l6_1 k m0 x0 x2 (List.replicate z 48) x33 (wrap64 (x34 + 1)) r0 := by
  have hb2 : 2 ≤ b ∧ b ≤ 16 := by unfold isBase at hb; omega
  have stop : ∀ (m : Nat) (acc : List UInt8), acc = digs b 64 x0 [] → l6_2 k m0 (m + 1) x0 x2 (List.replicate z 48) b acc (0 : Nat) x33 x34 r0 = l6_1 k m0 x0 x2 (List.replicate z 48) x33 (wrap64 (x34 + 1)) r0 := by
    intro m acc h
    rw [l6_2_eq, if_neg (by decide)]
    by_cases h0 : acc = []
    · rw [if_pos h0]
      exact j6_0_ok k m0 x0 x2 h2 b z hb hz hx [48] (by unfold SP; rw [← h, if_pos h0]) x33 x34 r0 hk
    · rw [if_neg h0]
      exact j6_0_ok k m0 x0 x2 h2 b z hb hz hx acc (by unfold SP; rw [← h, if_neg h0]) x33 x34 r0 hk
  intro f
  induction f with
  | zero =>
    intro x m acc h1 h3 h4 h5 h6
    obtain ⟨m, rfl⟩ : ∃ m', m = m' + 1 := ⟨m - 1, by omega⟩
    obtain rfl : x = 0 := by simp at h1; omega
    exact stop m acc h5
  | succ f ih =>
    intro x m acc h1 h3 h4 h5 h6
    obtain ⟨m, rfl⟩ : ∃ m', m = m' + 1 := ⟨m - 1, by omega⟩
    unfold digs at h5
    by_cases h0 : x = 0
    · rw [if_pos h0] at h5
      subst h0
      exact stop m acc h5
    · rw [if_neg h0] at h5
      have hlt : x % b < b := Nat.mod_lt _ (by omega)
      obtain ⟨g1, g2⟩ := hex_take (x % b) (by omega)
      have hx' : x / b < 2 ^ f := by
        rw [Nat.div_lt_iff_lt_mul (by omega)]
        rw [Nat.pow_succ] at h1
        exact Nat.lt_of_lt_of_le h1 (Nat.mul_le_mul_left _ hb2.1)
      have hx2 : x < 18446744073709551616 := Nat.lt_of_lt_of_le h1 (Nat.pow_le_pow_right (by omega) h3)
      have hx3 : x / b < 18446744073709551616 := Nat.lt_of_le_of_lt (Nat.div_le_self _ _) hx2
      have e1 : Int.tmod (x : Int) (b : Int) = ((x % b : Nat) : Int) := rfl
      have e2 : Int.tdiv (x : Int) (b : Int) = ((x / b : Nat) : Int) := rfl
      have e3 : wr .u64 (((x % b : Nat) : Int) + 1) = ((x % b + 1 : Nat) : Int) := by rw [wu64 (by omega) (by omega)]; rfl
      have e4 : wr .u64 ((x / b : Nat) : Int) = ((x / b : Nat) : Int) := wu64 (Int.natCast_nonneg _) (by have := Int.ofNat_lt.mpr hx3; exact this)
      have hcons : (hexc (x % b) :: acc).length = acc.length + 1 := rfl
      have hih := ih (x / b) m (hexc (x % b) :: acc) hx' (by omega) (by omega) h5 (by omega)
      have d0 : ((x : Nat) : Int) > 0 := by omega
      have d1 : ¬ ((b : Int) = 0) := by omega
      have d2 : (0 : Int) ≤ ((x % b + 1 : Nat) : Int) := Int.natCast_nonneg _
      have d3 : ((x % b + 1 : Nat) : Int) ≤ ((HEX.length : Nat) : Int) := by
        show ((x % b + 1 : Nat) : Int) ≤ (16 : Int)
        omega
      have d4 : (0 : Int) ≤ ((x % b : Nat) : Int) := Int.natCast_nonneg _
      have d5 : ((x % b : Nat) : Int) ≤ ((x % b + 1 : Nat) : Int) := by omega
      have d6 : acc.length ≤ 64 := by omega
      rw [l6_2_eq, if_pos d0, if_neg d1, if_neg d1, e1, e2, e3, e4, if_pos d2, if_pos d3, if_pos d4, if_pos d5, Int.toNat_natCast, Int.toNat_natCast]
      have hg : (HEX.take (x % b + 1)).drop (x % b) = [hexc (x % b)] := g1
      refine (congrArg (fun z => chk (strOK z acc) (if (b : Int) = 0 then none else l6_2 k m0 m x0 x2 (List.replicate _ 48) b (z ++ acc) _ x33 x34 r0)) hg).trans ?_
      unfold chk
      rw [if_pos (show strOK _ _ by unfold strOK; rw [List.length_singleton]; omega), if_neg d1]
      exact hih
theorem l6_0_ok (k : Nat) (x0 : Nat) (x1 x2 : Int) (h1 : 0 ≤ x1 ∧ x1 < 256) (z : Nat) (hz : z = x1.toNat % 20) : ∀ (n i m : Nat), n = z - i → i ≤ z → l6_0 k (m + n + 1) x0 x1 x2 (List.replicate i 48) i = l6_1 k k x0 x2 (List.replicate z 48) 3 0 [10, 16, 2] := by
  have hlt : x1.toNat % 20 < 20 := Nat.mod_lt _ (by omega)
  have hw : wrap64 (x1.tmod 20) = (z : Int) := by
    obtain ⟨n, rfl⟩ : ∃ n : Nat, x1 = n := ⟨x1.toNat, by omega⟩
    have e : Int.tmod (n : Int) 20 = ((n % 20 : Nat) : Int) := rfl
    rw [Int.toNat_natCast] at hz hlt
    rw [e, w64 (by omega) (by omega), hz]
  intro n
  induction n with
  | zero =>
    intro i m hn hi
    obtain rfl : i = z := by omega
    rw [l6_0_eq, if_neg (by decide), hw, if_neg (Int.lt_irrefl _)]
    rfl
  | succ n ih =>
    intro i m hn hi
    have a1 : (i : Int) < (z : Int) := by omega
    have a2 : i < 100 := by omega
    have hih := ih (i + 1) m (by omega) (by omega)
    rw [show m + (n + 1) + 1 = (m + n + 1) + 1 by omega, l6_0_eq, if_neg (by decide), hw, if_pos a1]
    unfold chk
    rw [if_pos (show strOK _ _ by unfold strOK; rw [List.length_replicate, List.length_singleton]; exact Nat.le_trans (Nat.add_le_add_right (Nat.le_of_lt a2) 1) (by decide)), wi1 i (Nat.lt_trans a2 (by decide)), ← List.replicate_succ']
    exact hih
theorem pNumbers (x0 x1 x2 : Int) (h0 : 0 ≤ x0 ∧ x0 < 18446744073709551616) (h1 : 0 ≤ x1 ∧ x1 < 256) (h2 : 0 ≤ x2 ∧ x2 < 256) : ∃ k, evF T k 6 [.int .u64 x0, .int .u8 x1, .int .u8 x2] [] = some ([.bool true], []) := by
  obtain ⟨n, rfl⟩ : ∃ n : Nat, x0 = n := ⟨x0.toNat, by omega⟩
  have hn : n < 18446744073709551616 := by omega
  refine ⟨4000 + 1, ?_⟩
  have hz : x1.toNat % 20 < 20 := Nat.mod_lt _ (by omega)
  have A := l6_0_ok 4000 n x1 x2 h1 (x1.toNat % 20) rfl (x1.toNat % 20) 0 (3999 - x1.toNat % 20) (by omega) (by omega)
  rw [show 3999 - x1.toNat % 20 + x1.toNat % 20 + 1 = 4000 by omega] at A
  rw [f6_eq, eAw _ (by omega), Option.bind_some, res11_eq, if_neg (by decide)]
  refine A.trans ?_
  have step : ∀ (m b i : Nat) (hb : isBase b), i < 3 → ([10, 16, 2] : List Int).getD i 0 = (b : Int) → l6_1 4000 (m + 1) n x2 (List.replicate (x1.toNat % 20) 48) 3 i [10, 16, 2] = l6_1 4000 m n x2 (List.replicate (x1.toNat % 20) 48) 3 ((i + 1 : Nat) : Int) [10, 16, 2] := by
    intro m b i hb hi hg
    have hl : ([10, 16, 2] : List Int).length = 3 := rfl
    have b1 : (i : Int) < 3 := by omega
    have b2 : (0 : Int) ≤ (i : Int) := by omega
    have b3 : (i : Int) < ((([10, 16, 2] : List Int).length : Nat) : Int) := by rw [hl]; omega
    have b4 : i < ([10, 16, 2] : List Int).length := by rw [hl]; exact hi
    have hd0 : digs b 64 n [] = digs b 64 n [] := rfl
    rw [l6_1_eq, if_pos b1, if_pos b2, if_pos b3, Int.toNat_natCast, if_pos b4, hg, l6_2_ok 4000 m n x2 h2 b (x1.toNat % 20) hb hz hn 3 i [10, 16, 2] (by omega) 64 n 4000 [] hn (by omega) (by simp) hd0 (by omega), wi1 i (by omega)]
  rw [show (4000 : Nat) = 3999 + 1 from rfl, show (0 : Int) = ((0 : Nat) : Int) from rfl, step 3999 10 0 (.inl rfl) (by omega) rfl]
  rw [show (3999 : Nat) = 3998 + 1 from rfl, step 3998 16 1 (.inr (.inl rfl)) (by omega) rfl]
  rw [show (3998 : Nat) = 3997 + 1 from rfl, step 3997 2 2 (.inr (.inr rfl)) (by omega) rfl]
  rw [show (3997 : Nat) = 3996 + 1 from rfl, l6_1_eq, if_neg (by decide)]

end Go.Proofs.YtpcieagmnllimaaDoor
