/- Common lemmas of the laws of chapter 27. -/
import Derived.Test.YtmacdopdogodoaaPAllx5
namespace Go.Proofs.Ytmacdopdogodoaa.Pure
open Go.RowKit Go.Proofs.Ytmacdopdogodoaa.PAll Go.Proofs.YtmacdopdogodoaaW.PrintWords Go.Proofs.YtmacdopdogodoaaW.PrintLast
def len8 : ByteArray := (⟨#[0, 1, 2, 2, 3, 3, 3, 3, 4, 4, 4, 4, 4, 4, 4, 4, 5, 5, 5, 5, 5, 5, 5, 5, 5, 5, 5, 5, 5, 5, 5, 5, 6, 6, 6, 6, 6, 6, 6, 6, 6, 6, 6, 6, 6, 6, 6, 6, 6, 6, 6, 6, 6, 6, 6, 6, 6, 6, 6, 6, 6, 6, 6, 6, 7, 7, 7, 7, 7, 7, 7, 7, 7, 7, 7, 7, 7, 7, 7, 7, 7, 7, 7, 7, 7, 7, 7, 7, 7, 7, 7, 7, 7, 7, 7, 7, 7, 7, 7, 7, 7, 7, 7, 7, 7, 7, 7, 7, 7, 7, 7, 7, 7, 7, 7, 7, 7, 7, 7, 7, 7, 7, 7, 7, 7, 7, 7, 7, 8, 8, 8, 8, 8, 8, 8, 8, 8, 8, 8, 8, 8, 8, 8, 8, 8, 8, 8, 8, 8, 8, 8, 8, 8, 8, 8, 8, 8, 8, 8, 8, 8, 8, 8, 8, 8, 8, 8, 8, 8, 8, 8, 8, 8, 8, 8, 8, 8, 8, 8, 8, 8, 8, 8, 8, 8, 8, 8, 8, 8, 8, 8, 8, 8, 8, 8, 8, 8, 8, 8, 8, 8, 8, 8, 8, 8, 8, 8, 8, 8, 8, 8, 8, 8, 8, 8, 8, 8, 8, 8, 8, 8, 8, 8, 8, 8, 8, 8, 8, 8, 8, 8, 8, 8, 8, 8, 8, 8, 8, 8, 8, 8, 8, 8, 8, 8, 8, 8, 8, 8, 8, 8, 8, 8, 8, 8, 8]⟩ : ByteArray)
theorem j0_eq (k : Nat) (x s : Int) : bits_Len64.j0 (k + 1) x s = if x ≥ 65536 then (if (x / 65536) ≥ 256 then (if 0 ≤ (((x / 65536) / 256) % 256) then (if (((x / 65536) / 256) % 256) < 256 then (some (wrap64 ((wrap64 ((wrap64 (s + 16)) + 8)) + (wrap64 (bt len8 (((x / 65536) / 256) % 256)))))) else (none)) else (none)) else (if 0 ≤ ((x / 65536) % 256) then (if ((x / 65536) % 256) < 256 then (some (wrap64 ((wrap64 (s + 16)) + (wrap64 (bt len8 ((x / 65536) % 256)))))) else (none)) else (none))) else (if x ≥ 256 then (if 0 ≤ ((x / 256) % 256) then (if ((x / 256) % 256) < 256 then (some (wrap64 ((wrap64 (s + 8)) + (wrap64 (bt len8 ((x / 256) % 256)))))) else (none)) else (none)) else (if 0 ≤ ((x) % 256) then (if ((x) % 256) < 256 then (some (wrap64 (s + (wrap64 (bt len8 ((x) % 256)))))) else (none)) else (none))) := rfl
theorem w64 {x : Int} (h : -9223372036854775808 ≤ x) (h' : x ≤ 9223372036854775807) : wrap64 x = x := by
  unfold wrap64
  omega
theorem tab8 : ∀ i : Fin 256, ∃ v : Fin 9, bt len8 ((i.val : Nat) : Int) = ((v.val : Nat) : Int) ∧ ((i.val = 0 ∧ v.val = 0) ∨ (1 ≤ v.val ∧ 2 ^ (v.val - 1) ≤ i.val ∧ i.val < 2 ^ v.val)) := by decide +kernel
theorem tab8' (z : Int) (h0 : 0 ≤ z) (h1 : z < 256) : ∃ v : Nat, v ≤ 8 ∧ bt len8 z = (v : Int) ∧ ((z = 0 ∧ v = 0) ∨ (1 ≤ v ∧ (2 : Int) ^ (v - 1) ≤ z ∧ z < (2 : Int) ^ v)) := by
  obtain ⟨v, h2, h3⟩ := tab8 ⟨z.toNat, by omega⟩
  have e : ((z.toNat : Nat) : Int) = z := by omega
  simp only at h2 h3
  rw [e] at h2
  refine ⟨v.val, by omega, h2, ?_⟩
  rcases h3 with ⟨a, b⟩ | ⟨a, b, c⟩
  · exact Or.inl ⟨by omega, b⟩
  · refine Or.inr ⟨a, ?_, ?_⟩
    · have : ((2 ^ (v.val - 1) : Nat) : Int) ≤ (z.toNat : Int) := by exact_mod_cast b
      rw [e] at this
      simpa using this
    · have : ((z.toNat : Nat) : Int) < ((2 ^ v.val : Nat) : Int) := by exact_mod_cast c
      rw [e] at this
      simpa using this
/-- x has L bits. -/
def Bits (x : Int) (L : Nat) : Prop := (x = 0 ∧ L = 0) ∨ (1 ≤ L ∧ (2 : Int) ^ (L - 1) ≤ x ∧ x < (2 : Int) ^ L)
theorem bits_up (x z : Int) (b L : Nat) (h : Bits z L) (hz : 1 ≤ z) (h0 : z * (2 : Int) ^ b ≤ x) (h1 : x < (z + 1) * (2 : Int) ^ b) : Bits x (b + L) := by
  have hp : (0 : Int) < (2 : Int) ^ b := Int.pow_pos (by omega)
  rcases h with ⟨a, _⟩ | ⟨a, c, d⟩
  · omega
  · refine Or.inr ⟨by omega, ?_, ?_⟩
    · have e : b + L - 1 = b + (L - 1) := by omega
      rw [e, Int.pow_add, Int.mul_comm]
      exact Int.le_trans (Int.mul_le_mul_of_nonneg_right c (by omega)) h0
    · rw [Int.pow_add, Int.mul_comm]
      exact Int.lt_of_lt_of_le h1 (Int.mul_le_mul_of_nonneg_right (by omega) (by omega))
theorem j0_bits (x s : Int) (h0 : 0 ≤ x) (h1 : x < 4294967296) (hs : 0 ≤ s) (hs2 : s ≤ 32) : ∃ L : Nat, L ≤ 32 ∧ (∀ k, bits_Len64.j0 (k + 1) x s = some (s + L)) ∧ Bits x L := by
  by_cases a : x ≥ 65536
  · by_cases b : x / 65536 ≥ 256
    · obtain ⟨v, v8, hv, hb⟩ := tab8' (x / 65536 / 256 % 256) (by omega) (by omega)
      have e : x / 65536 / 256 % 256 = x / 65536 / 256 := by omega
      rw [e] at hb
      refine ⟨24 + v, by omega, fun k => ?_, bits_up x (x / 65536 / 256) 24 v hb (by omega) (by omega) (by omega)⟩
      rw [j0_eq, if_pos a, if_pos b, if_pos (by omega), if_pos (by omega), hv, w64 (x := s + 16) (by omega) (by omega), w64 (x := s + 16 + 8) (by omega) (by omega), w64 (x := (v : Int)) (by omega) (by omega), w64 (by omega) (by omega)]
      exact congrArg some (by omega)
    · obtain ⟨v, v8, hv, hb⟩ := tab8' (x / 65536 % 256) (by omega) (by omega)
      have e : x / 65536 % 256 = x / 65536 := by omega
      rw [e] at hb
      refine ⟨16 + v, by omega, fun k => ?_, bits_up x (x / 65536) 16 v hb (by omega) (by omega) (by omega)⟩
      rw [j0_eq, if_pos a, if_neg b, if_pos (by omega), if_pos (by omega), hv, w64 (x := s + 16) (by omega) (by omega), w64 (x := (v : Int)) (by omega) (by omega), w64 (by omega) (by omega)]
      exact congrArg some (by omega)
  · by_cases b : x ≥ 256
    · obtain ⟨v, v8, hv, hb⟩ := tab8' (x / 256 % 256) (by omega) (by omega)
      have e : x / 256 % 256 = x / 256 := by omega
      rw [e] at hb
      refine ⟨8 + v, by omega, fun k => ?_, bits_up x (x / 256) 8 v hb (by omega) (by omega) (by omega)⟩
      rw [j0_eq, if_neg a, if_pos b, if_pos (by omega), if_pos (by omega), hv, w64 (x := s + 8) (by omega) (by omega), w64 (x := (v : Int)) (by omega) (by omega), w64 (by omega) (by omega)]
      exact congrArg some (by omega)
    · obtain ⟨v, v8, hv, hb⟩ := tab8' (x % 256) (by omega) (by omega)
      have e : x % 256 = x := by omega
      rw [e] at hb
      refine ⟨v, by omega, fun k => ?_, hb⟩
      rw [j0_eq, if_neg a, if_neg b, if_pos (by omega), if_pos (by omega), hv, w64 (x := (v : Int)) (by omega) (by omega), w64 (by omega) (by omega)]
theorem len_bits (x : Int) (h0 : 0 ≤ x) (h1 : x < 18446744073709551616) : ∃ L : Nat, L ≤ 64 ∧ (∀ k, bits_Len.f (k + 1) x = some (L : Int)) ∧ Bits x L := by
  by_cases a : x ≥ 4294967296
  · obtain ⟨L, hL, hk, hb⟩ := j0_bits (x / 4294967296) 32 (by omega) (by omega) (by omega) (by omega)
    refine ⟨32 + L, by omega, fun k => ?_, bits_up x (x / 4294967296) 32 L hb (by omega) (by omega) (by omega)⟩
    unfold bits_Len.f bits_Len64.f
    rw [if_pos a, hk k]
    simp only [Option.bind_some]
    congr 1
  · obtain ⟨L, hL, hk, hb⟩ := j0_bits x 0 h0 (by omega) (by omega) (by omega)
    refine ⟨L, by omega, fun k => ?_, hb⟩
    unfold bits_Len.f bits_Len64.f
    rw [if_neg a, hk k]
    simp only [Option.bind_some]
    exact congrArg some (by omega)
/-- The height of a binary tree with n leaves. -/
def Height (n : Int) (L : Nat) : Prop := (n < 1 → L = 0) ∧ (1 ≤ n → n ≤ (2 : Int) ^ L ∧ (L = 0 ∨ (2 : Int) ^ (L - 1) < n))
theorem prog_levels (n : Int) (hn : n ≤ 9223372036854775807) : ∃ L : Nat, L ≤ 64 ∧ (∀ k, library_Levels.f (k + 1) n = some (L : Int)) ∧ Height n L := by
  by_cases a : n < 1
  · refine ⟨0, by omega, fun k => ?_, fun _ => rfl, fun h => by omega⟩
    unfold library_Levels.f
    rw [if_pos a]
    rfl
  · obtain ⟨L, hL, hk, hb⟩ := len_bits (n - 1) (by omega) (by omega)
    refine ⟨L, hL, fun k => ?_, fun h => absurd h a, fun _ => ?_⟩
    · have e : IntKind.u64.wrap (wrap64 (n - 1)) = n - 1 := by
        rw [w64 (by omega) (by omega)]
        simp [IntKind.wrap, IntKind.bits, IntKind.signed]
        omega
      unfold library_Levels.f
      rw [if_neg a, e, hk k]
      rfl
    · rcases hb with ⟨b, rfl⟩ | ⟨b, c, d⟩
      · exact ⟨by simp; omega, Or.inl rfl⟩
      · exact ⟨by omega, Or.inr (by omega)⟩
theorem pow_small (L : Nat) (n : Int) (h : L = 0 ∨ (2 : Int) ^ (L - 1) < n) (m : Nat) (hn : n ≤ (2 : Int) ^ m) : L ≤ m := by
  rcases h with h | h
  · omega
  · rcases Nat.lt_or_ge m L with hm | hm
    · have h2 : (2 : Int) ^ m ≤ (2 : Int) ^ (L - 1) := by
        have := Nat.pow_le_pow_right (show 0 < 2 by omega) (show m ≤ L - 1 by omega)
        exact_mod_cast this
      omega
    · exact hm
theorem awake_ok : Ev (fun k => jacquardlaw27_awake.f k) true := Ev.of (fun k => jacquardlaw27_awake.mono k) (k := 12) (by decide +kernel)
theorem of_arg (n w : Int) (h : n ≤ 1 ∨ 25 ≤ n) : Ev (fun k => library_Of.f k n w) (0, 0, 0, 0, 0, 0, 1) := by
  refine Ev.step (f := fun _ => some (0, 0, 0, 0, 0, 0, 1)) (fun k => ?_) (Ev.now _)
  simp only [library_Of.f]
  by_cases h1 : n ≤ 1
  · rw [if_pos h1]
    simp only [library_Of.j0, if_true]
  · rw [if_neg h1, decide_eq_true (show n ≥ 25 by omega)]
    simp only [library_Of.j0, if_true]
theorem of_width (n w : Int) (h : ¬ n ≤ 1) (h' : ¬ n ≥ 25) (hw : w < 1 ∨ w > 64) : Ev (fun k => library_Of.f k n w) (0, 0, 0, 0, 0, 0, 13) := by
  refine Ev.step (f := fun k => if w < 1 then (library_Of.j1 k n w true) else (library_Of.j1 k n w (decide (w > 64)))) (fun k => ?_) (Ev.step (f := fun _ => some (0, 0, 0, 0, 0, 0, 13)) (fun k => ?_) (Ev.now _))
  · simp only [library_Of.f]
    rw [if_neg h, decide_eq_false h']
    simp only [library_Of.j0]
    rw [if_neg Bool.false_ne_true]
  · by_cases h1 : w < 1
    · rw [if_pos h1]
      simp only [library_Of.j1, if_true]
    · rw [if_neg h1, decide_eq_true (show w > 64 by omega)]
      simp only [library_Of.j1, if_true]
end Go.Proofs.Ytmacdopdogodoaa.Pure
