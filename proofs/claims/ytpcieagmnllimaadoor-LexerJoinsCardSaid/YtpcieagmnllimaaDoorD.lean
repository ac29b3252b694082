set_option linter.all false
namespace Go.Proofs.YtpcieagmnllimaaDoor
/-- A digit's value; 99 of a byte that is none. -/
def dv (n : Nat) : Nat := if 48 ≤ n ∧ n ≤ 57 then n - 48 else if 97 ≤ n ∧ n ≤ 102 then n - 87 else if 65 ≤ n ∧ n ≤ 70 then n - 55 else 99
def valB (b : Nat) : Nat → List UInt8 → Nat
  | acc, [] => acc
  | acc, c :: l => valB b (acc * b + dv c.toNat) l
theorem valB_ge (b : Nat) (hb : 1 ≤ b) : ∀ (l : List UInt8) (acc : Nat), acc ≤ valB b acc l
  | [], _ => Nat.le_refl _
  | c :: l, acc => Nat.le_trans (Nat.le_trans (Nat.le_mul_of_pos_right acc hb) (Nat.le_add_right _ _)) (valB_ge b hb l _)
end Go.Proofs.YtpcieagmnllimaaDoor
