import Derived.Test.YtojlhbckfkpjhaaDoorE
set_option linter.all false
namespace Go.Proofs.YtojlhbckfkpjhaaDoor
open Go Go.RowKit Go.Vm
set_option maxRecDepth 100000 in
theorem awake (k : Nat) : evF T (k + 60) 5 [] [] = some ([.bool true], []) := by kernel_rfl
theorem w64 {x : Int} (h0 : -9223372036854775808 ≤ x) (h1 : x ≤ 9223372036854775807) : wrap64 x = x := by
  unfold wrap64; omega
def inR (n : Int) : Prop := -9223372036854775808 ≤ n ∧ n ≤ 9223372036854775807
theorem inR_ok {n : Int} (h : inR n) : i64ok n = true := by
  unfold i64ok; rw [Bool.and_eq_true, decide_eq_true_eq, decide_eq_true_eq]; exact h
theorem chk_ok {R : Type} {p : Prop} [Decidable p] {x : Option R} (h : p) : chk p x = x := if_pos h
theorem strOK_ok {a b : List UInt8} (h : a.length + b.length ≤ 9223372036854775807) : strOK a b := h
/-! ### decimal digits -/
@[reducible] def DIG : List UInt8 := [48, 49, 50, 51, 52, 53, 54, 55, 56, 57]
theorem dslice {d : Nat} (h : d < 10) : (DIG.take (wrap64 ((d : Int) + 1)).toNat).drop (d : Int).toNat = [UInt8.ofNat (48 + d)] := by
  rw [w64 (by omega) (by omega)]
  have : ∀ i : Fin 10, (DIG.take (((i.val : Nat) : Int) + 1).toNat).drop ((i.val : Nat) : Int).toNat = [UInt8.ofNat (48 + i.val)] := by decide
  exact this ⟨d, h⟩
theorem dec_len : ∀ (j u : Nat), u < 10 ^ (j + 1) → (Lib.decDigits u).length ≤ j + 1 := by
  intro j
  induction j with
  | zero => intro u h; rw [Lib.decDigits_one (by simpa using h)]; simp
  | succ j ih =>
    intro u h
    by_cases c : u < 10
    · rw [Lib.decDigits_one c]; simp
    · rw [Lib.decDigits, dif_neg c, List.length_append]
      have := ih (u / 10) (by rw [Nat.pow_succ] at h; omega)
      simp; omega
theorem dec19 {u : Nat} (h : u ≤ 9223372036854775808) : (Lib.decDigits u).length ≤ 19 := dec_len 18 u (by omega)
theorem dec_big {u : Nat} (c : ¬ u < 10) : Lib.decDigits u = Lib.decDigits (u / 10) ++ [UInt8.ofNat (48 + u % 10)] := by rw [Lib.decDigits, dif_neg c]
theorem dgp : ∀ (j u k : Nat), u < 10 ^ (j + 1) → u ≤ 9223372036854775807 → evF T (k + j + 1) 19 [.int .i64 (u : Int)] [] = some ([.str (Lib.decDigits u)], []) := by
  intro j
  induction j with
  | zero =>
    intro u k h hu
    have h : u < 10 := by simpa using h
    rw [f19_eq, if_neg (by omega), if_pos (by omega), if_pos (by rw [w64] <;> omega), if_pos (by rw [w64 (by omega) (by omega)]; show _ ≤ (10 : Int); omega), if_pos (by omega), if_pos (by rw [w64] <;> omega), dslice h, Lib.decDigits_one h]
  | succ j ih =>
    intro u k h hu
    have hs : ∀ {d : Nat}, d < 10 → (0 : Int) ≤ wrap64 ((d : Int) + 1) ∧ wrap64 ((d : Int) + 1) ≤ (DIG.length : Int) ∧ (d : Int) ≤ wrap64 ((d : Int) + 1) := fun {d} hd => by
      rw [w64 (by omega) (by omega)]; show _ ∧ _ ≤ (10 : Int) ∧ _; omega
    rw [f19_eq, if_neg (by omega)]
    by_cases c : u < 10
    · rw [if_pos (by omega), if_pos (hs c).1, if_pos (hs c).2.1, if_pos (by omega), if_pos (hs c).2.2, dslice c, Lib.decDigits_one c]
    · have e1 : Int.tdiv (u : Int) 10 = ((u / 10 : Nat) : Int) := rfl
      have e2 : Int.tmod (u : Int) 10 = ((u % 10 : Nat) : Int) := rfl
      have hm : u % 10 < 10 := Nat.mod_lt _ (by decide)
      have hl := dec19 (u := u / 10) (by omega)
      rw [if_neg (by omega), if_neg (by decide), e1, w64 (x := ((u / 10 : Nat) : Int)) (by omega) (by omega), show evF T (k + (j + 1)) 19 [.int .i64 ((u / 10 : Nat) : Int)] [] = _ from ih (u / 10) k (by rw [Nat.pow_succ] at h; omega) (by omega), Option.bind_some, res19_eq, if_neg (by decide), if_neg (by decide), e2,
        if_pos (hs hm).1, if_pos (hs hm).2.1, if_pos (by omega), if_pos (hs hm).2.2, dslice hm, chk_ok (strOK_ok (by simp; omega)), dec_big c]
theorem dgn : ∀ (j u k : Nat), u < 10 ^ (j + 1) → 1 ≤ u → u ≤ 9223372036854775808 → evF T (k + j + 1) 19 [.int .i64 (-(u : Int))] [] = some ([.str (45 :: Lib.decDigits u)], []) := by
  intro j
  have hs : ∀ {d : Nat}, d < 10 → (0 : Int) ≤ wrap64 ((d : Int) + 1) ∧ wrap64 ((d : Int) + 1) ≤ (DIG.length : Int) ∧ (d : Int) ≤ wrap64 ((d : Int) + 1) := fun {d} hd => by
    rw [w64 (by omega) (by omega)]; show _ ∧ _ ≤ (10 : Int) ∧ _; omega
  have e2 : ∀ u : Nat, wrap64 (0 - Int.tmod (-(u : Int)) 10) = ((u % 10 : Nat) : Int) := fun u => by
    have : Int.tmod (-(u : Int)) 10 = -((u % 10 : Nat) : Int) := by rw [Int.neg_tmod]; rfl
    have hm : u % 10 < 10 := Nat.mod_lt _ (by decide)
    rw [this, w64 (by omega) (by omega)]; omega
  have small : ∀ (u k : Nat), u < 10 → 1 ≤ u → evF T (k + 1) 19 [.int .i64 (-(u : Int))] [] = some ([.str (45 :: Lib.decDigits u)], []) := fun u k h h1 => by
    have e := e2 u
    rw [Nat.mod_eq_of_lt h] at e
    rw [f19_eq, if_pos (by omega), if_neg (by decide), if_pos (by omega), e, if_pos (hs h).1, if_pos (hs h).2.1, if_pos (by omega), if_pos (hs h).2.2, dslice h, chk_ok (strOK_ok (by simp)), Lib.decDigits_one h]
    rfl
  induction j with
  | zero => intro u k h h1 _; exact small u k (by simpa using h) h1
  | succ j ih =>
    intro u k h h1 hu
    by_cases c : u < 10
    · exact small u (k + (j + 1)) c h1
    · have e1 : Int.tdiv (-(u : Int)) 10 = -((u / 10 : Nat) : Int) := by rw [Int.neg_tdiv]; rfl
      have hm : u % 10 < 10 := Nat.mod_lt _ (by decide)
      have hl := dec19 (u := u / 10) (by omega)
      rw [f19_eq, if_pos (by omega), if_neg (by decide), if_neg (by omega), if_neg (by decide), e1, w64 (x := -((u / 10 : Nat) : Int)) (by omega) (by omega), show evF T (k + (j + 1)) 19 [.int .i64 (-((u / 10 : Nat) : Int))] [] = _ from ih (u / 10) k (by rw [Nat.pow_succ] at h; omega) (by omega) (by omega), Option.bind_some, res19_eq, e2,
        if_pos (hs hm).1, if_pos (hs hm).2.1, if_pos (by omega), if_pos (hs hm).2.2, dslice hm, chk_ok (strOK_ok (by simp; omega)), dec_big c]
      rfl
theorem e19 (k : Nat) {n : Int} (h : inR n) : evF T (k + 20) 19 [.int .i64 n] [] = some ([.str (Lib.itoa n)], []) := by
  unfold inR at h
  by_cases c : n < 0
  · obtain ⟨u, rfl⟩ : ∃ u : Nat, n = -(u : Int) := ⟨n.natAbs, by omega⟩
    have e : Lib.itoa (-(u : Int)) = 45 :: Lib.decDigits u := by
      unfold Lib.itoa; rw [if_pos c, Int.natAbs_neg, Int.natAbs_natCast]
    rw [e]
    exact dgn 18 u (k + 1) (by omega) (by omega) (by omega)
  · obtain ⟨u, rfl⟩ : ∃ u : Nat, n = (u : Int) := ⟨n.toNat, by omega⟩
    have e : Lib.itoa (u : Int) = Lib.decDigits u := by
      unfold Lib.itoa; rw [if_neg c, Int.toNat_natCast]
    rw [e]
    exact dgp 18 u (k + 1) (by omega) (by omega)
theorem e14 (k : Nat) {n : Int} (h : inR n) : evF T (k + 1) 14 [.int .i64 n] [] = some ([.str (Lib.itoa n)], []) := by
  show xItoa [.int .i64 n] [] = _
  unfold xItoa
  dsimp only
  rw [inR_ok h]
  rfl
theorem itoa_len {n : Int} (h : inR n) : (Lib.itoa n).length ≤ 20 := by
  unfold inR at h
  unfold Lib.itoa
  split
  · have := dec19 (u := n.natAbs) (by omega); simp; omega
  · have := dec19 (u := n.toNat) (by omega); omega
/-- Numbers, each behind a blank. -/
def lst : List Int → List UInt8
  | [] => []
  | n :: l => 32 :: (Lib.itoa n ++ lst l)
theorem lst_append : ∀ l r : List Int, lst (l ++ r) = lst l ++ lst r
  | [], _ => rfl
  | n :: l, r => by rw [List.cons_append, lst, lst, lst_append l r, List.cons_append, List.append_assoc]
theorem lst_len : ∀ {l : List Int}, (∀ n ∈ l, inR n) → (lst l).length ≤ 21 * l.length
  | [], _ => Nat.le_refl _
  | n :: l, h => by
    have h1 := itoa_len (h n List.mem_cons_self)
    have h2 := lst_len (l := l) fun m hm => h m (List.mem_cons_of_mem _ hm)
    rw [lst, List.length_cons, List.length_append, List.length_cons]; omega
theorem take_succ_getD {l : List Int} {i : Nat} (h : i < l.length) : l.take (i + 1) = l.take i ++ [l.getD i 0] := by
  rw [List.take_succ, List.getElem?_eq_getElem h, List.getD_eq_getElem?_getD, List.getElem?_eq_getElem h]; rfl
theorem mem_getD {l : List Int} {i : Nat} (h : i < l.length) : l.getD i 0 ∈ l := by
  rw [List.getD_eq_getElem?_getD, List.getElem?_eq_getElem h]; exact List.getElem_mem h
theorem l20_ok (k : Nat) {l : List Int} (hl : ∀ n ∈ l, inR n) (hn : l.length ≤ 1000000000) : ∀ (m i : Nat), i ≤ l.length → l.length - i < m → l20_0 (k + 20) m l (lst (l.take i)) (l.length : Int) (i : Int) = some ([.str (lst l)], [])
  | 0, _, _, h => absurd h (by omega)
  | m + 1, i, hi, hm => by
    rw [l20_0_eq]
    by_cases c : i < l.length
    · have h1 := hl _ (mem_getD c)
      have h2 := lst_len (l := l.take i) fun n hn => hl n (List.mem_of_mem_take hn)
      rw [List.length_take] at h2
      have h3 := itoa_len h1
      rw [if_pos (by omega), if_pos (by omega), if_pos (by omega), Int.toNat_natCast i, e19 k h1, Option.bind_some, res19_eq, chk_ok (strOK_ok (by show 1 + _ ≤ _; omega)), chk_ok (strOK_ok (by rw [List.length_append]; show _ + (1 + _) ≤ _; omega)), w64 (x := (i : Int) + 1) (by omega) (by omega)]
      have e : lst (l.take i) ++ ([32] ++ Lib.itoa (l.getD i 0)) = lst (l.take (i + 1)) := by
        rw [take_succ_getD c, lst_append]; simp [lst]
      rw [e]
      exact l20_ok k hl hn m (i + 1) (by omega) (by omega)
    · rw [if_neg (by omega), List.take_of_length_le (by omega)]
theorem e20 (k : Nat) {l : List Int} (hl : ∀ n ∈ l, inR n) (hn : l.length ≤ 1000000000) (hk : l.length < k) : evF T (k + 21) 20 [.vsl none (.int .i64) l] [] = some ([.str (lst l)], []) := by
  rw [f20_eq]
  exact l20_ok k hl hn (k + 20) 0 (by omega) (by omega)

end Go.Proofs.YtojlhbckfkpjhaaDoor
