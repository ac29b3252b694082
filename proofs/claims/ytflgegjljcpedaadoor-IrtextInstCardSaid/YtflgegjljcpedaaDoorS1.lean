import Derived.Test.YtflgegjljcpedaaDoorE
set_option linter.all false
namespace Go.Proofs.YtflgegjljcpedaaDoor
open Go Go.RowKit Go.Vm
theorem w64 {x : Int} (h0 : -9223372036854775808 ≤ x) (h1 : x ≤ 9223372036854775807) : wrap64 x = x := by
  unfold wrap64; omega
theorem wu64 {x : Int} (h0 : 0 ≤ x) (h1 : x < 18446744073709551616) : wr .u64 x = x := by
  show IntKind.wrap .u64 x = x
  rw [show IntKind.wrap .u64 x = x % 18446744073709551616 by simp [IntKind.wrap, IntKind.bits, IntKind.signed]]; omega
def inR (n : Int) : Prop := -9223372036854775808 ≤ n ∧ n ≤ 9223372036854775807
theorem inR_ok {n : Int} (h : inR n) : i64ok n = true := by
  unfold i64ok; rw [Bool.and_eq_true, decide_eq_true_eq, decide_eq_true_eq]; exact h
theorem chk_ok {R : Type} {p : Prop} [Decidable p] {x : Option R} (h : p) : chk p x = x := if_pos h
theorem strOK_ok {a b : List UInt8} (h : a.length + b.length ≤ 9223372036854775807) : strOK a b := h
/-! ### decimal digits -/
@[reducible] def DIG : List UInt8 := [48, 49, 50, 51, 52, 53, 54, 55, 56, 57]
theorem dslice {d : Nat} (h : d < 10) : (DIG.take (wr .u64 ((d : Int) + 1)).toNat).drop (d : Int).toNat = [UInt8.ofNat (48 + d)] := by
  rw [wu64 (by omega) (by omega)]
  have : ∀ i : Fin 10, (DIG.take (((i.val : Nat) : Int) + 1).toNat).drop ((i.val : Nat) : Int).toNat = [UInt8.ofNat (48 + i.val)] := by decide
  exact this ⟨d, h⟩
theorem dec_len : ∀ (j u : Nat), u < 10 ^ (j + 1) → (Lib.decDigits u).length ≤ j + 1 := by
  intro j
  induction j with
  | zero => intro u h; rw [Lib.decDigits_one (by simpa using h)]; simp
  | succ j ih =>
    intro u h
    by_cases c : u < 10
    · rw [Lib.decDigits_one c]; simp
    · rw [Lib.decDigits, dif_neg c, List.length_append]
      have := ih (u / 10) (by rw [Nat.pow_succ] at h; omega)
      simp; omega
theorem dec20 {u : Nat} (h : u < 18446744073709551616) : (Lib.decDigits u).length ≤ 20 := dec_len 19 u (by omega)
theorem dec_big {u : Nat} (c : ¬ u < 10) : Lib.decDigits u = Lib.decDigits (u / 10) ++ [UInt8.ofNat (48 + u % 10)] := by rw [Lib.decDigits, dif_neg c]
theorem l17_ok (k : Nat) : ∀ (j u m : Nat) (s : List UInt8), u < 10 ^ (j + 1) → u < 18446744073709551616 → s.length ≤ 1000 - j → j ≤ 30 → j < m → l17_0 k m (u : Int) s = some ([.str (Lib.decDigits u ++ s)], []) := by
  have hs : ∀ {d : Nat}, d < 10 → (0 : Int) ≤ wr .u64 ((d : Int) + 1) ∧ wr .u64 ((d : Int) + 1) ≤ (DIG.length : Int) ∧ (d : Int) ≤ wr .u64 ((d : Int) + 1) := fun {d} hd => by
    rw [wu64 (by omega) (by omega)]; show _ ∧ _ ≤ (10 : Int) ∧ _; omega
  have last : ∀ (u m : Nat) (s : List UInt8), u < 10 → s.length ≤ 1000 → 0 < m → l17_0 k m (u : Int) s = some ([.str (Lib.decDigits u ++ s)], []) := fun u m s h hl hm => by
    obtain ⟨m, rfl⟩ : ∃ m', m = m' + 1 := ⟨m - 1, by omega⟩
    rw [l17_0_eq, if_neg (by omega), if_pos (hs h).1, if_pos (hs h).2.1, if_pos (by omega), if_pos (hs h).2.2, dslice h, chk_ok (strOK_ok (by show 1 + _ ≤ _; omega)), Lib.decDigits_one h]
  intro j
  induction j with
  | zero => intro u m s h _ hl _ hm; exact last u m s (by simpa using h) (by omega) hm
  | succ j ih =>
    intro u m s h hu hl hj hm
    by_cases c : u < 10
    · exact last u m s c (by omega) (by omega)
    · obtain ⟨m, rfl⟩ : ∃ m', m = m' + 1 := ⟨m - 1, by omega⟩
      have e1 : Int.tdiv (u : Int) 10 = ((u / 10 : Nat) : Int) := rfl
      have e2 : Int.tmod (u : Int) 10 = ((u % 10 : Nat) : Int) := rfl
      have hm10 : u % 10 < 10 := Nat.mod_lt _ (by decide)
      rw [l17_0_eq, if_pos (by omega), if_neg (by decide), if_neg (by decide), e2, if_pos (hs hm10).1, if_pos (hs hm10).2.1, if_pos (by omega), if_pos (hs hm10).2.2, dslice hm10, chk_ok (strOK_ok (by show 1 + _ ≤ _; omega)), if_neg (by decide), e1, wu64 (x := ((u / 10 : Nat) : Int)) (by omega) (by omega),
        ih (u / 10) m _ (by rw [Nat.pow_succ] at h; omega) (by omega) (by rw [List.length_append]; show 1 + _ ≤ _; omega) (by omega) (by omega), dec_big c, List.append_assoc]
theorem e17 (K : Nat) (hK : 30 ≤ K) {n : Int} (h0 : 0 ≤ n) (h1 : n < 18446744073709551616) : evF T K 17 [.int .u64 n] [] = some ([.str (Lib.decDigits n.toNat)], []) := by
  obtain ⟨k, rfl⟩ : ∃ k, K = k + 1 := ⟨K - 1, by omega⟩
  obtain ⟨u, rfl⟩ : ∃ u : Nat, n = u := ⟨n.toNat, by omega⟩
  rw [f17_eq, Int.toNat_natCast, l17_ok k 19 u k [] (by omega) (by omega) (by simp) (by omega) (by omega), List.append_nil]
theorem e16 (K : Nat) (hK : 40 ≤ K) {n : Int} (h0 : -1 ≤ n) (h1 : n ≤ 9223372036854775807) : evF T K 16 [.int .i64 n] [] = some ([.str (Lib.itoa n)], []) := by
  obtain ⟨k, rfl⟩ : ∃ k, K = k + 1 := ⟨K - 1, by omega⟩
  rw [f16_eq]
  by_cases c : n < 0
  · obtain rfl : n = -1 := by omega
    have e : wr .u64 (wrap64 (0 - -1)) = 1 := by rw [w64 (by decide) (by decide), wu64 (by decide) (by decide)]; rfl
    have e1 : Lib.itoa (-1) = [45] ++ Lib.decDigits (1 : Int).toNat := by unfold Lib.itoa; rw [if_pos (by decide)]; rfl
    rw [if_pos (by decide), e, e17 k (by omega) (by decide) (by decide), Option.bind_some, res17_eq, chk_ok (strOK_ok (by have := dec20 (u := (1 : Int).toNat) (by decide); show 1 + _ ≤ _; omega)), e1]
  · have e1 : Lib.itoa n = Lib.decDigits n.toNat := by unfold Lib.itoa; rw [if_neg c]
    rw [if_neg c, wu64 (by omega) (by omega), e17 k (by omega) (by omega) (by omega), Option.bind_some, res17_eq, e1]
theorem itoa_len {n : Int} (h0 : -1 ≤ n) (h1 : n ≤ 9223372036854775807) : (Lib.itoa n).length ≤ 21 := by
  unfold Lib.itoa
  split
  · have := dec20 (u := n.natAbs) (by omega); simp; omega
  · have := dec20 (u := n.toNat) (by omega); omega
theorem e9 (K : Nat) (hK : 2 ≤ K) {n : Int} (h : inR n) : evF T K 9 [.int .i64 n] [] = some ([.str (Lib.itoa n)], []) := by
  obtain ⟨k, rfl⟩ : ∃ k, K = k + 2 := ⟨K - 2, by omega⟩
  have e : evF T (k + 1) 20 [.int .i64 n] [] = some ([.str (Lib.itoa n)], []) := by
    show xItoa [.int .i64 n] [] = _
    unfold xItoa
    dsimp only
    rw [inR_ok h]
    rfl
  rw [f9_eq, e, Option.bind_some, res20_eq]
theorem e11 (K : Nat) (hK : 1 ≤ K) {n : Int} (h0 : 0 ≤ n) (h1 : n < 18446744073709551616) : evF T K 11 [.int .u64 n, .int .i64 10] [] = some ([.str (Lib.decDigits n.toNat)], []) := by
  obtain ⟨k, rfl⟩ : ∃ k, K = k + 1 := ⟨K - 1, by omega⟩
  show xFmt [.int .u64 n, .int .i64 10] [] = _
  unfold xFmt
  dsimp only
  rw [decide_eq_true h0, decide_eq_true (show n ≤ 18446744073709551615 by omega), decide_eq_true rfl]
  rfl
/-- Numbers, each behind a blank. -/
def lst : List Int → List UInt8
  | [] => []
  | n :: l => 32 :: (Lib.itoa n ++ lst l)
theorem lst_append : ∀ l r : List Int, lst (l ++ r) = lst l ++ lst r
  | [], _ => rfl
  | n :: l, r => by rw [List.cons_append, lst, lst, lst_append l r, List.cons_append, List.append_assoc]
def Pos (l : List Int) : Prop := ∀ x ∈ l, 0 ≤ x ∧ x ≤ 9223372036854775807
theorem lst_len : ∀ {l : List Int}, Pos l → (lst l).length ≤ 22 * l.length
  | [], _ => Nat.le_refl _
  | n :: l, h => by
    obtain ⟨a, b⟩ := h n List.mem_cons_self
    have h1 := itoa_len (n := n) (by omega) b
    have h2 := lst_len (l := l) fun m hm => h m (List.mem_cons_of_mem _ hm)
    rw [lst, List.length_cons, List.length_append, List.length_cons]; omega
theorem take_succ_getD {l : List Int} {i : Nat} (h : i < l.length) : l.take (i + 1) = l.take i ++ [l.getD i 0] := by
  rw [List.take_succ, List.getElem?_eq_getElem h, List.getD_eq_getElem?_getD, List.getElem?_eq_getElem h]; rfl
theorem mem_getD {l : List Int} {i : Nat} (h : i < l.length) : l.getD i 0 ∈ l := by
  rw [List.getD_eq_getElem?_getD, List.getElem?_eq_getElem h]; exact List.getElem_mem h
theorem l19_ok (k : Nat) (hk : 50 ≤ k) {l : List Int} (hl : Pos l) (hn : l.length ≤ 20) : ∀ (m i : Nat), i ≤ l.length → l.length - i < m → l19_0 k m l (lst (l.take i)) (i : Int) = some ([.str (lst l)], [])
  | 0, _, _, h => absurd h (by omega)
  | m + 1, i, hi, hm => by
    rw [l19_0_eq]
    by_cases c : i < l.length
    · obtain ⟨a, b⟩ := hl _ (mem_getD c)
      have h2 := lst_len (l := l.take i) fun n hn => hl n (List.mem_of_mem_take hn)
      rw [List.length_take] at h2
      have h3 := itoa_len (n := l.getD i 0) (by omega) b
      rw [if_pos (by omega), if_pos (by omega), if_pos (by omega), Int.toNat_natCast i, e16 k (by omega) (by omega) b, Option.bind_some, res16_eq, chk_ok (strOK_ok (by show 1 + _ ≤ _; omega)), chk_ok (strOK_ok (by rw [List.length_append]; show _ + (1 + _) ≤ _; omega)), w64 (x := (i : Int) + 1) (by omega) (by omega)]
      have e : lst (l.take i) ++ ([32] ++ Lib.itoa (l.getD i 0)) = lst (l.take (i + 1)) := by
        rw [take_succ_getD c, lst_append]; simp [lst]
      rw [e]
      exact l19_ok k hk hl hn m (i + 1) (by omega) (by omega)
    · rw [if_neg (by omega), List.take_of_length_le (by omega)]
theorem e19 (K : Nat) (hK : 60 ≤ K) {l : List Int} (hl : Pos l) (hn : l.length ≤ 20) : evF T K 19 [.vsl none (.int .i64) l] [] = some ([.str (lst l)], []) := by
  obtain ⟨k, rfl⟩ : ∃ k, K = k + 1 := ⟨K - 1, by omega⟩
  rw [f19_eq]
  exact l19_ok k (by omega) hl hn k 0 (by omega) (by omega)
def strs (l : List Int) : List (List UInt8) := l.map Lib.itoa
theorem l14_ok (k : Nat) (hk : 50 ≤ k) {l : List Int} (hl : Pos l) (hn : l.length ≤ 20) : ∀ (m i : Nat), i ≤ l.length → l.length - i < m → l14_0 k m l (l.length : Int) (i : Int) (strs (l.take i)) = some ([.vsl none .str (strs l)], [])
  | 0, _, _, h => absurd h (by omega)
  | m + 1, i, hi, hm => by
    rw [l14_0_eq]
    by_cases c : i < l.length
    · obtain ⟨a, b⟩ := hl _ (mem_getD c)
      have h1 : (strs (l.take i)).length ≤ 20 := by unfold strs; rw [List.length_map, List.length_take]; omega
      rw [if_pos (by omega), if_pos (by omega), if_pos (by omega), Int.toNat_natCast i, e9 k (by omega) ⟨by omega, b⟩, Option.bind_some, res9_eq, chk_ok (by show (_ + 1) * 16 ≤ _; omega), w64 (x := (i : Int) + 1) (by omega) (by omega)]
      have e : strs (l.take i) ++ [Lib.itoa (l.getD i 0)] = strs (l.take (i + 1)) := by
        unfold strs; rw [take_succ_getD c, List.map_append]; rfl
      rw [e]
      exact l14_ok k hk hl hn m (i + 1) (by omega) (by omega)
    · rw [if_neg (by omega), List.take_of_length_le (by omega)]
theorem e14 (K : Nat) (hK : 60 ≤ K) {l : List Int} (hl : Pos l) (hn : l.length ≤ 20) : evF T K 14 [.vsl none (.int .i64) l] [] = some ([.vsl none .str (strs l)], []) := by
  obtain ⟨k, rfl⟩ : ∃ k, K = k + 1 := ⟨K - 1, by omega⟩
  rw [f14_eq]
  exact l14_ok k (by omega) hl hn k 0 (by omega) (by omega)

end Go.Proofs.YtflgegjljcpedaaDoor
