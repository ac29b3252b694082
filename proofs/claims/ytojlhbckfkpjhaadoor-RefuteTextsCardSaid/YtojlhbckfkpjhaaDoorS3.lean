import Derived.Test.YtojlhbckfkpjhaaDoorS2
set_option linter.all false
namespace Go.Proofs.YtojlhbckfkpjhaaDoor
open Go Go.RowKit Go.Vm
/-! ### refute.Format -/
/-- A word and numbers, as words. -/
def words (w : List UInt8) (l : List Int) : List (List UInt8) := w :: l.map Lib.itoa
theorem words_len (w : List UInt8) (l : List Int) : (words w l).length = l.length + 1 := by unfold words; rw [List.length_cons, List.length_map]
theorem l15_ok (k : Nat) (w : List UInt8) {l : List Int} (hl : ∀ n ∈ l, inR n) (hn : l.length ≤ 1000000) : ∀ (m i : Nat), i ≤ l.length → l.length - i < m → l15_0 (k + 1) m l (l.length : Int) (i : Int) (words w (l.take i)) = some ([.vsl none .str (words w l)], [])
  | 0, _, _, h => absurd h (by omega)
  | m + 1, i, hi, hm => by
    rw [l15_0_eq]
    by_cases c : i < l.length
    · rw [if_pos (by omega), if_pos (by omega), if_pos (by omega), Int.toNat_natCast i, e14 k (hl _ (mem_getD c)), Option.bind_some, res14_eq, chk_ok (by rw [words_len, List.length_take]; show (_ + 1 + 1) * 16 ≤ _; omega), w64 (x := (i : Int) + 1) (by omega) (by omega)]
      have e : words w (l.take i) ++ [Lib.itoa (l.getD i 0)] = words w (l.take (i + 1)) := by
        unfold words; rw [take_succ_getD c, List.map_append, List.cons_append]; rfl
      rw [e]
      exact l15_ok k w hl hn m (i + 1) (by omega) (by omega)
    · rw [if_neg (by omega), List.take_of_length_le (by omega)]
theorem j15_ok (k : Nat) (w : List UInt8) {l : List Int} (hl : ∀ n ∈ l, inR n) (hn : l.length ≤ 1000000) (hk : l.length < k) : j15_0 (k + 1) w l = some ([.vsl none .str (words w l)], []) := by
  rw [j15_0_eq]
  exact l15_ok k w hl hn (k + 1) 0 (by omega) (by omega)
/-- A node's words. -/
theorem e15 (k : Nat) {n : S37} (h : NOk n) : evF T (k + 80000) 15 [.agg [.int .i64 n.f0, .int .i64 n.f1, .vsl none (.int .i64) n.f2, .vsl none (.int .i64) n.f3, .int .i64 n.f4, .int .i64 n.f5, .int .i64 n.f6]] [] = if known n then some ([.vsl none .str (words (word n) (nums n))], []) else some ([.vsl (some 9) .str []], []) := by
  obtain ⟨h1, h2⟩ := nums_ok h
  obtain ⟨-, -, -, -, -, -, h7, -⟩ := h
  rw [show k + 80000 = (k + 79999) + 1 from rfl, f15_eq]
  have J : ∀ (w : List UInt8) (l : List Int), word n = w → nums n = l → known n → j15_0 (k + 79999) w l = if known n then some ([.vsl none .str (words (word n) (nums n))], []) else some ([.vsl (some 9) .str []], []) := fun w l e1 e2 e3 => by
    subst e1 e2
    rw [if_pos e3]
    exact j15_ok (k + 79998) (word n) h1 (by omega) (by omega)
  by_cases c1 : n.f0 = 1
  · rw [if_pos c1, chk_ok (by show (1 + _) * 8 ≤ _; omega)]
    exact J _ _ (by unfold word; rw [if_pos c1]) (by unfold nums; rw [if_pos c1]; rfl) (.inl c1)
  · rw [if_neg c1]
    by_cases c2 : n.f0 = 2
    · rw [if_pos c2]
      exact J _ _ (by unfold word; rw [if_neg c1, if_pos c2]) (by unfold nums; rw [if_neg c1, if_pos c2]) (.inr (.inl c2))
    · rw [if_neg c2]
      by_cases c3 : n.f0 = 3
      · rw [if_pos c3]
        exact J _ _ (by unfold word; rw [if_neg c1, if_neg c2, if_pos c3]) (by unfold nums; rw [if_neg c1, if_neg c2, if_pos c3]) (.inr (.inr (.inl c3)))
      · rw [if_neg c3]
        by_cases c4 : n.f0 = 4
        · rw [if_pos c4]
          exact J _ _ (by unfold word; rw [if_neg c1, if_neg c2, if_neg c3]) (by unfold nums; rw [if_neg c1, if_neg c2, if_neg c3]) (.inr (.inr (.inr c4)))
        · rw [if_neg c4, if_neg (fun h => h.elim c1 (fun h => h.elim c2 (fun h => h.elim c3 c4)))]
theorem tail_lst : ∀ l : List Int, Lib.joinTail [32] (l.map Lib.itoa) = lst l
  | [] => rfl
  | n :: l => by
    have := tail_lst l
    unfold Lib.joinTail at this ⊢
    rw [List.map_cons, List.map_cons, List.flatten_cons, this, lst]
    rfl
theorem join_line (n : S37) : Lib.join (words (word n) (nums n)) [32] = line n := by
  unfold words
  rw [Lib.join_cons, tail_lst]; rfl
theorem e16 (k : Nat) {n : S37} (h : NOk n) : evF T (k + 1) 16 [.vsl none .str (words (word n) (nums n)), .str [32]] [] = some ([.str (line n)], []) := by
  show xJoin [.vsl none .str (words (word n) (nums n)), .str [32]] [] = _
  obtain ⟨h1, h2⟩ := nums_ok h
  have h3 := line_len h
  unfold xJoin
  dsimp only
  have e : (Nat.ble (List.length (α := El N .str) (words (word n) (nums n))) 140737488355328 && Nat.ble (Lib.join (words (word n) (nums n)) [32]).length 140737488355328) = true := by
    rw [Bool.and_eq_true, Nat.ble_eq, Nat.ble_eq, join_line]
    refine ⟨?_, by omega⟩
    show (words (word n) (nums n)).length ≤ _
    rw [words_len]; omega
  refine (congrArg (fun b => bif b then some ([PV.str (Lib.join (words (word n) (nums n)) [32])], ([] : Heap N)) else none) e).trans ?_
  rw [join_line]; rfl
theorem e13 (k : Nat) (s : List UInt8) (r1 : List Int) (h : r1.length + s.length ≤ 140737488355328) : evF T (k + 2) 13 [.bptr 0 0, .str s] [some (.box 56 [.nilp, .sl 1 0]), some (.row 0 0 5 (.int .u8) r1)] = some ([.int .i64 (s.length : Int), .nilif], [some (.box 56 [.bptr 0 0, .sl 1 0]), some (.row 0 0 5 (.int .u8) (r1 ++ bytesOf s))]) := by
  have e : evF T (k + 1) 30 [.bptr 0 0] [some (.box 56 [.nilp, .sl 1 0]), some (.row 0 0 5 (.int .u8) r1)] = some ([], [some (.box 56 [.bptr 0 0, .sl 1 0]), some (.row 0 0 5 (.int .u8) r1)]) := rfl
  rw [f13_eq, e, Option.bind_some, res30_1_eq, chk_ok (by unfold bytesOf; rw [List.length_map]; omega)]
theorem e13b (k : Nat) (s : List UInt8) (r1 : List Int) (h : r1.length + s.length ≤ 140737488355328) : evF T (k + 2) 13 [.bptr 0 0, .str s] [some (.box 56 [.bptr 0 0, .sl 1 0]), some (.row 0 0 5 (.int .u8) r1)] = some ([.int .i64 (s.length : Int), .nilif], [some (.box 56 [.bptr 0 0, .sl 1 0]), some (.row 0 0 5 (.int .u8) (r1 ++ bytesOf s))]) := by
  have e : evF T (k + 1) 30 [.bptr 0 0] [some (.box 56 [.bptr 0 0, .sl 1 0]), some (.row 0 0 5 (.int .u8) r1)] = some ([], [some (.box 56 [.bptr 0 0, .sl 1 0]), some (.row 0 0 5 (.int .u8) r1)]) := rfl
  rw [f13v1_eq, e, Option.bind_some, res30_1_eq, chk_ok (by unfold bytesOf; rw [List.length_map]; omega)]
theorem e13n (k : Nat) (s : List UInt8) (h : s.length ≤ 140737488355328) : evF T (k + 2) 13 [.bptr 0 0, .str s] [some (.box 56 [.nilp, .sl 1 0]), some (.row 0 0 5 (.int .u8) [])] = some ([.int .i64 (s.length : Int), .nilif], [some (.box 56 [.bptr 0 0, .sl 1 0]), some (.row 0 0 5 (.int .u8) (bytesOf s))]) := e13 k s [] (by show 0 + _ ≤ _; omega)
theorem strOf_bytesOf (t : List UInt8) : strOf (bytesOf t) = t := by
  unfold strOf bytesOf
  rw [List.map_map]
  have : ((fun n : Int => UInt8.ofNat n.toNat) ∘ fun c : UInt8 => (c.toNat : Int)) = id := by
    funext c; simp
  rw [this, List.map_id]
theorem bytes_ok (t : List UInt8) : (bytesOf t).all byteOk = true := by
  rw [List.all_eq_true]
  intro x hx
  unfold bytesOf at hx
  obtain ⟨c, -, rfl⟩ := List.mem_map.mp hx
  have := c.toNat_lt
  unfold byteOk; rw [Bool.and_eq_true, decide_eq_true_eq, decide_eq_true_eq]; omega
theorem e18 (k : Nat) {t : List UInt8} (h : t ≠ []) : evF T (k + 1) 18 [.bptr 0 0] [some (.box 56 [.bptr 0 0, .sl 1 0]), some (.row 0 0 5 (.int .u8) (bytesOf t))] = some ([.str t], [some (.box 56 [.bptr 0 0, .vsl none (.int .u8) (bytesOf t)])]) := by
  have e : (List.all (bytesOf t) byteOk && !List.isEmpty (α := El N (.int .u8)) (bytesOf t)) = true := by
    rw [bytes_ok]
    cases t with
    | nil => exact absurd rfl h
    | cons c t => rfl
  refine (congrArg (fun b => bif b then some ([PV.str (strOf (bytesOf t))], ([some (.box 56 [.bptr 0 0, .vsl none (.int .u8) (bytesOf t)])] : Heap N)) else none) e).trans ?_
  rw [strOf_bytesOf]; rfl
theorem bytesOf_append (a b : List UInt8) : bytesOf a ++ bytesOf b = bytesOf (a ++ b) := (List.map_append ..).symm
theorem bytesOf_len (a : List UInt8) : (bytesOf a).length = a.length := List.length_map _
theorem text_ne (ii : Int) (t : List S37) : text ii t ≠ [] := by
  unfold text; exact List.cons_ne_nil _ _
/-- What Format answers. -/
def fmt (ii : Int) (t : List S37) : List UInt8 × Int := if (∀ j, j < t.length → known (t.getD j z37)) then (if (text ii t).length > 65536 then ([], 5) else (text ii t, 0)) else ([], 3)
theorem l7_ok (k : Nat) {ii : Int} {t : List S37} (h0 : inR ii) (ht : ∀ n ∈ t, NOk n) (hn : t.length ≤ 70000) : ∀ (m i : Nat), i ≤ t.length → t.length - i < m → (∀ j, j < i → known (t.getD j z37)) →
    l7_0 (k + 80000) m t (t.length : Int) (i : Int) (bytesOf (text ii (t.take i))) = some ([.str (fmt ii t).1, .int .i64 (fmt ii t).2], [])
  | 0, _, _, h, _ => absurd h (by omega)
  | m + 1, i, hi, hm, hk => by
    rw [l7_0_eq]
    by_cases c : i < t.length
    · have hN := ht _ (mem37 c)
      have hl := line_len hN
      have hL := text_len (t := t.take i) h0 (fun n hn => ht n (List.mem_of_mem_take hn)) (by rw [List.length_take]; omega)
      rw [if_pos (by omega), if_pos (by omega), if_pos (by omega), Int.toNat_natCast i, e15 k hN]
      by_cases hi2 : known (t.getD i z37)
      · rw [if_pos hi2, Option.bind_some, res15_eq0, if_neg (by simp), chk_ok (by rw [words_len]; omega), show k + 80000 = (k + 79999) + 1 from rfl, e16 _ hN, Option.bind_some, res16_eq, chk_ok (strOK_ok (by show _ + 1 ≤ _; omega)), show k + 79999 + 1 = (k + 79998) + 2 from rfl, e13b _ _ _ (by rw [bytesOf_len, List.length_append]; show _ + (_ + 1) ≤ _; omega), Option.bind_some, res13_1_eq1, if_pos rfl, w64 (x := (i : Int) + 1) (by omega) (by omega), bytesOf_append, ← text_take c]
        exact l7_ok k h0 ht hn m (i + 1) (by omega) (by omega) fun j hj => by
          by_cases e : j = i
          · subst e; exact hi2
          · exact hk j (by omega)
      · rw [if_neg hi2, Option.bind_some, res15_eq1, if_pos rfl, chk_ok (by decide)]
        unfold fmt
        rw [if_neg (fun h => hi2 (h i c))]
    · rw [if_neg (by omega), show k + 80000 = (k + 79999) + 1 from rfl, f17_eq, Option.bind_some, res17_1_eq, List.take_of_length_le (by omega)]
      unfold fmt
      rw [if_pos (fun j hj => hk j (by omega)), bytesOf_len]
      by_cases c2 : (text ii t).length > 65536
      · rw [if_pos (by omega), if_pos c2]
      · rw [if_neg (by omega), if_neg c2, e18 _ (text_ne ii t), Option.bind_some, res18_1_eq]
theorem e7 (k : Nat) {ii : Int} {t : List S37} (h0 : inR ii) (ht : ∀ n ∈ t, NOk n) (hn : t.length ≤ 70000) : evF T (k + 80001) 7 [.agg [.int .i64 ii, .vsl none (.named 37) t]] [] = some ([.str (fmt ii t).1, .int .i64 (fmt ii t).2], []) := by
  have a0 := itoa_len h0
  rw [f7_eq, show k + 80000 = (k + 79999) + 1 from rfl, e14 _ h0, Option.bind_some, res14_eq, chk_ok (strOK_ok (by show 9 + _ ≤ _; omega)), chk_ok (strOK_ok (by rw [List.length_append]; show 9 + _ + 1 ≤ _; omega)), show k + 79999 + 1 = (k + 79998) + 2 from rfl,
    e13n _ _ (by rw [List.length_append, List.length_append]; show 9 + _ + 1 ≤ _; omega), Option.bind_some, res13_1_eq1, if_pos rfl]
  have := l7_ok k h0 ht hn (k + 80000) 0 (by omega) (by omega) (fun j hj => absurd hj (by omega))
  have e : text ii (t.take 0) = [105, 110, 116, 101, 114, 118, 97, 108, 32] ++ Lib.itoa ii ++ [10] := by
    unfold text; simp [body, lst]
  rw [e] at this
  exact this

end Go.Proofs.YtojlhbckfkpjhaaDoor
