import Derived.Test.YtflgegjljcpedaaDoorS2
set_option linter.all false
namespace Go.Proofs.YtflgegjljcpedaaDoor
open Go Go.RowKit Go.Vm
/-! ### the text of an instruction -/
theorem tail_app (a b : List (List UInt8)) : Lib.joinTail [32] (a ++ b) = Lib.joinTail [32] a ++ Lib.joinTail [32] b := by
  unfold Lib.joinTail; rw [List.map_append, List.flatten_append]
theorem tail_cons (x : List UInt8) (r : List (List UInt8)) : Lib.joinTail [32] (x :: r) = 32 :: (x ++ Lib.joinTail [32] r) := rfl
theorem tail_strs : ∀ l : List Int, Lib.joinTail [32] (strs l) = lst l
  | [] => rfl
  | n :: l => by
    have := tail_strs l
    unfold strs at this ⊢
    rw [List.map_cons, tail_cons, this, lst]
def plainB (op : Int) : Bool := decide (op = 26 ∨ op = 28)
def w1 (op num : Int) : List (List UInt8) := if op = 1 then [Lib.decDigits num.toNat] else []
def w2 (op : Int) (m : List UInt8) : List (List UInt8) := if 25 ≤ op ∧ op ≤ 28 then [m] else []
def w0 (op d : Int) : List (List UInt8) := if plainB op = true then [] else [Lib.itoa d, [61]]
def wordsF (op d : Int) (args : List Int) (num : Int) (m : List UInt8) : List (List UInt8) := w0 op d ++ [nmF op] ++ w1 op num ++ w2 op m ++ strs args
def t0 (op d : Int) : List UInt8 := if plainB op = true then nmF op else Lib.itoa d ++ [32, 61, 32] ++ nmF op
def t1 (op num : Int) : List UInt8 := if op = 1 then [32] ++ Lib.decDigits num.toNat else []
def t2 (op : Int) (m : List UInt8) : List UInt8 := if 25 ≤ op ∧ op ≤ 28 then [32] ++ m else []
def textF (op d : Int) (args : List Int) (num : Int) (m : List UInt8) : List UInt8 := t0 op d ++ t1 op num ++ t2 op m ++ lst args
theorem join_text (op d : Int) (args : List Int) (num : Int) (m : List UInt8) : Lib.join (wordsF op d args num m) [32] = textF op d args num m := by
  have e1 : Lib.joinTail [32] (w1 op num) = t1 op num := by unfold w1 t1; split <;> simp [Lib.joinTail]
  have e2 : Lib.joinTail [32] (w2 op m) = t2 op m := by unfold w2 t2; split <;> simp [Lib.joinTail]
  unfold wordsF w0 textF t0
  by_cases c : plainB op = true
  · rw [if_pos c, if_pos c, List.nil_append, List.append_assoc, List.append_assoc, List.singleton_append, Lib.join_cons, tail_app, tail_app, e1, e2, tail_strs, List.append_assoc, List.append_assoc]
  · rw [if_neg c, if_neg c]
    have : [Lib.itoa d, [61]] ++ [nmF op] ++ w1 op num ++ w2 op m ++ strs args = Lib.itoa d :: ([61] :: (nmF op :: (w1 op num ++ (w2 op m ++ strs args)))) := by simp
    rw [this, Lib.join_cons, tail_cons, tail_cons, tail_app, tail_app, e1, e2, tail_strs]
    simp
structure Fits (d : Int) (args : List Int) (num : Int) (m : List UInt8) : Prop where
  d0 : -1 ≤ d
  d1 : d ≤ 9223372036854775807
  pos : Pos args
  few : args.length ≤ 20
  n0 : 0 ≤ num
  n1 : num < 18446744073709551616
  ml : m.length ≤ 140737488351232
theorem t0_len (op : Int) {d : Int} (h0 : -1 ≤ d) (h1 : d ≤ 9223372036854775807) : (t0 op d).length ≤ 30 := by
  have := (nmF_ok op).2
  have := itoa_len h0 h1
  unfold t0
  split
  · omega
  · rw [List.length_append, List.length_append]; show _ + 3 + _ ≤ _; omega
theorem t1_len (op : Int) {num : Int} (h0 : 0 ≤ num) (h1 : num < 18446744073709551616) : (t1 op num).length ≤ 21 := by
  have := dec20 (u := num.toNat) (by omega)
  unfold t1
  split
  · rw [List.length_append]; show 1 + _ ≤ _; omega
  · exact Nat.zero_le _
theorem t2_len (op : Int) (m : List UInt8) : (t2 op m).length ≤ 1 + m.length := by
  unfold t2
  split
  · rw [List.length_append]; exact Nat.le_refl _
  · exact Nat.zero_le _
theorem text_len {op d : Int} {args : List Int} {num : Int} {m : List UInt8} (h : Fits d args num m) : (textF op d args num m).length ≤ 140737488351732 := by
  have := t0_len op h.d0 h.d1
  have := t1_len op h.n0 h.n1
  have := t2_len op m
  have := lst_len h.pos
  have := h.few
  have := h.ml
  unfold textF
  rw [List.length_append, List.length_append, List.length_append]; omega
theorem words_len {op d : Int} {args : List Int} {num : Int} {m : List UInt8} (h : args.length ≤ 20) : (wordsF op d args num m).length ≤ 25 := by
  unfold wordsF w0 w1 w2 strs
  rw [List.length_append, List.length_append, List.length_append, List.length_append, List.length_map]
  split <;> split <;> split <;> simp only [List.length_cons, List.length_nil] <;> omega
theorem e13 (K : Nat) (hK : 1 ≤ K) {l : List (List UInt8)} (h1 : l.length ≤ 1000) (h2 : (Lib.join l [32]).length ≤ 140737488355328) : evF T K 13 [.vsl none .str l, .str [32]] [] = some ([.str (Lib.join l [32])], []) := by
  obtain ⟨k, rfl⟩ : ∃ k, K = k + 1 := ⟨K - 1, by omega⟩
  have e : (Nat.ble (List.length (α := El N .str) l) 140737488355328 && Nat.ble (Lib.join l [32]).length 140737488355328) = true := by
    rw [Bool.and_eq_true, Nat.ble_eq, Nat.ble_eq]
    refine ⟨?_, h2⟩
    show l.length ≤ _
    omega
  show xJoin [.vsl none .str l, .str [32]] [] = _
  unfold xJoin
  dsimp only
  refine (congrArg (fun b => bif b then some ([PV.str (Lib.join l [32])], ([] : Heap N)) else none) e).trans ?_
  rfl
theorem e8 (K : Nat) (hK : 1 ≤ K) (op : Int) : evF T K 8 [.int .i64 op] [] = some ([.bool (plainB op)], []) := by
  obtain ⟨k, rfl⟩ : ∃ k, K = k + 1 := ⟨K - 1, by omega⟩
  rw [f8_eq]
  unfold plainB
  by_cases c : op = 26
  · rw [if_pos c, decide_eq_true (show op = 26 ∨ op = 28 from .inl c)]
  · rw [if_neg c]
    exact congrArg (fun b => some ([PV.bool b], ([] : Heap N))) (decide_eq_decide.mpr ⟨.inr, fun h => h.resolve_left c⟩)
section
variable (n : List UInt8) (ws : List Int) (ar : List S53) (st : List S55) (rt : List Int) (bl : List S40) (op d : Int) (args : List Int) (num mem : Int)
theorem j6_3_ok (k : Nat) (hk : 100 ≤ k) (h : Fits d args num (memF ar st op mem)) : j6_3 k op d args num mem (w0 op d ++ [nmF op] ++ w1 op num ++ w2 op (memF ar st op mem)) = some ([.str (textF op d args num (memF ar st op mem))], []) := by
  have hw := words_len (op := op) (d := d) (num := num) (m := memF ar st op mem) h.few
  have hj := join_text op d args num (memF ar st op mem)
  have hl := text_len (op := op) h
  have e := e13 k (by omega) (l := wordsF op d args num (memF ar st op mem)) (by omega) (by rw [hj]; omega)
  rw [hj] at e
  unfold wordsF at e hw
  rw [j6_3_eq, e14 k (by omega) h.pos h.few, Option.bind_some, res14_eq, chk_ok (by rw [← List.length_append]; omega), e, Option.bind_some, res13_eq]
theorem j6_2_ok (k : Nat) (hk : 100 ≤ k) (h : Fits d args num (memF ar st op mem)) : j6_2 k n ws ar st rt bl op d args num mem (w0 op d ++ [nmF op] ++ w1 op num) = some ([.str (textF op d args num (memF ar st op mem))], []) := by
  have hw := words_len (op := op) (d := d) (num := num) (m := memF ar st op mem) h.few
  have hJ := j6_3_ok ar st op d args num mem k hk h
  unfold wordsF w2 at hw
  unfold w2 at hJ
  rw [j6_2_eq, e12 n ws ar st rt bl op d args num mem k (by omega)]
  by_cases c : 25 ≤ op ∧ op ≤ 28
  · rw [if_pos c] at hJ hw ⊢
    rw [Option.bind_some]
    rw [res12_eq, if_pos rfl, chk_ok (by rw [List.length_append] at hw; rw [List.length_append] at hw; show (_ + 1) * 16 ≤ _; have : [memF ar st op mem].length = 1 := rfl; omega)]
    exact hJ
  · rw [if_neg c] at hJ ⊢
    rw [Option.bind_some]
    rw [res12_eq, if_neg (by simp)]
    rw [List.append_nil] at hJ
    exact hJ
theorem j6_1_ok (k : Nat) (hk : 100 ≤ k) (h : Fits d args num (memF ar st op mem)) : j6_1 k (nmF op) n ws ar st rt bl op d args num mem (w0 op d) = some ([.str (textF op d args num (memF ar st op mem))], []) := by
  have hJ := j6_2_ok n ws ar st rt bl op d args num mem k hk h
  have hw : (w0 op d).length ≤ 2 := by unfold w0; split <;> simp
  unfold w1 at hJ
  rw [j6_1_eq, chk_ok (by show (_ + 1) * 16 ≤ _; omega)]
  by_cases c : op = 1
  · rw [if_pos c] at hJ
    rw [if_pos c, e11 k (by omega) h.n0 h.n1, Option.bind_some, res11_eq, chk_ok (by rw [List.length_append]; show (_ + 1 + 1) * 16 ≤ _; omega)]
    exact hJ
  · rw [if_neg c, List.append_nil] at hJ
    rw [if_neg c]
    exact hJ
theorem j6_0_ok (k : Nat) (hk : 100 ≤ k) (h : Fits d args num (memF ar st op mem)) : j6_0 k n ws ar st rt bl op d args num mem (w0 op d) = some ([.str (textF op d args num (memF ar st op mem))], []) := by
  have hJ := j6_1_ok n ws ar st rt bl op d args num mem k hk h
  rw [j6_0_eq, e10 k (by omega), Option.bind_some, res10_eq]
  have hn := (nmF_ok op).1
  unfold nmF at hn hJ
  by_cases c : 0 < op ∧ op < 29
  · rw [if_pos c] at hn hJ ⊢
    rw [if_neg hn]
    exact hJ
  · rw [if_neg c] at hJ ⊢
    rw [if_pos rfl]
    exact hJ
/-- irtext.Inst. -/
theorem e6 (K : Nat) (hK : 101 ≤ K) (h : Fits d args num (memF ar st op mem)) : evF T K 6 [.agg [.str n, .vsl none (.int .i64) ws, .vsl none (.named 53) ar, .vsl none (.named 55) st, .vsl none (.int .i64) rt, .vsl none (.named 40) bl], .agg [.int .i64 op, .int .i64 d, .vsl none (.int .i64) args, .int .u64 num, .int .i64 mem]] [] = some ([.str (textF op d args num (memF ar st op mem))], []) := by
  obtain ⟨k, rfl⟩ : ∃ k, K = k + 1 := ⟨K - 1, by omega⟩
  have hJ := j6_0_ok n ws ar st rt bl op d args num mem k (by omega) h
  unfold w0 at hJ
  rw [f6_eq, e8 k (by omega), Option.bind_some, res8_eq]
  cases c : plainB op with
  | true =>
    rw [c, if_pos rfl] at hJ
    rw [if_neg (by simp)]
    exact hJ
  | false =>
    rw [c, if_neg (by simp)] at hJ
    rw [if_pos (by rfl), e9 k (by omega) ⟨by have := h.d0; omega, h.d1⟩, Option.bind_some, res9_eq, chk_ok (by show 2 * 16 ≤ _; omega)]
    exact hJ
theorem j7_1_ok (k : Nat) (hk : 100 ≤ k) (h : Fits d args num (memF ar st op mem)) : j7_1 k (t0 op d ++ t1 op num) n ws ar st rt bl op d args num mem = some ([.str (textF op d args num (memF ar st op mem))], []) := by
  have a0 := t0_len op h.d0 h.d1
  have a1 := t1_len op h.n0 h.n1
  have a3 := lst_len h.pos
  have a4 := h.few
  have a5 := h.ml
  rw [j7_1_eq]
  unfold textF t2
  have no : ¬ (25 ≤ op ∧ op ≤ 28) → ((evF T k 19 [.vsl none (.int .i64) args] []).bind fun r => res19 r fun y7 => chk (strOK (t0 op d ++ t1 op num) y7) (some ([PV.str ((t0 op d ++ t1 op num) ++ y7)], ([] : Heap N)))) = (some ([PV.str (t0 op d ++ t1 op num ++ (if 25 ≤ op ∧ op ≤ 28 then [32] ++ memF ar st op mem else []) ++ lst args)], []) : Option (Ans N)) := fun c => by
    rw [if_neg c, e19 k (by omega) h.pos h.few, Option.bind_some, res19_eq, chk_ok (strOK_ok (by rw [List.length_append]; omega)), List.append_nil]
  by_cases c1 : op ≥ 25
  · by_cases c2 : op ≤ 28
    · rw [if_pos c1, if_pos c2, if_pos ⟨c1, c2⟩, e18 n ws ar st rt bl op d args num mem k (by omega), Option.bind_some, res18_eq, chk_ok (strOK_ok (by show 1 + _ ≤ _; omega)), chk_ok (strOK_ok (by rw [List.length_append, List.length_append]; show _ + _ + (1 + _) ≤ _; omega)), e19 k (by omega) h.pos h.few, Option.bind_some, res19_eq,
        chk_ok (strOK_ok (by rw [List.length_append, List.length_append, List.length_append]; show _ + _ + (1 + _) + _ ≤ _; omega))]
    · rw [if_pos c1, if_neg c2]; exact no (fun h => c2 h.2)
  · rw [if_neg c1]; exact no (fun h => c1 h.1)
theorem j7_0_ok (k : Nat) (hk : 100 ≤ k) (h : Fits d args num (memF ar st op mem)) : j7_0 k (t0 op d) n ws ar st rt bl op d args num mem = some ([.str (textF op d args num (memF ar st op mem))], []) := by
  have hJ := j7_1_ok n ws ar st rt bl op d args num mem k hk h
  have a0 := t0_len op h.d0 h.d1
  have a1 := dec20 (u := num.toNat) (by have := h.n1; have := h.n0; omega)
  rw [j7_0_eq]
  unfold t1 at hJ
  by_cases c : op = 1
  · rw [if_pos c] at hJ
    rw [if_pos c, e17 k (by omega) h.n0 h.n1, Option.bind_some, res17_eq, chk_ok (strOK_ok (by show 1 + _ ≤ _; omega)), chk_ok (strOK_ok (by rw [List.length_append]; show _ + (1 + _) ≤ _; omega))]
    exact hJ
  · rw [if_neg c, List.append_nil] at hJ
    rw [if_neg c]
    exact hJ
/-- The reference's Inst. -/
theorem e7 (K : Nat) (hK : 101 ≤ K) (h : Fits d args num (memF ar st op mem)) : evF T K 7 [.agg [.str n, .vsl none (.int .i64) ws, .vsl none (.named 53) ar, .vsl none (.named 55) st, .vsl none (.int .i64) rt, .vsl none (.named 40) bl], .agg [.int .i64 op, .int .i64 d, .vsl none (.int .i64) args, .int .u64 num, .int .i64 mem]] [] = some ([.str (textF op d args num (memF ar st op mem))], []) := by
  obtain ⟨k, rfl⟩ : ∃ k, K = k + 1 := ⟨K - 1, by omega⟩
  have hJ := j7_0_ok n ws ar st rt bl op d args num mem k (by omega) h
  have a0 := itoa_len h.d0 h.d1
  have a1 := (nmF_ok op).2
  unfold t0 plainB at hJ
  rw [f7_eq, e15 k (by omega), Option.bind_some, res15_eq]
  by_cases c1 : op = 26
  · rw [if_pos (decide_eq_true (show op = 26 ∨ op = 28 from .inl c1))] at hJ
    rw [if_neg (fun h => h c1)]; exact hJ
  · rw [if_pos c1]
    by_cases c2 : op = 28
    · rw [if_pos (decide_eq_true (show op = 26 ∨ op = 28 from .inr c2))] at hJ
      rw [if_neg (fun h => h c2)]; exact hJ
    · rw [if_neg (by rw [decide_eq_false (fun h => h.elim c1 c2)]; simp)] at hJ
      rw [if_pos c2, e16 k (by omega) h.d0 h.d1, Option.bind_some, res16_eq, chk_ok (strOK_ok (by show _ + 3 ≤ _; omega)), chk_ok (strOK_ok (by rw [List.length_append]; show _ + 3 + _ ≤ _; omega))]
      exact hJ
/-! ### the law -/
theorem l5_ok (k : Nat) (hb : bl.length < 4000000000000) : ∀ (m i : Nat) (x : Int), i ≤ bl.length → bl.length - i < m → ∃ B : Bool, l5_0 k m x (i : Int) n ws ar st rt bl = some ([.bool B], [])
  | 0, _, _, _, h => absurd h (by omega)
  | m + 1, i, x, hi, hm => by
    rw [l5_0_eq]
    by_cases c : i < bl.length
    · rw [if_pos (by omega), if_pos (by omega), if_pos (by omega), if_pos (by omega), if_pos (by omega)]
      by_cases c1 : (((bl.getD (i : Int).toNat z40).f0).length : Int) > 100
      · rw [if_pos c1]; exact ⟨_, rfl⟩
      · rw [if_neg c1, w64 (x := (i : Int) + 1) (by omega) (by omega)]
        exact l5_ok k hb m (i + 1) _ (by omega) (by omega)
    · rw [if_neg (by omega)]
      by_cases c1 : (bl.length : Int) ≤ 30
      · rw [if_pos c1]
        by_cases c2 : x ≤ 300
        · rw [if_pos c2]; exact ⟨_, rfl⟩
        · rw [if_neg c2]; exact ⟨_, rfl⟩
      · rw [if_neg c1]; exact ⟨_, rfl⟩
end
theorem awake (K : Nat) (hK : 200 ≤ K) : evF T K 4 [] [] = some ([.bool true], []) := by
  obtain ⟨k, rfl⟩ : ∃ k, K = k + 1 := ⟨K - 1, by omega⟩
  have e := e6 [] [] [] [] [] [] 2 2 [0, 1] 0 0 k (by omega) ⟨by decide, by decide, fun x hx => by
    simp only [List.mem_cons, List.not_mem_nil, or_false] at hx
    rcases hx with rfl | rfl <;> decide, by decide, by decide, by decide, by decide⟩
  have e1 : textF 2 2 [0, 1] 0 (memF [] [] 2 0) = [50, 32, 61, 32, 97, 100, 100, 32, 48, 32, 49] := by
    have h0 : Lib.itoa 0 = [48] := by unfold Lib.itoa; rw [if_neg (by decide)]; exact Lib.decDigits_one (by decide)
    have h1 : Lib.itoa 1 = [49] := by unfold Lib.itoa; rw [if_neg (by decide)]; exact Lib.decDigits_one (by decide)
    have h2 : Lib.itoa 2 = [50] := by unfold Lib.itoa; rw [if_neg (by decide)]; exact Lib.decDigits_one (by decide)
    unfold textF t0
    rw [h2, lst, lst, lst, h0, h1]
    rfl
  rw [e1] at e
  rw [f4_eq]
  refine (congrArg (fun z : Option (Ans N) => z.bind fun r => res6 r fun y1 => some ([PV.bool (decide (y1 = [(50 : UInt8), 32, 61, 32, 97, 100, 100, 32, 48, 32, 49]))], [])) e).trans ?_
  exact congrArg (fun b => some ([PV.bool b], ([] : Heap N))) (decide_eq_true rfl)
section
variable (n : List UInt8) (ws : List Int) (ar : List S53) (st : List S55) (rt : List Int) (bl : List S40) (op d : Int) (args : List Int) (num mem : Int)
theorem l3_ok (k : Nat) (hk : 200 ≤ k) (hd0 : -1 ≤ d) (hd1 : d ≤ 9223372036854775807) (ha : ∀ x ∈ args, x ≤ 9223372036854775807) (hn : args.length ≤ 20) (n0 : 0 ≤ num) (n1 : num < 18446744073709551616) (hm : (memF ar st op mem).length ≤ 140737488351232) :
    ∀ (m i : Nat), i ≤ args.length → args.length - i < m → (∀ j, j < i → 0 ≤ args.getD j 0) → l3_0 k m (i : Int) n ws ar st rt bl op d args num mem = some ([.bool true], [])
  | 0, _, _, h, _ => absurd h (by omega)
  | m + 1, i, hi, hmm, hj => by
    rw [l3_0_eq]
    by_cases c : i < args.length
    · rw [if_pos (by omega), if_pos (by omega), if_pos (by omega), Int.toNat_natCast i]
      by_cases c1 : args.getD i 0 < 0
      · rw [if_pos c1]
      · rw [if_neg c1, w64 (x := (i : Int) + 1) (by omega) (by omega)]
        exact l3_ok k hk hd0 hd1 ha hn n0 n1 hm m (i + 1) (by omega) (by omega) fun j hji => by
          by_cases e : j = i
          · subst e; omega
          · exact hj j (by omega)
    · have hf : Fits d args num (memF ar st op mem) := ⟨hd0, hd1, fun x hx => by
        obtain ⟨j, hjl, rfl⟩ := List.mem_iff_getElem.mp hx
        have := hj j (by omega)
        rw [List.getD_eq_getElem?_getD, List.getElem?_eq_getElem hjl] at this
        exact ⟨this, ha _ hx⟩, hn, n0, n1, hm⟩
      rw [if_neg (by omega), e6 n ws ar st rt bl op d args num mem k (by omega) hf, Option.bind_some, res6_eq, e7 n ws ar st rt bl op d args num mem k (by omega) hf, Option.bind_some, res7_eq]
      exact congrArg (fun b => some ([PV.bool b], ([] : Heap N))) (decide_eq_true rfl)
/-- The law IrtextInst returns true for every function and instruction. -/
theorem inst_true (hb : bl.length < 4000000000000) (hd1 : d ≤ 9223372036854775807) (ha : ∀ x ∈ args, x ≤ 9223372036854775807) (n0 : 0 ≤ num) (n1 : num < 18446744073709551616) (hm : (memF ar st op mem).length ≤ 140737488351232) :
    evF T (1000 + bl.length) 3 [.agg [.str n, .vsl none (.int .i64) ws, .vsl none (.named 53) ar, .vsl none (.named 55) st, .vsl none (.int .i64) rt, .vsl none (.named 40) bl], .agg [.int .i64 op, .int .i64 d, .vsl none (.int .i64) args, .int .u64 num, .int .i64 mem]] [] = some ([.bool true], []) := by
  obtain ⟨k, hk⟩ : ∃ k, 1000 + bl.length = k + 1 := ⟨999 + bl.length, by omega⟩
  obtain ⟨B, hB⟩ : ∃ B : Bool, evF T k 5 [.agg [.str n, .vsl none (.int .i64) ws, .vsl none (.named 53) ar, .vsl none (.named 55) st, .vsl none (.int .i64) rt, .vsl none (.named 40) bl]] [] = some ([.bool B], []) := by
    obtain ⟨j, rfl⟩ : ∃ j, k = j + 1 := ⟨k - 1, by omega⟩
    obtain ⟨B, hB⟩ := l5_ok n ws ar st rt bl j hb j 0 0 (by omega) (by omega)
    exact ⟨B, by rw [f5_eq]; exact hB⟩
  rw [hk, f3_eq, awake k (by omega), Option.bind_some, res4_eq, if_neg (by simp), hB, Option.bind_some, res5_eq]
  cases B with
  | false => rw [if_pos (by rfl), Option.bind_some, res4_eq]
  | true =>
    rw [if_neg (by simp)]
    by_cases c1 : (args.length : Int) > 20
    · rw [if_pos c1, Option.bind_some, res4_eq]
    · rw [if_neg c1]
      by_cases c2 : d < -1
      · rw [if_pos c2, Option.bind_some, res4_eq]
      · rw [if_neg c2]
        exact l3_ok n ws ar st rt bl op d args num mem k (by omega) (by omega) hd1 ha (by omega) n0 n1 hm k 0 (by omega) (by omega) (fun j hj => absurd hj (by omega))
end

end Go.Proofs.YtflgegjljcpedaaDoor
