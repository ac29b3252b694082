import Derived.Test.YtflgegjljcpedaaDoorS1
set_option linter.all false
namespace Go.Proofs.YtflgegjljcpedaaDoor
open Go Go.RowKit Go.Vm
/-! ### names -/
def NM : List (List UInt8) := [[], [(99 : UInt8), (111 : UInt8), (110 : UInt8), (115 : UInt8), (116 : UInt8)], [(97 : UInt8), (100 : UInt8), (100 : UInt8)], [(115 : UInt8), (117 : UInt8), (98 : UInt8)], [(109 : UInt8), (117 : UInt8), (108 : UInt8)], [(117 : UInt8), (100 : UInt8), (105 : UInt8), (118 : UInt8)], [(117 : UInt8), (114 : UInt8), (101 : UInt8), (109 : UInt8)], [(115 : UInt8), (100 : UInt8), (105 : UInt8), (118 : UInt8)], [(115 : UInt8), (114 : UInt8), (101 : UInt8), (109 : UInt8)], [(97 : UInt8), (110 : UInt8), (100 : UInt8)], [(111 : UInt8), (114 : UInt8)], [(120 : UInt8), (111 : UInt8), (114 : UInt8)], [(115 : UInt8), (104 : UInt8), (108 : UInt8)], [(108 : UInt8), (115 : UInt8), (104 : UInt8), (114 : UInt8)], [(97 : UInt8), (115 : UInt8), (104 : UInt8), (114 : UInt8)], [(101 : UInt8), (113 : UInt8)], [(110 : UInt8), (101 : UInt8)], [(117 : UInt8), (108 : UInt8), (116 : UInt8)], [(117 : UInt8), (108 : UInt8), (101 : UInt8)], [(115 : UInt8), (108 : UInt8), (116 : UInt8)], [(115 : UInt8), (108 : UInt8), (101 : UInt8)], [(115 : UInt8), (101 : UInt8), (108 : UInt8), (101 : UInt8), (99 : UInt8), (116 : UInt8)], [(122 : UInt8), (101 : UInt8), (120 : UInt8), (116 : UInt8)], [(115 : UInt8), (101 : UInt8), (120 : UInt8), (116 : UInt8)], [(116 : UInt8), (114 : UInt8), (117 : UInt8), (110 : UInt8), (99 : UInt8)], [(108 : UInt8), (111 : UInt8), (97 : UInt8), (100 : UInt8)], [(115 : UInt8), (116 : UInt8), (111 : UInt8), (114 : UInt8), (101 : UInt8)], [(114 : UInt8), (101 : UInt8), (99 : UInt8), (118 : UInt8)], [(115 : UInt8), (101 : UInt8), (110 : UInt8), (100 : UInt8)]]
theorem NM_len : NM.length = 29 := rfl
theorem NM_ok : ∀ i : Fin 29, 1 ≤ i.val → NM.getD i.val [] ≠ [] ∧ (NM.getD i.val []).length ≤ 6 := by decide
def nmF (op : Int) : List UInt8 := if 0 < op ∧ op < 29 then NM.getD op.toNat [] else [63]
theorem nmF_ok (op : Int) : nmF op ≠ [] ∧ (nmF op).length ≤ 6 := by
  unfold nmF
  split
  · rename_i h
    obtain ⟨i, rfl⟩ : ∃ i : Nat, op = i := ⟨op.toNat, by omega⟩
    exact NM_ok ⟨i, by omega⟩ (by show 1 ≤ i; omega)
  · decide
theorem e10 (K : Nat) (hK : 2 ≤ K) (op : Int) : evF T K 10 [.int .i64 op] [] = some ([.str (if 0 < op ∧ op < 29 then NM.getD op.toNat [] else [])], []) := by
  obtain ⟨k, rfl⟩ : ∃ k, K = k + 2 := ⟨K - 2, by omega⟩
  rw [f10_eq, f21_eq, Option.bind_some]
  refine (res21_eq NM _).trans ?_
  have hl : ((NM.length : Nat) : Int) = 29 := rfl
  by_cases c1 : op > 0
  · rw [if_pos c1]
    by_cases c2 : op < ((NM.length : Nat) : Int)
    · rw [if_pos c2, if_pos (by omega), if_pos c2, if_pos ⟨c1, by omega⟩]
    · rw [if_neg c2, if_neg (by omega)]
  · rw [if_neg c1, if_neg (by omega)]
theorem e15 (K : Nat) (hK : 2 ≤ K) (op : Int) : evF T K 15 [.int .i64 op] [] = some ([.str (nmF op)], []) := by
  obtain ⟨k, rfl⟩ : ∃ k, K = k + 2 := ⟨K - 2, by omega⟩
  rw [f15_eq]
  unfold nmF
  by_cases c1 : op < 1
  · rw [if_pos c1, if_neg (by omega)]
  · rw [if_neg c1]
    by_cases c2 : op > 28
    · rw [if_pos c2, if_neg (by omega)]
    · rw [if_neg c2, f26_eq, Option.bind_some]
      refine (res26_eq NM _).trans ?_
      have hl : ((NM.length : Nat) : Int) = 29 := rfl
      rw [if_pos (by omega), if_pos (by omega), if_pos ⟨by omega, by omega⟩]
/-! ### an instruction's memory -/
def memF (ar : List S53) (st : List S55) (op mem : Int) : List UInt8 :=
  if op = 25 ∨ op = 26 then (if 0 ≤ mem ∧ mem < (ar.length : Int) then (ar.getD mem.toNat z53).f0 else [63]) else (if 0 ≤ mem ∧ mem < (st.length : Int) then (st.getD mem.toNat z55).f0 else [63])
theorem memF_a {ar : List S53} {st : List S55} {op mem : Int} (h : op = 25 ∨ op = 26) : memF ar st op mem = if 0 ≤ mem ∧ mem < (ar.length : Int) then (ar.getD mem.toNat z53).f0 else [63] := if_pos h
theorem memF_s {ar : List S53} {st : List S55} {op mem : Int} (h : ¬ (op = 25 ∨ op = 26)) : memF ar st op mem = if 0 ≤ mem ∧ mem < (st.length : Int) then (st.getD mem.toNat z55).f0 else [63] := if_neg h
theorem mem_ar {R : Type} {ar : List S53} {mem : Int} (G : List UInt8 → Option R) : (if mem ≥ (0 : Int) then if mem < (ar.length : Int) then if 0 ≤ mem then if mem < (ar.length : Int) then G ((ar.getD mem.toNat z53).f0) else none else none else G [63] else G [63]) = G (if 0 ≤ mem ∧ mem < (ar.length : Int) then (ar.getD mem.toNat z53).f0 else [63]) := by
  by_cases c1 : mem ≥ 0
  · rw [if_pos c1]
    by_cases c2 : mem < (ar.length : Int)
    · rw [if_pos c2, if_pos c1, if_pos c2, if_pos ⟨c1, c2⟩]
    · rw [if_neg c2, if_neg (fun h => c2 h.2)]
  · rw [if_neg c1, if_neg (fun h => c1 h.1)]
theorem mem_st {R : Type} {st : List S55} {mem : Int} (G : List UInt8 → Option R) : (if mem ≥ (0 : Int) then if mem < (st.length : Int) then if 0 ≤ mem then if mem < (st.length : Int) then G ((st.getD mem.toNat z55).f0) else none else none else G [63] else G [63]) = G (if 0 ≤ mem ∧ mem < (st.length : Int) then (st.getD mem.toNat z55).f0 else [63]) := by
  by_cases c1 : mem ≥ 0
  · rw [if_pos c1]
    by_cases c2 : mem < (st.length : Int)
    · rw [if_pos c2, if_pos c1, if_pos c2, if_pos ⟨c1, c2⟩]
    · rw [if_neg c2, if_neg (fun h => c2 h.2)]
  · rw [if_neg c1, if_neg (fun h => c1 h.1)]
section
variable (n : List UInt8) (ws : List Int) (ar : List S53) (st : List S55) (rt : List Int) (bl : List S40) (op d : Int) (args : List Int) (num mem : Int)
theorem e18 (K : Nat) (hK : 1 ≤ K) : evF T K 18 [.agg [.str n, .vsl none (.int .i64) ws, .vsl none (.named 53) ar, .vsl none (.named 55) st, .vsl none (.int .i64) rt, .vsl none (.named 40) bl], .agg [.int .i64 op, .int .i64 d, .vsl none (.int .i64) args, .int .u64 num, .int .i64 mem]] [] = some ([.str (memF ar st op mem)], []) := by
  obtain ⟨k, rfl⟩ : ∃ k, K = k + 1 := ⟨K - 1, by omega⟩
  rw [f18_eq]
  by_cases c1 : op = 25
  · rw [memF_a (.inl c1), if_pos c1]; exact mem_ar (fun s => some ([PV.str s], ([] : Heap N)))
  · rw [if_neg c1]
    by_cases c2 : op = 26
    · rw [memF_a (.inr c2), if_pos c2]; exact mem_ar (fun s => some ([PV.str s], ([] : Heap N)))
    · rw [memF_s (fun h => h.elim c1 c2), if_neg c2]; exact mem_st (fun s => some ([PV.str s], ([] : Heap N)))
theorem j12_1_ok (k : Nat) (b : Bool) : j12_1 k b n ws ar st rt bl op d args num mem = if b = true then some ([.str (if 0 ≤ mem ∧ mem < (st.length : Int) then (st.getD mem.toNat z55).f0 else [63]), .bool true], []) else some ([.str [], .bool false], []) := by
  rw [j12_1_eq]
  by_cases c : b = true
  · rw [if_pos c, if_pos c]; exact mem_st (fun s => some ([PV.str s, PV.bool true], ([] : Heap N)))
  · rw [if_neg c, if_neg c]
theorem j12_0_ok (k : Nat) (b : Bool) : j12_0 k op b n ws ar st rt bl op d args num mem = if b = true then some ([.str (if 0 ≤ mem ∧ mem < (ar.length : Int) then (ar.getD mem.toNat z53).f0 else [63]), .bool true], []) else if op = 27 ∨ op = 28 then some ([.str (if 0 ≤ mem ∧ mem < (st.length : Int) then (st.getD mem.toNat z55).f0 else [63]), .bool true], []) else some ([.str [], .bool false], []) := by
  rw [j12_0_eq]
  by_cases c : b = true
  · rw [if_pos c, if_pos c]; exact mem_ar (fun s => some ([PV.str s, PV.bool true], ([] : Heap N)))
  · rw [if_neg c, if_neg c]
    by_cases c1 : op = 27
    · rw [if_pos c1, j12_1_ok, if_pos (decide_eq_true c1), if_pos (show op = 27 ∨ op = 28 from .inl c1)]
    · rw [if_neg c1, j12_1_ok]
      by_cases c2 : op = 28
      · rw [if_pos (decide_eq_true c2), if_pos (show op = 27 ∨ op = 28 from .inr c2)]
      · rw [if_neg (by rw [decide_eq_false c2]; simp), if_neg (show ¬ (op = 27 ∨ op = 28) from fun h => h.elim c1 c2)]
theorem e12 (K : Nat) (hK : 1 ≤ K) : evF T K 12 [.agg [.str n, .vsl none (.int .i64) ws, .vsl none (.named 53) ar, .vsl none (.named 55) st, .vsl none (.int .i64) rt, .vsl none (.named 40) bl], .agg [.int .i64 op, .int .i64 d, .vsl none (.int .i64) args, .int .u64 num, .int .i64 mem]] [] = if 25 ≤ op ∧ op ≤ 28 then some ([.str (memF ar st op mem), .bool true], []) else some ([.str [], .bool false], []) := by
  obtain ⟨k, rfl⟩ : ∃ k, K = k + 1 := ⟨K - 1, by omega⟩
  rw [f12_eq]
  by_cases c1 : op = 25
  · rw [memF_a (.inl c1), if_pos c1, j12_0_ok, if_pos (decide_eq_true c1), if_pos (show 25 ≤ op ∧ op ≤ 28 by omega)]
  · rw [if_neg c1, j12_0_ok]
    by_cases c2 : op = 26
    · rw [memF_a (.inr c2), if_pos (decide_eq_true c2), if_pos (show 25 ≤ op ∧ op ≤ 28 by omega)]
    · rw [if_neg (by rw [decide_eq_false c2]; simp)]
      by_cases c3 : op = 27 ∨ op = 28
      · rw [memF_s (fun h => h.elim c1 c2), if_pos c3, if_pos (show 25 ≤ op ∧ op ≤ 28 by omega)]
      · rw [if_neg c3, if_neg (show ¬ (25 ≤ op ∧ op ≤ 28) by omega)]
end

end Go.Proofs.YtflgegjljcpedaaDoor
