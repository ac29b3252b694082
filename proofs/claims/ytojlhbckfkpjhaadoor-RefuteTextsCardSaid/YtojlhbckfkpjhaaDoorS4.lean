import Derived.Test.YtojlhbckfkpjhaaDoorS3
set_option linter.all false
namespace Go.Proofs.YtojlhbckfkpjhaaDoor
open Go Go.RowKit Go.Vm
/-! ### dividing texts -/
/-- The text to the first c, what stands behind it, and whether there is one. -/
def cut1 (c : UInt8) : List UInt8 → List UInt8 × List UInt8 × Bool
  | [] => ([], [], false)
  | b :: l => if b = c then ([], l, true) else (b :: (cut1 c l).1, (cut1 c l).2.1, (cut1 c l).2.2)
theorem idx_eq (c : UInt8) (l : List UInt8) : Lib.index (c :: l) [c] = 0 := by rw [Lib.index]; simp [List.isPrefixOf]
theorem idx_ne {b c : UInt8} (l : List UInt8) (h : b ≠ c) : Lib.index (b :: l) [c] = if Lib.index l [c] == -1 then -1 else Lib.index l [c] + 1 := by
  have hp : ([c] : List UInt8).isPrefixOf (b :: l) = false := by simp [List.isPrefixOf, Ne.symm h]
  rw [Lib.index, hp]; simp
theorem cut_eq (c : UInt8) : ∀ s : List UInt8, Lib.cut s [c] = cut1 c s
  | [] => by unfold Lib.cut cut1; simp [Lib.index]
  | b :: l => by
    have ih := cut_eq c l
    by_cases h : b = c
    · subst h
      unfold Lib.cut cut1
      rw [idx_eq, if_pos (by decide), if_pos rfl]; rfl
    · unfold Lib.cut at ih ⊢
      unfold cut1
      rw [if_neg h, ← ih, idx_ne l h]
      have hge := Lib.index_ge l [c]
      by_cases hm : Lib.index l [c] = -1
      · rw [if_pos (beq_iff_eq.2 hm), hm, if_neg (by decide), if_neg (by decide)]
      · rw [if_neg (fun e => hm (beq_iff_eq.1 e)), if_pos (by omega), if_pos (by omega)]
        have e : (Lib.index l [c] + 1).toNat = (Lib.index l [c]).toNat + 1 := by omega
        rw [e, List.take_succ_cons]
        rfl
theorem cut1_len (c : UInt8) : ∀ s : List UInt8, (cut1 c s).1.length ≤ s.length ∧ ((cut1 c s).2.2 = true → (cut1 c s).2.1.length + 1 ≤ s.length) ∧ ((cut1 c s).2.2 = false → (cut1 c s).2.1 = [])
  | [] => ⟨Nat.le_refl _, fun h => absurd h (by simp [cut1]), fun _ => rfl⟩
  | b :: l => by
    obtain ⟨h1, h2, h3⟩ := cut1_len c l
    unfold cut1
    split
    · exact ⟨Nat.zero_le _, fun _ => Nat.le_refl _, fun h => absurd h (by simp)⟩
    · exact ⟨by simp only [List.length_cons]; omega, fun h => by have := h2 h; simp only [List.length_cons]; omega, h3⟩
def consHead (b : UInt8) : List (List UInt8) → List (List UInt8)
  | [] => [[b]]
  | x :: l => (b :: x) :: l
def spl (c : UInt8) : List UInt8 → List (List UInt8)
  | [] => [[]]
  | b :: l => if b = c then [] :: spl c l else consHead b (spl c l)
theorem split_eq (c : UInt8) : ∀ s : List UInt8, Lib.split s [c] = spl c s
  | [] => by
    unfold Lib.split
    rw [Lib.count_one]; rfl
  | b :: l => by
    have ih := split_eq c l
    unfold Lib.split at ih ⊢
    unfold spl
    by_cases h : b = c
    · subst h
      rw [Lib.count_cons_eq, if_pos rfl, Nat.add_comm, Lib.splitK, idx_eq, if_neg (by decide), ← ih]; rfl
    · rw [Lib.count_cons_ne b c l h, if_neg h, ← ih]
      cases Lib.count l [c] with
      | zero => rfl
      | succ n =>
        rw [Lib.splitK, Lib.splitK, idx_ne l h]
        have hge := Lib.index_ge l [c]
        by_cases hm : Lib.index l [c] = -1
        · rw [if_pos (beq_iff_eq.2 hm), hm]; rfl
        · have hm' : (Lib.index l [c] == -1) = false := by rw [beq_eq_false_iff_ne]; exact hm
          rw [if_neg (fun e => hm (beq_iff_eq.1 e)), if_neg (by simp; omega), if_neg (by rw [hm']; simp)]
          have e : (Lib.index l [c] + 1).toNat = (Lib.index l [c]).toNat + 1 := by omega
          rw [e, Nat.add_zero, Nat.add_zero, List.take_succ_cons]
          show _ :: Lib.splitK [c] 0 n ((b :: l).drop ((Lib.index l [c]).toNat + 1 + 1)) = (b :: _) :: Lib.splitK [c] 0 n (l.drop ((Lib.index l [c]).toNat + 1))
          rfl
theorem spl_len (c : UInt8) : ∀ s : List UInt8, (spl c s).length ≤ s.length + 1 ∧ ∀ x ∈ spl c s, x.length ≤ s.length
  | [] => ⟨Nat.le_refl _, fun x hx => by simp [spl] at hx; subst hx; exact Nat.le_refl _⟩
  | b :: l => by
    obtain ⟨h1, h2⟩ := spl_len c l
    unfold spl
    split
    · refine ⟨by simp only [List.length_cons]; omega, fun x hx => ?_⟩
      rcases List.mem_cons.mp hx with rfl | hx
      · exact Nat.zero_le _
      · have := h2 x hx; simp only [List.length_cons]; omega
    · cases hs : spl c l with
      | nil => exact ⟨by simp [consHead], fun x hx => by simp [consHead] at hx; subst hx; simp⟩
      | cons y t =>
        rw [hs] at h1 h2
        refine ⟨by simp only [consHead, List.length_cons] at h1 ⊢; omega, fun x hx => ?_⟩
        rcases List.mem_cons.mp hx with rfl | hx
        · have := h2 y List.mem_cons_self; simp only [List.length_cons]; omega
        · have := h2 x (List.mem_cons_of_mem _ hx); simp only [List.length_cons]; omega
theorem e35 (k : Nat) {s : List UInt8} (h : s.length ≤ 4294967280) : evF T (k + 1) 35 [.str s, .str [32]] [] = some ([.str (cut1 32 s).1, .str (cut1 32 s).2.1, .bool (cut1 32 s).2.2], []) := by
  show xCut [.str s, .str [32]] [] = _
  unfold xCut
  dsimp only
  rw [show Nat.ble s.length 4294967280 = true from Nat.ble_eq.mpr h, cut_eq]
  rfl
theorem e21 (k : Nat) {s : List UInt8} (h : s.length ≤ 4294967280) : evF T (k + 1) 21 [.str s, .str [10]] [] = some ([.vsl none .str (spl 10 s)], []) := by
  show xSplit [.str s, .str [10]] [] = _
  unfold xSplit
  dsimp only
  rw [show Nat.ble s.length 4294967280 = true from Nat.ble_eq.mpr h]
  refine Eq.trans (b := some ([PV.vsl none .str (Lib.split s [10])], [])) rfl ?_
  rw [split_eq]
/-- The number of a text. -/
def at_ (s : List UInt8) : Option Int := match Lib.atoiAll s with
  | .ok v => some v
  | _ => none
theorem at_R {s : List UInt8} {v : Int} (h : at_ s = some v) : inR v := by
  have h : Lib.atoiAll s = .ok v := by
    unfold at_ at h
    split at h
    · rename_i e; injection h with h; rw [e, h]
    · exact absurd h (by simp)
  unfold Lib.atoiAll at h
  cases s with
  | nil => exact absurd h (by simp)
  | cons c r =>
    dsimp only at h
    split at h
    · exact absurd h (by simp)
    · exact absurd h (by simp)
    · rename_i u hu
      split at h
      · exact absurd h (by simp)
      · rename_i n1
        split at h
        · exact absurd h (by simp)
        · rename_i n2
          injection h with h
          subst h
          unfold inR
          split <;> omega
theorem e36 (k : Nat) {s : List UInt8} (h : s.length ≤ 4294967280) : (∀ v, at_ s = some v → evF T (k + 1) 36 [.str s] [] = some ([.int .i64 v, .nilif], [])) ∧ (at_ s = none → ∃ v, evF T (k + 1) 36 [.str s] [] = some ([.int .i64 v, .iface 0 .bad], [])) := by
  have e : evF T (k + 1) 36 [.str s] [] = xAtoi [.str s] [] := rfl
  unfold xAtoi at e
  dsimp only at e
  rw [show Nat.ble s.length 281474976710656 = true from Nat.ble_eq.mpr (by omega)] at e
  unfold at_
  rw [e]
  rcases Lib.atoiAll s with v | _ | _
  · exact ⟨fun u hu => by injection hu with hu; subst hu; rfl, fun h => absurd h (by simp)⟩
  · exact ⟨fun u hu => absurd hu (by simp), fun _ => ⟨_, rfl⟩⟩
  · exact ⟨fun u hu => absurd hu (by simp), fun _ => ⟨_, rfl⟩⟩
/-! ### a line's word and numbers -/
def rd : Nat → List UInt8 → Bool → List Int → Option (List Int)
  | 0, _, _, _ => none
  | n + 1, s, more, acc => if more = true then (match at_ (cut1 32 s).1 with | some v => rd n (cut1 32 s).2.1 (cut1 32 s).2.2 (acc ++ [v]) | none => none) else some acc
theorem rd_ok : ∀ (n : Nat) (s : List UInt8) (more : Bool) (acc l : List Int), rd n s more acc = some l → (∀ x ∈ acc, inR x) → (∀ x ∈ l, inR x) ∧ l.length ≤ acc.length + (if more = true then s.length + 1 else 0)
  | 0, _, _, _, _, h, _ => absurd h (by simp [rd])
  | n + 1, s, more, acc, l, h, ha => by
    unfold rd at h
    cases more with
    | false =>
      rw [if_neg (by simp)] at h
      injection h with h; subst h
      exact ⟨ha, by omega⟩
    | true =>
      rw [if_pos rfl] at h ⊢
      split at h
      · rename_i v hv
        obtain ⟨c1, c2, c3⟩ := cut1_len 32 s
        obtain ⟨h1, h2⟩ := rd_ok n _ _ _ _ h (fun x hx => by
          rcases List.mem_append.mp hx with hx | hx
          · exact ha x hx
          · rw [List.mem_singleton.mp hx]; exact at_R hv)
        refine ⟨h1, ?_⟩
        rw [List.length_append] at h2
        have : ([v] : List Int).length = 1 := rfl
        split at h2
        · rename_i hf; have := c2 hf; omega
        · omega
      · exact absurd h (by simp)
theorem l23_ok (k : Nat) (y : List UInt8) : ∀ (n m : Nat) (s : List UInt8) (more : Bool) (acc : List Int), s.length ≤ 1000000 → acc.length + s.length + (if more = true then 1 else 0) ≤ 2000000 → (if more = true then s.length + 2 else 1) ≤ n → n ≤ m →
    l23_0 (k + 1) m y s more acc = some (match rd n s more acc with | some l => ([.str y, .vsl none (.int .i64) l, .bool true], []) | none => ([.str [], .vsl none (.int .i64) [], .bool false], []))
  | 0, _, s, more, acc, _, _, h, _ => by split at h <;> omega
  | n + 1, m, s, more, acc, hs, ha, h, hm => by
    obtain ⟨m, rfl⟩ : ∃ m', m = m' + 1 := ⟨m - 1, by omega⟩
    rw [l23_0_eq]
    unfold rd
    cases more with
    | false => rw [if_neg (by simp), if_neg (by simp)]
    | true =>
      rw [if_pos rfl] at h ha
      obtain ⟨c1, c2, c3⟩ := cut1_len 32 s
      rw [if_pos rfl, if_pos rfl, e35 k (by omega), Option.bind_some, res35_eq]
      obtain ⟨f1, f2⟩ := e36 k (s := (cut1 32 s).1) (by omega)
      cases hv : at_ (cut1 32 s).1 with
      | none =>
        obtain ⟨v, hv2⟩ := f2 hv
        rw [hv2, Option.bind_some, res36_eq0, if_neg (by simp)]
      | some v =>
        rw [f1 v hv, Option.bind_some, res36_eq1, if_pos rfl, chk_ok (by show (_ + 1) * 8 ≤ _; omega)]
        refine l23_ok k y n m _ _ _ ?_ ?_ ?_ (by omega)
        · cases hb : (cut1 32 s).2.2 with
          | false => rw [c3 hb]; exact Nat.zero_le _
          | true => have := c2 hb; omega
        · rw [List.length_append]
          have : ([v] : List Int).length = 1 := rfl
          cases hb : (cut1 32 s).2.2 with
          | false => rw [c3 hb, if_neg (by simp)]; show _ + 0 + 0 ≤ _; omega
          | true => have := c2 hb; rw [if_pos rfl]; omega
        · split
          · rename_i hb; have := c2 hb; omega
          · omega
/-- A line, read. -/
def rdF (s : List UInt8) : Option (List UInt8 × List Int) := (rd ((cut1 32 s).2.1.length + 2) (cut1 32 s).2.1 (cut1 32 s).2.2 []).map fun l => ((cut1 32 s).1, l)
theorem e23 (k : Nat) {s : List UInt8} (h : s.length ≤ 70000) (hk : 70010 ≤ k) : evF T (k + 2) 23 [.str s] [] = some (match rdF s with | some p => ([.str p.1, .vsl none (.int .i64) p.2, .bool true], []) | none => ([.str [], .vsl none (.int .i64) [], .bool false], [])) := by
  obtain ⟨c1, c2, c3⟩ := cut1_len 32 s
  have hr : (cut1 32 s).2.1.length ≤ s.length := by
    cases hb : (cut1 32 s).2.2 with
    | false => rw [c3 hb]; exact Nat.zero_le _
    | true => have := c2 hb; omega
  rw [f23_eq, e35 k (by omega), Option.bind_some, res35_eq, l23_ok k _ ((cut1 32 s).2.1.length + 2) (k + 1) _ _ _ (by omega) (by show 0 + _ + _ ≤ _; split <;> omega) (by split <;> omega) (by omega)]
  unfold rdF
  cases rd ((cut1 32 s).2.1.length + 2) (cut1 32 s).2.1 (cut1 32 s).2.2 [] <;> rfl
theorem rdF_ok {s : List UInt8} {p : List UInt8 × List Int} (h : rdF s = some p) : (∀ x ∈ p.2, inR x) ∧ p.2.length ≤ s.length + 1 := by
  unfold rdF at h
  obtain ⟨l, hl, rfl⟩ := Option.map_eq_some_iff.mp h
  obtain ⟨h1, h2⟩ := rd_ok _ _ _ _ _ hl (fun x hx => absurd hx (by simp))
  obtain ⟨c1, c2, c3⟩ := cut1_len 32 s
  refine ⟨h1, ?_⟩
  have : ([] : List Int).length = 0 := rfl
  split at h2
  · rename_i hb; have := c2 hb; show l.length ≤ _; omega
  · show l.length ≤ _; omega

end Go.Proofs.YtojlhbckfkpjhaaDoor
