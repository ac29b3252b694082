import Derived.Test.YtojlhbckfkpjhaaDoorS7
set_option linter.all false
namespace Go.Proofs.YtojlhbckfkpjhaaDoor
open Go Go.RowKit Go.Vm
/-! ### the law RefuteTexts -/
/-- A node whose numbers are ints. -/
def ROk (n : S37) : Prop := inR n.f1 ∧ (∀ x ∈ n.f2, inR x) ∧ (∀ x ∈ n.f3, inR x) ∧ inR n.f4 ∧ inR n.f5 ∧ inR n.f6
theorem l6_ok (k : Nat) {t : List S37} (hn : t.length < 4000000000000) : ∀ (m i : Nat), i ≤ t.length → t.length - i < m → (∀ j, j < i → (t.getD j z37).f2.length ≤ 100 ∧ (t.getD j z37).f3.length ≤ 40) →
    ∃ B : Bool, l6_0 k m t 100 (t.length : Int) (i : Int) = some ([.bool B], []) ∧ (B = true → t.length ≤ 100 ∧ ∀ j, j < t.length → (t.getD j z37).f2.length ≤ 100 ∧ (t.getD j z37).f3.length ≤ 40)
  | 0, _, _, h, _ => absurd h (by omega)
  | m + 1, i, hi, hm, hj => by
    rw [l6_0_eq]
    by_cases c : i < t.length
    · rw [if_pos (by omega), if_pos (by omega), if_pos (by omega), Int.toNat_natCast i]
      by_cases c1 : ((t.getD i z37).f2.length : Int) > 100
      · rw [if_pos c1]; exact ⟨false, rfl, fun h => absurd h (by simp)⟩
      · rw [if_neg c1, if_pos (by omega), if_pos (by omega)]
        by_cases c2 : ((t.getD i z37).f3.length : Int) > 40
        · rw [if_pos c2]; exact ⟨false, rfl, fun h => absurd h (by simp)⟩
        · rw [if_neg c2, w64 (x := (i : Int) + 1) (by omega) (by omega)]
          refine l6_ok k hn m (i + 1) (by omega) (by omega) fun j hji => ?_
          by_cases e : j = i
          · subst e; omega
          · exact hj j (by omega)
    · rw [if_neg (by omega)]
      by_cases c2 : (t.length : Int) ≤ 100
      · exact ⟨true, congrArg (fun b => some ([PV.bool b], ([] : Heap N))) (decide_eq_true c2), fun _ => ⟨by omega, fun j hji => hj j (by omega)⟩⟩
      · exact ⟨false, congrArg (fun b => some ([PV.bool b], ([] : Heap N))) (decide_eq_false c2), fun h => absurd h (by simp)⟩
theorem plain_len {n : S37} (h : NOk n) : (plainN n).f2.length ≤ 70000 ∧ (plainN n).f3.length ≤ 70000 := by
  obtain ⟨-, -, -, -, -, -, h7, h8⟩ := h
  unfold plainN
  split
  · exact ⟨h7, Nat.zero_le _⟩
  · split
    · exact ⟨Nat.zero_le _, h8⟩
    · split <;> exact ⟨Nat.zero_le _, Nat.zero_le _⟩
theorem l3_ok (k : Nat) {ii : Int} {t : List S37} (ht : ∀ n ∈ t, NOk n) (hn : t.length ≤ 70000) : ∀ (m i : Nat), i ≤ t.length → t.length - i < m → l3_0 (k + 70003) m (t.length : Int) (i : Int) ii t ii (t.map plainN) = some ([.bool true], [])
  | 0, _, _, h => absurd h (by omega)
  | m + 1, i, hi, hm => by
    rw [l3_0_eq]
    by_cases c : i < t.length
    · obtain ⟨h7, h8⟩ := plain_len (ht _ (mem37 c))
      have hlen : (t.map plainN).length = t.length := List.length_map _
      rw [if_pos (by omega), if_pos (by omega), if_pos (by omega), if_pos (by omega), if_pos (by omega), Int.toNat_natCast i, show k + 70003 = (k + 70002) + 1 from rfl, e11, Option.bind_some, res11_eq, getD_map c, show k + 70002 + 1 = k + 70003 from rfl, e10 k h7 h8, Option.bind_some, res10_eq, if_neg (by simp), w64 (x := (i : Int) + 1) (by omega) (by omega)]
      exact l3_ok k ht hn m (i + 1) (by omega) (by omega)
    · rw [if_neg (by omega)]
set_option maxRecDepth 1000000 in
/-- The law RefuteTexts returns true for every refutation. -/
theorem texts_true (ii : Int) (t : List S37) (h0 : inR ii) (hR : ∀ n ∈ t, ROk n) (hn : t.length < 4000000000000) : evF T (200000 + t.length) 3 [.agg [.int .i64 ii, .vsl none (.named 37) t]] [] = some ([.bool true], []) := by
  obtain ⟨k, hk⟩ : ∃ k, 200000 + t.length = k + 180000 + 1 := ⟨19999 + t.length, by omega⟩
  rw [hk, f3_eq, show k + 180000 = (k + 179940) + 60 from by omega, awake, Option.bind_some, res5_eq, if_neg (by simp)]
  obtain ⟨B, eB, hB⟩ := l6_ok (k + 179999) (t := t) hn (k + 179999) 0 (by omega) (by omega) (fun j hj => absurd hj (by omega))
  have e6 : evF T (k + 179940 + 60) 6 [.vsl none (.named 37) t, .int .i64 100] [] = some ([.bool B], []) := by
    rw [show k + 179940 + 60 = (k + 179999) + 1 from by omega, f6_eq]; exact eB
  rw [e6, Option.bind_some, res6_eq]
  cases B with
  | false => rw [if_pos (by rfl), Option.bind_some, res5_eq]
  | true =>
    obtain ⟨b1, b2⟩ := hB rfl
    have ht : ∀ n ∈ t, NOk n := fun n hm => by
      obtain ⟨q1, q2, q3, q4, q5, q6⟩ := hR n hm
      obtain ⟨j, hj, rfl⟩ := List.mem_iff_getElem.mp hm
      have := b2 j hj
      rw [List.getD_eq_getElem?_getD, List.getElem?_eq_getElem hj] at this
      have e : (some t[j]).getD z37 = t[j] := rfl
      rw [e] at this
      exact ⟨q1, q2, q3, q4, q5, q6, by omega, by omega⟩
    rw [if_neg (by simp), show k + 179940 + 60 = (k + 99999) + 80001 from by omega, e7 _ h0 ht (by omega), Option.bind_some, res7_eq, e8 _ h0 ht (by omega), Option.bind_some]
    unfold fmt
    by_cases c1 : ∀ j, j < t.length → known (t.getD j z37)
    · rw [if_pos c1, if_pos c1, res8_eq, if_neg (by simp)]
      by_cases c2 : (text ii t).length > 65536
      · rw [if_pos c2, if_pos (by omega), if_pos rfl]
        exact congrArg (fun b => some ([PV.bool b], ([] : Heap N))) (decide_eq_true rfl)
      · rw [if_neg c2, if_neg (by omega)]
        dsimp only
        rw [show k + 99999 + 80001 = (k + 99997) + 80003 from by omega, e9 _ (by omega), par_back h0 ht c1 (by omega), Option.bind_some]
        refine (res9_eq ii (t.map plainN) 0 _).trans ?_
        rw [if_neg (fun h => h rfl), if_neg (fun h => h rfl), if_neg (fun h => h rfl), if_neg (fun h => h rfl), if_neg (by rw [List.length_map]; exact fun h => h rfl)]
        have := l3_ok (k + 109997) (ii := ii) ht (by omega) (k + 180000) 0 (by omega) (by omega)
        rw [show k + 109997 + 70003 = k + 180000 from by omega] at this
        rw [show k + 99997 + 80003 = k + 180000 from by omega]
        exact this
    · rw [if_neg c1, if_neg c1, res8_eq, if_pos (by rfl), if_pos rfl]
      exact congrArg (fun b => some ([PV.bool b], ([] : Heap N))) (decide_eq_true rfl)

end Go.Proofs.YtojlhbckfkpjhaaDoor
