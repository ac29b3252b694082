/- The law CyclesVisits holds: each further visit begins II (or Depth) cycles later, and the number of stages is the least that has place; no condition. -/
import Derived.Test.YtmefaegcoogmiaaQCyclesVisits
namespace Go.Proofs.Ytmefaegcoogmiaa.Pure
open Go.RowKit Go.Proofs.Ytmefaegcoogmiaa.PCyclesVisits Go.Proofs.YtmefaegcoogmiaaW.PrintWords Go.Proofs.YtmefaegcoogmiaaW.PrintLast

theorem w64 {x : Int} (h : -9223372036854775808 ≤ x) (h' : x ≤ 9223372036854775807) : wrap64 x = x := by
  unfold wrap64
  omega
theorem awake_ok : Ev (fun k => jacquardlaw36_awake.f k) true := Ev.of (fun k => jacquardlaw36_awake.mono k) (k := 9) (by decide +kernel)
theorem mulb {m n : Int} (a : 0 ≤ m) (b : m ≤ 1000) (c : 0 ≤ n) (d : n ≤ 5000) : 0 ≤ m * n ∧ m * n ≤ 5000000 :=
  ⟨Int.mul_nonneg a c, Int.le_trans (Int.mul_le_mul b d c (by omega)) (by omega)⟩
theorem visit_zero (ii d : Int) (a b c : List Int) (n : Int) (hn : n < 1) : cycles_Visit.f ii d a b c n = some 0 := by
  unfold cycles_Visit.f
  rw [if_pos hn]
theorem visit_piped (ii d : Int) (a b c : List Int) (n : Int) (h0 : 0 < ii) (h1 : ii ≤ 5000) (hd : 1 ≤ d ∧ d ≤ 5000) (hn : 1 ≤ n) (hn2 : n ≤ 1000) : cycles_Visit.f ii d a b c n = some ((n - 1) * ii + d) := by
  obtain ⟨p0, p1⟩ := mulb (m := n - 1) (n := ii) (by omega) (by omega) (by omega) h1
  unfold cycles_Visit.f
  rw [if_neg (by omega), if_neg (by omega), w64 (x := n - 1) (by omega) (by omega), w64 (x := (n - 1) * ii) (by omega) (by omega), w64 (by omega) (by omega)]
theorem visit_plain (ii d : Int) (a b c : List Int) (n : Int) (h0 : ii ≤ 0) (hd : 1 ≤ d ∧ d ≤ 5000) (hn : 1 ≤ n) (hn2 : n ≤ 1000) : cycles_Visit.f ii d a b c n = some (n * d) := by
  obtain ⟨p0, p1⟩ := mulb (m := n) (n := d) (by omega) (by omega) (by omega) hd.2
  unfold cycles_Visit.f
  rw [if_neg (by omega), if_pos h0, w64 (by omega) (by omega)]
theorem CyclesVisits : jacquardlaw36_CyclesVisits.Pure := by
  intro x n hx hn
  have hnb : -32768 ≤ n ∧ n ≤ 32767 := by
    simp [Lit.wf, IntKind.min, IntKind.max, IntKind.signed, IntKind.bits] at hn
    omega
  refine Ev.rounds (g := fun k => jacquardlaw36_CyclesVisits.f k x.f0 x.f1 x.f2 x.f3 x.f4 n) ?_
  have skip : Ev (fun k => jacquardlaw36_CyclesVisits.j0 k n true x.f0 x.f1 x.f2 x.f3 x.f4) true := by
    refine Ev.step (f := fun k => (jacquardlaw36_awake.f k).bind fun t => some t) (fun k => ?_) (Ev.bind awake_ok (Ev.now _))
    simp only [jacquardlaw36_CyclesVisits.j0, if_true]
  refine Ev.bind awake_ok ?_
  simp only [if_true]
  by_cases c1 : x.f1 < 1
  · simp only [if_pos c1]
    exact skip
  by_cases c2 : x.f1 > 5000
  · simp only [if_neg c1, if_pos c2]
    exact skip
  simp only [if_neg c1, if_neg c2]
  by_cases c3 : x.f0 > 5000
  · rw [decide_eq_true c3]
    exact skip
  rw [decide_eq_false c3]
  have hd : 1 ≤ x.f1 ∧ x.f1 ≤ 5000 := by omega
  refine Ev.step (f := fun _ => some true) (fun k => ?_) (Ev.now true)
  simp only [jacquardlaw36_CyclesVisits.j0]
  rw [if_neg Bool.false_ne_true, w64 (x := n) (by omega) (by omega)]
  have hk : Int.tmod n 1000 < 1000 := Int.tmod_lt_of_pos n (by omega)
  generalize Int.tmod n 1000 = K at hk ⊢
  generalize x.f0 = ii at c3 ⊢
  generalize x.f1 = d at hd ⊢
  by_cases hii : 0 < ii
  · rw [visit_piped ii d _ _ _ 1 hii (by omega) hd (by omega) (by omega)]
    simp only [Option.bind_some]
    by_cases hK : K < 1
    · rw [if_pos hK, visit_zero _ _ _ _ _ K hK]
      simp only [Option.bind_some, if_true]
      rw [show ((1 : Int) - 1) * ii + d = d by omega, beq_self_eq_true]
    · obtain ⟨p0, p1⟩ := mulb (m := K - 1) (n := ii) (by omega) (by omega) (by omega) (by omega)
      have pk : K * ii = (K - 1) * ii + ii := by
        rw [show K * ii = (K - 1 + 1) * ii by rw [Int.sub_add_cancel], Int.add_mul, Int.one_mul]
      rw [if_neg hK, w64 (x := K + 1) (by omega) (by omega), visit_piped ii d _ _ _ (K + 1) hii (by omega) hd (by omega) (by omega), visit_piped ii d _ _ _ K hii (by omega) hd (by omega) (by omega)]
      simp only [Option.bind_some]
      rw [if_pos hii, show K + 1 - 1 = K by omega, pk]
      have q0 : 0 ≤ (d + ii - 1) / ii := Int.ediv_nonneg (by omega) (by omega)
      have q1 : (d + ii - 1) / ii ≤ d + ii - 1 := Int.ediv_le_self _ (by omega)
      have q2 : (d + ii - 1) / ii * ii ≤ d + ii - 1 := Int.ediv_mul_le _ (by omega)
      have q3 := Int.lt_ediv_add_one_mul_self (d + ii - 1) hii
      rw [Int.add_mul, Int.one_mul] at q3
      have q4 : 0 ≤ (d + ii - 1) / ii * ii := Int.mul_nonneg q0 (by omega)
      have q5 : ((d + ii - 1) / ii - 1) * ii = (d + ii - 1) / ii * ii - ii := by rw [Int.sub_mul, Int.one_mul]
      have hs : cycles_Stages.f ii d x.f2 x.f3 x.f4 = some ((d + ii - 1) / ii) := by
        unfold cycles_Stages.f
        rw [if_neg (by omega), if_neg (by omega), w64 (x := d + ii) (by omega) (by omega), w64 (x := d + ii - 1) (by omega) (by omega), Int.tdiv_eq_ediv_of_nonneg (by omega), w64 (by omega) (by omega)]
      rw [hs]
      simp only [Option.bind_some]
      rw [if_pos (by omega), w64 (x := (K - 1) * ii + ii + d - ((K - 1) * ii + d)) (by omega) (by omega), if_pos (by omega), w64 (x := K - 1) (by omega) (by omega), w64 (x := (K - 1) * ii) (by omega) (by omega), w64 (x := (1 - 1) * ii + d + (K - 1) * ii) (by omega) (by omega), if_pos (by omega),
        w64 (x := (d + ii - 1) / ii * ii) (by omega) (by omega), if_pos (by omega), w64 (x := (d + ii - 1) / ii - 1) (by omega) (by omega), q5, w64 (by omega) (by omega), decide_eq_true (by omega)]
  · rw [visit_plain ii d _ _ _ 1 (by omega) hd (by omega) (by omega)]
    simp only [Option.bind_some]
    by_cases hK : K < 1
    · rw [if_pos hK, visit_zero _ _ _ _ _ K hK]
      simp only [Option.bind_some, if_true]
      rw [Int.one_mul, beq_self_eq_true]
    · obtain ⟨p0, p1⟩ := mulb (m := K) (n := d) (by omega) (by omega) (by omega) (by omega)
      have pk : (K + 1) * d = K * d + d := by rw [Int.add_mul, Int.one_mul]
      rw [if_neg hK, w64 (x := K + 1) (by omega) (by omega), visit_plain ii d _ _ _ (K + 1) (by omega) hd (by omega) (by omega), visit_plain ii d _ _ _ K (by omega) hd (by omega) (by omega)]
      simp only [Option.bind_some]
      have hs : cycles_Stages.f ii d x.f2 x.f3 x.f4 = some 1 := by
        unfold cycles_Stages.f
        rw [if_pos (by omega)]
      rw [if_neg (by omega), Int.one_mul, if_pos rfl, pk, w64 (x := K * d + d - K * d) (by omega) (by omega), if_pos (by omega), hs]
      simp only [Option.bind_some, if_true]
      rw [w64 (x := K * d) (by omega) (by omega), beq_self_eq_true]
end Go.Proofs.Ytmefaegcoogmiaa.Pure
