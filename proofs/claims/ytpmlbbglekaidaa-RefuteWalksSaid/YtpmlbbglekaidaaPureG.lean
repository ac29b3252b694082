/- The document's slots. -/
import Derived.Test.YtpmlbbglekaidaaPureA
import Derived.Test.YtpmlbbglekaidaaF30
import Derived.Test.YtpmlbbglekaidaaF12
namespace Go.Proofs.Ytpmlbbglekaidaa.Pure
open Go.RowKit Go.Proofs.Ytpmlbbglekaidaa.PAll Go.Proofs.YtpmlbbglekaidaaW.PrintWords Go.Proofs.YtpmlbbglekaidaaW.PrintLast
set_option linter.unusedVariables false
set_option linter.unusedSimpArgs false

/-! ### the document's flows -/
section
variable {n p : Int} {lp : Bool} {ar : List S48} {rs : List S50} {ne : List S52} {ii : Int}
theorem rsrc (h0 : 0 ≤ n) (h1 : n ≤ 4096) (h2 : 0 ≤ p) (h3 : p ≤ 4094) : jacquardref28_Source.f n p lp ar rs ne = some (n + p) := by
  unfold jacquardref28_Source.f; rw [w64 (by omega) (by omega)]
theorem rend (h0 : 0 ≤ n) (h1 : n ≤ 4096) (h2 : 0 ≤ p) (h3 : p ≤ 4094) : jacquardref28_End.f n p lp ar rs ne = some (n + p + 1) := by
  unfold jacquardref28_End.f; rw [w64 (x := n + p) (by omega) (by omega), w64 (by omega) (by omega)]
theorem FO.rsrc (F : FO n p ar rs ne) : jacquardref28_Source.f n p lp ar rs ne = some (n + p) := by
  have := F.n0; have := F.n8; have := F.p0; have := F.p4
  unfold jacquardref28_Source.f; rw [w64 (by omega) (by omega)]
theorem weight_ok (F : FO n p ar rs ne) (i0 : 1 ≤ ii) (i1 : ii ≤ 256) {j : Int} (j0 : 0 ≤ j) (j1 : j < ar.length) : jacquardref28_Weight.f (rd_T48 ar j).f0 (rd_T48 ar j).f1 (rd_T48 ar j).f2 (rd_T48 ar j).f3 ii = some ((rd_T48 ar j).f2 - ii * (rd_T48 ar j).f3) := by
  have A := F.arc j j0 j1
  have mB := mulB i0 i1 A.2.2.2.2.2.2.1 A.2.2.2.2.2.2.2
  unfold jacquardref28_Weight.f
  rw [w64 (x := ii * (rd_T48 ar j).f3) (by omega) (by omega), w64 (by omega) (by omega)]
end

/-! ### the document's slots -/
section
variable {n p : Int} {lp : Bool} {ar : List S48} {rs : List S50} {ne : List S52} {ii : Int}
theorem mod_ok (hi : 1 ≤ ii) (h2 : ii ≤ 256) (x : Int) : jacquardref33_mod.f x ii = some (x % ii) := by
  have tb := tmodB (x := x) hi
  have te : x % ii = if x.tmod ii < 0 then x.tmod ii + ii else x.tmod ii := by
    have e : x % ii = (x.tmod ii + ii).tmod ii := (tmod2 (by omega) _).symm
    rw [e]
    by_cases h : x.tmod ii < 0
    · rw [if_pos h, Int.tmod_eq_of_lt (by omega) (by omega)]
    · rw [if_neg h, Int.tmod_eq_emod_of_nonneg (by omega), Int.add_emod_right, Int.emod_eq_of_lt (by omega) (by omega)]
  unfold jacquardref33_mod.f
  rw [if_neg (by omega), te]
  by_cases h : x.tmod ii < 0
  · rw [if_pos h, if_pos h, w64 (by omega) (by omega)]
  · rw [if_neg h, if_neg h]
theorem find_ok (l : List S44) (hl : l.length ≤ 1000) (v : Int) : ∃ q : Int, Ev (fun k => jacquardref33_find.f k l v) q ∧ ((q = -1 ∧ ∀ j : Int, 0 ≤ j → j < l.length → (rd_T44 l j).f0 ≠ v) ∨ (0 ≤ q ∧ q < l.length ∧ (rd_T44 l q).f0 = v ∧ ∀ j : Int, 0 ≤ j → j < q → (rd_T44 l j).f0 ≠ v)) := by
  have loop : ∀ (d : Nat) (i : Int), 0 ≤ i → i + d = l.length → (∀ j : Int, 0 ≤ j → j < i → (rd_T44 l j).f0 ≠ v) → ∃ q : Int, Ev (fun k => jacquardref33_find.l0 k l v (l.length : Int) i) q ∧ ((q = -1 ∧ ∀ j : Int, 0 ≤ j → j < l.length → (rd_T44 l j).f0 ≠ v) ∨ (0 ≤ q ∧ q < l.length ∧ (rd_T44 l q).f0 = v ∧ ∀ j : Int, 0 ≤ j → j < q → (rd_T44 l j).f0 ≠ v)) := by
    intro d
    induction d with
    | zero =>
      intro i i0 hd hall
      refine ⟨-1, Ev.step (f := fun _ => some (-1)) (fun k => ?_) (Ev.now _), .inl ⟨rfl, fun j j0 j1 => hall j j0 (by omega)⟩⟩
      simp only [jacquardref33_find.l0]
      rw [if_neg (by omega)]
    | succ d ih =>
      intro i i0 hd hall
      by_cases h : (rd_T44 l i).f0 = v
      · refine ⟨i, Ev.step (f := fun _ => some i) (fun k => ?_) (Ev.now _), .inr ⟨i0, by omega, h, hall⟩⟩
        simp only [jacquardref33_find.l0]
        rw [if_pos (by omega), if_pos i0, if_pos (by omega), if_pos h]
      · obtain ⟨q, hq, hp⟩ := ih (i + 1) (by omega) (by omega) (fun j j0 j1 => by
          by_cases e : j = i
          · rw [e]; exact h
          · exact hall j j0 (by omega))
        refine ⟨q, Ev.step (fun k => ?_) hq, hp⟩
        simp only [jacquardref33_find.l0]
        rw [if_pos (by omega), if_pos i0, if_pos (by omega), if_neg h, w64 (by omega) (by omega)]
  exact loop l.length 0 (Int.le_refl _) (by omega) (fun j j0 j1 => absurd j1 (by omega))
theorem rslot_ok (F : FO n p ar rs ne) (l : List S44) (hl : l.length ≤ 1000) (v : Int) : ∃ s : Int, Ev (fun k => jacquardref33_slot.f k n p lp ar rs ne l v) s ∧ (v = n + p ∧ s = 0 ∨ v ≠ n + p ∧ (s = -1 ∧ (∀ j : Int, 0 ≤ j → j < l.length → (rd_T44 l j).f0 ≠ v) ∨ ∃ q : Int, 0 ≤ q ∧ q < l.length ∧ (rd_T44 l q).f0 = v ∧ s = (rd_T44 l q).f1 ∧ ∀ j : Int, 0 ≤ j → j < q → (rd_T44 l j).f0 ≠ v)) := by
  have src := F.rsrc (lp := lp)
  by_cases e : v = n + p
  · refine ⟨0, Ev.congr (fun k => ?_) (Ev.now _), .inl ⟨e, rfl⟩⟩
    unfold jacquardref33_slot.f
    rw [src]
    simp only [Option.bind_some]
    rw [if_pos e]
  obtain ⟨q, hq, hp⟩ := find_ok l hl v
  have un : ∀ k, jacquardref33_slot.f k n p lp ar rs ne l v = (jacquardref33_find.f k l v).bind fun t271 => (if t271 ≥ 0 then (if 0 ≤ t271 then (if t271 < (l.length : Int) then (some ((rd_T44 l t271).f1)) else (none)) else (none)) else (some (-1))) := fun k => by
    unfold jacquardref33_slot.f
    rw [src]
    simp only [Option.bind_some]
    rw [if_neg e]
  rcases hp with ⟨rfl, hp⟩ | ⟨q0, q1, q2, q3⟩
  · exact ⟨-1, Ev.congr un (Ev.bind hq (Ev.congr (fun k => if_neg (by omega)) (Ev.now _))), .inr ⟨e, .inl ⟨rfl, hp⟩⟩⟩
  · exact ⟨(rd_T44 l q).f1, Ev.congr un (Ev.bind hq (Ev.congr (fun k => by rw [if_pos q0, if_pos q0, if_pos q1]) (Ev.now _))), .inr ⟨e, .inr ⟨q, q0, q1, q2, rfl, q3⟩⟩⟩
end

end Go.Proofs.Ytpmlbbglekaidaa.Pure
