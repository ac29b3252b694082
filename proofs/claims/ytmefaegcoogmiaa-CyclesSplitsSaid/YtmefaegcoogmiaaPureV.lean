/- Walks of a function. -/
import Derived.Test.YtmefaegcoogmiaaPureC
import Derived.Test.YtmefaegcoogmiaaF15
namespace Go.Proofs.Ytmefaegcoogmiaa.Pure
open Go.RowKit Go.Proofs.Ytmefaegcoogmiaa.PAll Go.Proofs.YtmefaegcoogmiaaW.PrintWords Go.Proofs.YtmefaegcoogmiaaW.PrintLast

/-! ### walks, the reference's issues, equal lists -/
section
variable {nm : ByteArray} {ws rt : List Int} {ar : List S75} {st : List S77} {bl : List S66} {sc : List S49} {n : Nat}
theorem walk_loop (G : G0 bl n) {l : List Int} (hl : ∀ x ∈ l, 0 ≤ x ∧ x ≤ 255) (hll : l.length ≤ 200) (d : Nat) : ∀ (i : Int) (q : List Int), 0 ≤ i → i + d = l.length → (q.length : Int) = i → okP bl n 0 q = true →
    ∃ q', Ev (fun k => jacquardref36_Walk.l0 k l (0 :: q) i nm ws ar st rt bl) (0 :: q') ∧ okP bl n 0 q' = true ∧ q'.length ≤ l.length := by
  have hn := G.hn
  have n1 := G.n1
  induction d with
  | zero =>
    intro i q h0 hi hq ho
    refine ⟨q, Ev.step (f := fun _ => some (0 :: q)) (fun k => ?_) (Ev.now _), ho, by omega⟩
    simp only [jacquardref36_Walk.l0]
    rw [if_neg (by omega)]
  | succ d ih =>
    intro i q h0 hi hq ho
    have wi : wrap64 (i + 1) = i + 1 := w64 (by omega) (by omega)
    have el : ((0 :: q : List Int).length : Int) = q.length + 1 := by simp
    have wl : wrap64 (((0 :: q : List Int).length : Int) - 1) = (q.length : Int) := by rw [w64 (by omega) (by omega)]; omega
    have hr := lst_range q 0 ⟨by omega, by omega⟩ ho
    have ha := lst_rd q 0
    generalize lst 0 q = a at hr ha
    have ht := G.T a hr.1 hr.2
    have hb := byte_at hl h0 (show i < (l.length : Int) by omega)
    by_cases hz : ((rd_T66 bl a).f2.f2.length : Int) = 0
    · refine ⟨q, Ev.step (f := fun _ => some (0 :: q)) (fun k => ?_) (Ev.now _), ho, by omega⟩
      simp only [jacquardref36_Walk.l0, wl, ha]
      rw [if_pos (by omega), if_pos (by omega), if_pos (by omega), if_pos hr.1, if_pos (by omega), if_pos hz]
    · have hz' : ¬ ((toOf bl a).length : Int) = 0 := hz
      have tm : 0 ≤ Int.tmod (rd l i) 2 ∧ Int.tmod (rd l i) 2 < 2 := ⟨Int.tmod_nonneg _ hb.1, Int.tmod_lt_of_pos _ (by omega)⟩
      have hj : ∃ j : Int, wrap64 (wrap64 (Int.tmod (rd l i) 2) * wrap64 (((toOf bl a).length : Int) - 1)) = j ∧ 0 ≤ j ∧ j < ((toOf bl a).length : Int) := by
        refine ⟨_, rfl, ?_⟩
        rw [w64 (x := Int.tmod (rd l i) 2) (by omega) (by omega), w64 (x := ((toOf bl a).length : Int) - 1) (by omega) (by omega)]
        have : Int.tmod (rd l i) 2 = 0 ∨ Int.tmod (rd l i) 2 = 1 := by omega
        rcases this with e | e <;> rw [e]
        · rw [Int.zero_mul, w64 (by omega) (by omega)]; omega
        · rw [Int.one_mul, w64 (by omega) (by omega)]; omega
      obtain ⟨j, ej, j0, j1⟩ := hj
      have hm : rd_T71 (toOf bl a) j ∈ toOf bl a := by
        unfold rd_T71
        rw [List.getD_eq_getElem?_getD, List.getElem?_eq_getElem (show j.toNat < (toOf bl a).length by omega)]
        exact List.getElem_mem _
      have hc := ht.2 _ hm
      have hE : eB bl a (rd_T71 (toOf bl a) j).f0 = true := by
        unfold eB
        rw [List.any_eq_true]
        exact ⟨_, hm, beq_self_eq_true _⟩
      have hlst : lst 0 q = a := (lst_rd q 0).symm.trans ha
      obtain ⟨q', hq', h⟩ := ih (i + 1) (q ++ [(rd_T71 (toOf bl a) j).f0]) (by omega) (by omega) (by simp; omega) (by rw [okP_snoc, ho, hlst, hE, decide_eq_true hc.1, decide_eq_true hc.2]; rfl)
      refine ⟨q', Ev.step (fun k => ?_) hq', h⟩
      have ej' : wrap64 (wrap64 (Int.tmod (rd l i) 2) * wrap64 (((rd_T66 bl a).f2.f2.length : Int) - 1)) = j := ej
      simp only [jacquardref36_Walk.l0, wl, ha, ej', wi]
      have j1' : j < ((rd_T66 bl a).f2.f2.length : Int) := j1
      rw [if_pos (by omega), if_pos (by omega), if_pos (by omega), if_pos hr.1, if_pos (by omega), if_neg hz, if_pos h0, if_pos j0, if_pos j1', if_pos (by omega)]
      rfl
theorem walk_ok (G : G0 bl n) {l : List Int} (hl : ∀ x ∈ l, 0 ≤ x ∧ x ≤ 255) (hll : l.length ≤ 200) : ∃ q, Ev (fun k => jacquardref36_Walk.f k nm ws ar st rt bl l) (0 :: q) ∧ okP bl n 0 q = true ∧ q.length ≤ 200 := by
  obtain ⟨q, hq, h1, h2⟩ := walk_loop (nm := nm) (ws := ws) (rt := rt) (ar := ar) (st := st) G hl hll l.length 0 [] (by omega) (by omega) rfl rfl
  exact ⟨q, hq, h1, by omega⟩
end

end Go.Proofs.Ytmefaegcoogmiaa.Pure
