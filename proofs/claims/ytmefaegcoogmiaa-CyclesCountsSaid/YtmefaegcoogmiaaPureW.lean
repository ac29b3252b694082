/- The reference's issues of a path. -/
import Derived.Test.YtmefaegcoogmiaaPureV
import Derived.Test.YtmefaegcoogmiaaF18
import Derived.Test.YtmefaegcoogmiaaF19
namespace Go.Proofs.Ytmefaegcoogmiaa.Pure
open Go.RowKit Go.Proofs.Ytmefaegcoogmiaa.PAll Go.Proofs.YtmefaegcoogmiaaW.PrintWords Go.Proofs.YtmefaegcoogmiaaW.PrintLast

/-! ### walks, the reference's issues, equal lists -/
section
variable {nm : ByteArray} {ws rt : List Int} {ar : List S75} {st : List S77} {bl : List S66} {sc : List S49} {n : Nat}
theorem issues_loop (G : Gr bl sc n) (p : List Int) (hp : p.length ≤ 1000) (hr : ∀ c ∈ p, 0 ≤ c ∧ c < (n : Int)) (d : Nat) : ∀ (i t : Int) (out : List Int), 0 ≤ i → i + d = p.length → 0 ≤ t → t ≤ 1 + 20 * i → (out.length : Int) = i →
    Ev (fun k => jacquardref36_Issues.l0 k sc p out t i nm ws ar st rt bl) (out ++ issL sc t (p.drop i.toNat), endL sc t (p.drop i.toNat)) := by
  have hn := G.hn
  have hs := G.hs
  induction d with
  | zero =>
    intro i t out h0 hi ht ht2 ho
    rw [drop_end (by omega)]
    refine Ev.step (f := fun _ => some (out ++ [], t)) (fun k => ?_) (Ev.now _)
    simp only [jacquardref36_Issues.l0]
    rw [if_neg (by omega), List.append_nil]
  | succ d ih =>
    intro i t out h0 hi ht ht2 ho
    have wi : wrap64 (i + 1) = i + 1 := w64 (by omega) (by omega)
    have hb : 0 ≤ rd p i ∧ rd p i < (n : Int) := by
      refine hr _ ?_
      unfold rd
      rw [List.getD_eq_getElem?_getD, List.getElem?_eq_getElem (show i.toNat < p.length by omega)]
      exact List.getElem_mem _
    have ci := cost_in G hb (p.drop (i + 1).toNat)
    rw [drop_i h0 (by omega), issL, endL]
    have L := ih (i + 1) (t + costOf sc (rd p i) (p.drop (i + 1).toNat)) (out ++ [t]) (by omega) (by omega) (by omega) (by omega) (by simp; omega)
    rw [List.append_assoc, List.singleton_append] at L
    have D := G.D _ hb.1 hb.2
    have wc : ∀ x : Int, 0 ≤ x → x ≤ 20 → wrap64 (t + x) = t + x := fun x a b => w64 (by omega) (by omega)
    by_cases hl : i + 1 < (p.length : Int)
    · have hcost : costOf sc (rd p i) (p.drop (i + 1).toNat) = if rd p (i + 1) = rd p i ∧ 0 < iiOf sc (rd p i) then iiOf sc (rd p i) else dpOf sc (rd p i) := by rw [drop_i (by omega) hl]; rfl
      by_cases he : rd p (i + 1) = rd p i
      · obtain ⟨r, _, hr2, hrs⟩ := self_ok (nm := nm) (ws := ws) (rt := rt) (ar := ar) (st := st) G hb.1 hb.2
        have e0 : (rd_T49 sc (rd p i)).f0 = iiOf sc (rd p i) := rfl
        have e1 : (rd_T49 sc (rd p i)).f1 = dpOf sc (rd p i) := rfl
        refine Ev.step (fun k => by simp only [jacquardref36_Issues.l0, wi, Option.bind_some]; rw [if_pos (by omega), if_pos h0, if_pos (by omega), if_pos hl, if_pos (by omega), if_pos he]) (Ev.bind hr2 ?_)
        by_cases hii : 0 < iiOf sc (rd p i)
        · rw [if_pos ⟨he, hii⟩] at hcost
          rw [hcost] at L ⊢
          refine Ev.congr (fun k => ?_) L
          rw [if_pos (show r ≥ 0 from hrs.mpr hii), if_pos hb.1, if_pos (by omega), e0, wc _ (by omega) (by omega)]
        · rw [if_neg (fun h => hii h.2)] at hcost
          rw [hcost] at L ⊢
          refine Ev.congr (fun k => ?_) L
          rw [if_neg (show ¬ r ≥ 0 from fun h => hii (hrs.mp h)), if_pos hb.1, if_pos (by omega), e1, wc _ (by omega) (by omega)]
      · rw [if_neg (fun h => he h.1)] at hcost
        rw [hcost] at L ⊢
        refine Ev.step (fun k => ?_) L
        simp only [jacquardref36_Issues.l0, wi, Option.bind_some]
        rw [if_pos (by omega), if_pos h0, if_pos (by omega), if_pos hl, if_pos (by omega), if_neg he, if_pos hb.1, if_pos (by omega), show (rd_T49 sc (rd p i)).f1 = dpOf sc (rd p i) from rfl, wc _ (by omega) (by omega)]
    · have hcost : costOf sc (rd p i) (p.drop (i + 1).toNat) = dpOf sc (rd p i) := by rw [drop_end (by omega)]; rfl
      rw [hcost] at L ⊢
      refine Ev.step (fun k => ?_) L
      simp only [jacquardref36_Issues.l0, wi, Option.bind_some]
      rw [if_pos (by omega), if_pos h0, if_pos (by omega), if_neg hl, if_pos hb.1, if_pos (by omega), show (rd_T49 sc (rd p i)).f1 = dpOf sc (rd p i) from rfl, wc _ (by omega) (by omega)]
theorem issues_ok (G : Gr bl sc n) (p : List Int) (hp : p.length ≤ 1000) (hr : ∀ c ∈ p, 0 ≤ c ∧ c < (n : Int)) : Ev (fun k => jacquardref36_Issues.f k nm ws ar st rt bl sc p) (issL sc 1 p, endL sc 1 p) :=
  issues_loop G p hp hr p.length 0 1 [] (by omega) (by omega) (by omega) (by omega) rfl
theorem ints_loop (a b : List Int) (hab : a.length = b.length) (hl : a.length ≤ 100000) (he : a = b) (d : Nat) : ∀ i : Int, 0 ≤ i → i + d = a.length → Ev (fun k => jacquardref08_Ints.l0 k a b i) true := by
  subst he
  induction d with
  | zero =>
    intro i h0 hi
    refine Ev.step (f := fun _ => some true) (fun k => ?_) (Ev.now _)
    simp only [jacquardref08_Ints.l0]
    rw [if_neg (by omega)]
  | succ d ih =>
    intro i h0 hi
    refine Ev.step (fun k => ?_) (ih (i + 1) (by omega) (by omega))
    simp only [jacquardref08_Ints.l0]
    rw [if_pos (by omega), if_pos h0, if_pos (by omega), if_pos trivial, w64 (by omega) (by omega)]
theorem ints_same (a : List Int) (hl : a.length ≤ 100000) : Ev (fun k => jacquardref08_Ints.f k a a) true := by
  refine Ev.congr (fun k => ?_) (ints_loop a a rfl hl rfl a.length 0 (by omega) (by omega))
  unfold jacquardref08_Ints.f
  rw [if_pos rfl]
end

end Go.Proofs.Ytmefaegcoogmiaa.Pure
