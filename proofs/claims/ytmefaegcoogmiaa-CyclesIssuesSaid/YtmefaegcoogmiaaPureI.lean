/- The program's issues of a path are the reference's. -/
import Derived.Test.YtmefaegcoogmiaaPureC
import Derived.Test.YtmefaegcoogmiaaF22
namespace Go.Proofs.Ytmefaegcoogmiaa.Pure
open Go.RowKit Go.Proofs.Ytmefaegcoogmiaa.PAll Go.Proofs.YtmefaegcoogmiaaW.PrintWords Go.Proofs.YtmefaegcoogmiaaW.PrintLast

/-! ### the program's issues -/
section
variable {nm : ByteArray} {ws rt : List Int} {ar : List S75} {st : List S77} {bl : List S66} {sc : List S49} {n : Nat}
theorem inner_loop (G : Gr bl sc n) (L : List S46) (i t : Int) (ht : 0 ≤ t ∧ t ≤ 100000000) {s : S46} (hs : OkS n 1000 s) {R : List Int → List Int × Int} (d : Nat) : ∀ (j : Int) (out : List Int), 0 ≤ j → j + d = s.f1 → out.length + d ≤ 10000000 →
    (∀ out', out' = out ++ (List.range d).map (fun k : Nat => t + (j + (k : Int)) * iiOf sc s.f0) → Ev (fun k => (cycles_length.f k nm ws ar st rt bl sc s.f0 s.f1).bind fun x => cycles_Issues.l0 k sc out' (wrap64 (t + x)) L (L.length : Int) (wrap64 (i + 1)) nm ws ar st rt bl) (R out')) →
    Ev (fun k => cycles_Issues.l1 k sc out t L (L.length : Int) i s.f1 j nm ws ar st rt bl s.f0 s.f1) (R (out ++ (List.range d).map (fun k : Nat => t + (j + (k : Int)) * iiOf sc s.f0))) := by
  have hls := G.hs
  obtain ⟨hb, hv, hm⟩ := hs
  have D := G.D _ hb.1 hb.2
  induction d with
  | zero =>
    intro j out h0 hj ho h
    refine Ev.step (fun k => ?_) (h _ rfl)
    simp only [cycles_Issues.l1]
    rw [if_neg (by omega)]
    simp
  | succ d ih =>
    intro j out h0 hj ho h
    have M := mulB (a := j) (b := iiOf sc s.f0) (A := 1000) (B := 20) (by omega) (by omega) (by omega) (by omega)
    have e : out ++ (List.range (d + 1)).map (fun k : Nat => t + (j + (k : Int)) * iiOf sc s.f0) = (out ++ [t + j * iiOf sc s.f0]) ++ (List.range d).map (fun k : Nat => t + (j + 1 + (k : Int)) * iiOf sc s.f0) := by
      rw [List.range_succ_eq_map, List.map_cons, List.map_map, List.append_assoc, List.singleton_append]
      congr 2
      · simp
      · refine List.map_congr_left (fun k _ => ?_)
        simp only [Function.comp_apply, Nat.succ_eq_add_one, Int.natCast_add, Int.natCast_one]
        rw [show j + ((k : Int) + 1) = j + 1 + (k : Int) by omega]
    rw [e]
    refine Ev.step (fun k => ?_) (ih (j + 1) (out ++ [t + j * iiOf sc s.f0]) (by omega) (by omega) (by simp; omega) (fun out' he => h out' (by rw [he, e])))
    simp only [cycles_Issues.l1]
    rw [if_pos (by omega), if_pos hb.1, if_pos (by omega), if_pos (by omega), show (rd_T49 sc s.f0).f0 = iiOf sc s.f0 from rfl, w64 (x := j * iiOf sc s.f0) (by omega) (by omega), w64 (x := t + j * iiOf sc s.f0) (by omega) (by omega), w64 (x := j + 1) (by omega) (by omega)]
theorem prog_issues_loop (G : Gr bl sc n) (L : List S46) (hL : ∀ s ∈ L, OkS n 1000 s) (hl : L.length ≤ 1000) (d : Nat) : ∀ (i t : Int) (out : List Int), 0 ≤ i → i + d = L.length → 0 ≤ t → t ≤ 1 + 20020 * i → out.length ≤ 1000 * i →
    Ev (fun k => cycles_Issues.l0 k sc out t L (L.length : Int) i nm ws ar st rt bl) (out ++ pI sc t (L.drop i.toNat), 0) := by
  induction d with
  | zero =>
    intro i t out h0 hi ht ht2 ho
    rw [drop_end (by omega)]
    refine Ev.step (f := fun _ => some (out ++ [], 0)) (fun k => ?_) (Ev.now _)
    simp only [cycles_Issues.l0]
    rw [if_neg (by omega), List.append_nil]
  | succ d ih =>
    intro i t out h0 hi ht ht2 ho
    have O := at46 hL h0 (show i < (L.length : Int) by omega)
    have li := lenOf_in G O
    have O1 := O.2
    rw [drop_p h0 (by omega), pI]
    have I := inner_loop (nm := nm) (ws := ws) (rt := rt) (ar := ar) (st := st) (R := fun o => (o ++ pI sc (t + lenOf sc (rd_T46 L i)) (L.drop (i + 1).toNat), 0)) G L i t ⟨ht, by omega⟩ O (rd_T46 L i).f1.toNat 0 out (by omega) (by omega) (by omega) (fun out' he => by
      refine Ev.bind (length_ok G O) ?_
      rw [w64 (x := t + lenOf sc (rd_T46 L i)) (by omega) (by omega), w64 (x := i + 1) (by omega) (by omega)]
      exact ih (i + 1) _ out' (by omega) (by omega) (by omega) (by omega) (by rw [he]; simp; omega))
    have e : (fun k : Nat => t + (0 + (k : Int)) * iiOf sc (rd_T46 L i).f0) = (fun k : Nat => t + (k : Int) * iiOf sc (rd_T46 L i).f0) := by funext k; rw [Int.zero_add]
    rw [e] at I
    rw [← List.append_assoc]
    refine Ev.step (fun k => ?_) I
    simp only [cycles_Issues.l0]
    rw [if_pos (by omega), if_pos h0, if_pos (by omega)]
/-- Issues of a path. -/
theorem OkPath.issues (G : Gr bl sc n) {q : List Int} (h : OkPath bl n q) : Ev (fun k => cycles_Issues.f k nm ws ar st rt bl sc (0 :: q)) (issL sc 1 (0 :: q), 0) := by
  have P := h.parts G
  refine Ev.congr (fun k => by unfold cycles_Issues.f; rfl) (Ev.bind (h.split G) ?_)
  dsimp only
  have C := prog_issues_loop (nm := nm) (ws := ws) (rt := rt) (ar := ar) (st := st) G _ P.1 (by omega) (spl sc 0 1 q).length 0 1 [] (by omega) (by omega) (by omega) (by omega) (by simp)
  rw [show (spl sc 0 1 q).drop (0 : Int).toNat = spl sc 0 1 q from rfl, pI_spl sc q 0 1 1 (by omega) (.inl rfl), show (1 : Int) + (1 - 1) * iiOf sc 0 = 1 by omega] at C
  refine Ev.congr (fun k => ?_) C
  rw [if_pos rfl]
end

end Go.Proofs.Ytmefaegcoogmiaa.Pure
