import Derived.Test.YtpcieagmnllimaaDoorR
import Derived.SliceStrings
set_option linter.all false
namespace Go.Proofs.YtpcieagmnllimaaDoor
open Go Go.RowKit Go.Vm Go.ChangeShapes Go.WideShapes
set_option maxRecDepth 100000 in
/-- A slice of strings that came in, as plain values. -/
theorem slice_strs {H : Type} {enc : TypeId × Value → H} {W : World} {base : Nat} {v : Value} {d : DataW H} {p : List MemPlace} (hv : Value.okWide Tryd.prog W .any base 32 v) (h : DataW.Trod enc Tryd.prog W 0 (fun _ => true) true 32 v d p) :
    ∃ ss : List (List UInt8), VR E (oldS W) W noRho (.vsl none .str ss) v := by
  obtain ⟨a, len, cap, rfl⟩ := okWide_slice Tryd.underlying32 hv
  obtain ⟨fuel, hf⟩ := h
  have hcells : (Value.slice a len cap).cells.toList = [.slice a len cap] := rfl
  rw [hcells] at hf
  rcases open_strings Tryd.underlying32 Tryd.underlying9 cells9 hf with ⟨h1, -⟩ | ⟨b, n, c, ss, h1, -, h3, -, h5, -, h7, -⟩
  · obtain ⟨rfl, rfl, rfl⟩ : a = none ∧ len = 0 ∧ cap = 0 := by simpa using h1
    exact ⟨[], .vsl none .str [] none 0 (fun _ => []) (fun j x h => absurd h (by simp)) (fun j x h => absurd h (by simp)) (fun j h => absurd h (by simp)) (fun h => absurd h (by simp)) (Nat.le_refl _) (fun h => absurd rfl h)⟩
  · obtain ⟨rfl, rfl, rfl⟩ : a = some b ∧ len = n ∧ cap = c := by simpa using h1
    have hss : ss.length = cap := by simpa using h5
    obtain ⟨l, hl0⟩ : ∃ l : List (List UInt8), l = (ss.take len).map (fun s => s.data.toList) := ⟨_, rfl⟩
    have hat : ∀ (j : Nat) x, l[j]? = some x → j < len ∧ x = (ss.getD j ByteArray.empty).data.toList := by
      intro j x hx
      rw [hl0, List.getElem?_map, List.getElem?_take] at hx
      by_cases hj : j < len
      · rw [if_pos hj, List.getElem?_eq_getElem (by omega)] at hx
        refine ⟨hj, ?_⟩
        have : ss.getD j ByteArray.empty = ss[j]'(by omega) := by simp [List.getD, List.getElem?_eq_getElem (show j < ss.length by omega)]
        rw [this]; simpa using hx.symm
      · rw [if_neg hj] at hx; exact absurd hx (by simp)
    have hl : l.length = len := by rw [hl0, List.length_map, List.length_take]; omega
    obtain ⟨bb, bo, bs⟩ := b
    have spot : ∀ j, j < len → bs = none ∧ bb < W.heap.size ∧ W.cell? ⟨bb, bo + j, none⟩ = some (.string (ss.getD j ByteArray.empty)) := by
      intro j hj
      have h := h7 j (by omega)
      have h0 : bs = none := by
        have h3 := (cell_lt (h7 0 (by omega))).2
        unfold Addr.add at h3
        rw [if_pos rfl] at h3
        exact h3
      subst h0
      rw [Addr.add_mid] at h
      exact ⟨rfl, (cell_lt h).1, h⟩
    have key := VR.vsl (E := E) (S := oldS W) (w := W) (ρ := noRho) none .str l (some ⟨bb, bo, bs⟩) cap (fun j => [Value.string (ss.getD j ByteArray.empty)])
      (fun j x hx => rfl)
      (fun j x hx => by
        obtain ⟨hj, rfl⟩ := hat j x hx
        exact .cons _ _ _ _ (.str _) .nil)
      (fun j hj q u hu => by
        have hj' : j < len := Nat.lt_of_lt_of_eq hj hl
        obtain ⟨hs, hb, hc⟩ := spot j hj'
        subst hs
        match q, hu with
        | 0, hu =>
          have hu : Value.string (ss.getD j ByteArray.empty) = u := Option.some.inj hu
          subst hu
          refine ⟨bb, bo, rfl, hb, ?_, rfl⟩
          have e : j * sizeE E .str + 0 = j := Nat.mul_one j
          rw [e]; exact hc
        | q + 1, hu => exact absurd hu (by simp))
      (fun h => by
        obtain ⟨hs, hb, -⟩ := spot 0 (Nat.lt_of_lt_of_eq h hl)
        subst hs
        exact ⟨bb, bo, rfl⟩)
      (Nat.le_trans (Nat.le_of_eq hl) h3) (fun h => absurd rfl h)
    refine ⟨l, ?_⟩
    have e : List.length (α := El N .str) l = len := hl
    rw [e] at key
    exact key
end Go.Proofs.YtpcieagmnllimaaDoor
