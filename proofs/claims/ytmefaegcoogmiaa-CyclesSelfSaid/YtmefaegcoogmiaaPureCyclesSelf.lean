/- The law CyclesSelf holds: on any function with any schedules the program's Self and the reference's Self agree; no condition. -/
import Derived.Test.YtmefaegcoogmiaaQCyclesSelf
namespace Go.Proofs.Ytmefaegcoogmiaa.Pure
open Go.RowKit Go.Proofs.Ytmefaegcoogmiaa.PCyclesSelf Go.Proofs.YtmefaegcoogmiaaW.PrintWords Go.Proofs.YtmefaegcoogmiaaW.PrintLast

theorem wrap_next {i : Int} (h0 : 0 ≤ i) (h : i ≤ 140737488351232) : wrap64 (i + 1) = i + 1 := by
  unfold wrap64
  omega

theorem awake_ok : Ev (fun k => jacquardlaw36_awake.f k) true := Ev.of (fun k => jacquardlaw36_awake.mono k) (k := 9) (by decide +kernel)

/-- More than one edge: the reference ends with -1. -/
theorem ref_many (b : Int) (xs : List S71) (hn : xs.length ≤ 140737488351232) (d : Nat) : ∀ (i c t : Int), 0 ≤ i → i ≤ xs.length → (xs.length : Int) - i = d → 2 ≤ c → c ≤ i →
    Ev (fun k => jacquardref36_Self.l0 k b c t xs i) (-1) := by
  induction d with
  | zero =>
    intro i c t h0 h1 hd h2 hc
    refine Ev.step (f := fun _ => some (-1)) (fun k => ?_) (Ev.now _)
    simp only [jacquardref36_Self.l0]
    rw [if_neg (by omega), if_neg (by omega)]
  | succ d ih =>
    intro i c t h0 h1 hd h2 hc
    by_cases hb : (rd_T71 xs i).f0 = b
    · refine Ev.step (fun k => ?_) (ih (i + 1) (c + 1) i (by omega) (by omega) (by omega) (by omega) (by omega))
      simp only [jacquardref36_Self.l0]
      rw [if_pos (by omega), if_pos h0, if_pos hb, wrap_next h0 (by omega), wrap_next (by omega) (by omega)]
    · refine Ev.step (fun k => ?_) (ih (i + 1) c t (by omega) (by omega) (by omega) (by omega) (by omega))
      simp only [jacquardref36_Self.l0]
      rw [if_pos (by omega), if_pos h0, if_neg hb, wrap_next h0 (by omega)]

theorem both_loops (b : Int) (xs : List S71) (hn : xs.length ≤ 140737488351232) (d : Nat) : ∀ (i s c t : Int), 0 ≤ i → i ≤ xs.length → (xs.length : Int) - i = d → (s = -1 ∧ c = 0 ∧ t = -1 ∨ 0 ≤ s ∧ c = 1 ∧ t = s ∧ 1 ≤ i) →
    ∃ r, Ev (fun k => cycles_Self.l0 k b s xs (xs.length : Int) i) r ∧ Ev (fun k => jacquardref36_Self.l0 k b c t xs i) r := by
  induction d with
  | zero =>
    intro i s c t h0 h1 hd hs
    refine ⟨s, Ev.step (f := fun _ => some s) (fun k => ?_) (Ev.now _), Ev.step (f := fun _ => some s) (fun k => ?_) (Ev.now _)⟩
    · simp only [cycles_Self.l0]
      rw [if_neg (by omega)]
    · simp only [jacquardref36_Self.l0]
      rw [if_neg (by omega)]
      rcases hs with ⟨rfl, rfl, rfl⟩ | ⟨_, rfl, rfl, _⟩
      · rw [if_neg (by omega)]
      · rw [if_pos rfl]
  | succ d ih =>
    intro i s c t h0 h1 hd hs
    by_cases hb : (rd_T71 xs i).f0 = b
    · by_cases hp : s ≥ 0
      · refine ⟨-1, Ev.step (f := fun _ => some (-1)) (fun k => ?_) (Ev.now _), Ev.step (fun k => ?_) (ref_many b xs hn d (i + 1) (c + 1) i (by omega) (by omega) (by omega) (by omega) (by omega))⟩
        · simp only [cycles_Self.l0]
          rw [if_pos (by omega), if_pos h0, if_pos (by omega), if_pos hb, if_pos hp]
        · simp only [jacquardref36_Self.l0]
          rw [if_pos (by omega), if_pos h0, if_pos hb, wrap_next h0 (by omega), wrap_next (by omega) (by omega)]
      · obtain ⟨r, hr, hq⟩ := ih (i + 1) i (c + 1) i (by omega) (by omega) (by omega) (by omega)
        refine ⟨r, Ev.step (fun k => ?_) hr, Ev.step (fun k => ?_) hq⟩
        · simp only [cycles_Self.l0]
          rw [if_pos (by omega), if_pos h0, if_pos (by omega), if_pos hb, if_neg hp, wrap_next h0 (by omega)]
        · simp only [jacquardref36_Self.l0]
          rw [if_pos (by omega), if_pos h0, if_pos hb, wrap_next h0 (by omega), wrap_next (by omega) (by omega)]
    · obtain ⟨r, hr, hq⟩ := ih (i + 1) s c t (by omega) (by omega) (by omega) (by omega)
      refine ⟨r, Ev.step (fun k => ?_) hr, Ev.step (fun k => ?_) hq⟩
      · simp only [cycles_Self.l0]
        rw [if_pos (by omega), if_pos h0, if_pos (by omega), if_neg hb, wrap_next h0 (by omega)]
      · simp only [jacquardref36_Self.l0]
        rw [if_pos (by omega), if_pos h0, if_neg hb, wrap_next h0 (by omega)]

theorem both_start (f0 : ByteArray) (f1 : List Int) (f2 : List S75) (f3 : List S77) (f4 : List Int) (f5 : List S66) (hf : ∀ y ∈ f5, WS66 y) (b : Int) (c : Bool) (h0 : c = false → 0 ≤ b) (h1 : c = false → b < f5.length) :
    ∃ r, Ev (fun k => cycles_Self.j0 k b c f0 f1 f2 f3 f4 f5) r ∧ Ev (fun k => jacquardref36_Self.j0 k b c f0 f1 f2 f3 f4 f5) r := by
  cases c with
  | true => exact ⟨-1, Ev.step (f := fun _ => some (-1)) (fun k => rfl) (Ev.now _), Ev.step (f := fun _ => some (-1)) (fun k => rfl) (Ev.now _)⟩
  | false =>
    have h0 := h0 rfl
    have h1 := h1 rfl
    have hm : rd_T66 f5 b ∈ f5 := by
      unfold rd_T66
      rw [List.getD_eq_getElem?_getD, List.getElem?_eq_getElem (show b.toNat < f5.length by omega)]
      exact List.getElem_mem _
    have hl : (rd_T66 f5 b).f2.f2.length ≤ 140737488351232 := by
      have := (hf _ hm).2.2.1.2.2.1.2.1
      omega
    obtain ⟨r, hr, hq⟩ := both_loops b (rd_T66 f5 b).f2.f2 hl (rd_T66 f5 b).f2.f2.length 0 (-1) 0 (-1) (by omega) (by omega) (by omega) (by omega)
    refine ⟨r, Ev.step (fun k => ?_) hr, Ev.step (fun k => ?_) hq⟩
    · simp only [cycles_Self.j0]
      rw [if_neg (by decide), if_pos h0, if_pos h1]
    · simp only [jacquardref36_Self.j0]
      rw [if_neg (by decide), if_pos h0, if_pos h1]

theorem both_self (f0 : ByteArray) (f1 : List Int) (f2 : List S75) (f3 : List S77) (f4 : List Int) (f5 : List S66) (hf : ∀ y ∈ f5, WS66 y) (l : List S49) (b : Int) :
    ∃ r, Ev (fun k => cycles_Self.f k f0 f1 f2 f3 f4 f5 l b) r ∧ Ev (fun k => jacquardref36_Self.f k f0 f1 f2 f3 f4 f5 l b) r := by
  by_cases h0 : b < 0
  · obtain ⟨r, hr, hq⟩ := both_start f0 f1 f2 f3 f4 f5 hf b true (by simp) (by simp)
    refine ⟨r, Ev.congr (fun k => ?_) hr, Ev.congr (fun k => ?_) hq⟩
    · simp only [cycles_Self.f]; rw [if_pos h0]
    · simp only [jacquardref36_Self.f]; rw [if_pos h0]
  by_cases h1 : b ≥ (f5.length : Int)
  · obtain ⟨r, hr, hq⟩ := both_start f0 f1 f2 f3 f4 f5 hf b true (by simp) (by simp)
    refine ⟨r, Ev.congr (fun k => ?_) hr, Ev.congr (fun k => ?_) hq⟩
    · simp only [cycles_Self.f]; rw [if_neg h0, if_pos h1]
    · simp only [jacquardref36_Self.f]; rw [if_neg h0, if_pos h1]
  by_cases h2 : b ≥ (l.length : Int)
  · obtain ⟨r, hr, hq⟩ := both_start f0 f1 f2 f3 f4 f5 hf b true (by simp) (by simp)
    refine ⟨r, Ev.congr (fun k => ?_) hr, Ev.congr (fun k => ?_) hq⟩
    · simp only [cycles_Self.f]; rw [if_neg h0, if_neg h1, if_pos h2]
    · simp only [jacquardref36_Self.f]; rw [if_neg h0, if_neg h1, if_pos h2]
  obtain ⟨r, hr, hq⟩ := both_start f0 f1 f2 f3 f4 f5 hf b (decide ((rd_T49 l b).f0 ≤ 0)) (by omega) (by omega)
  refine ⟨r, Ev.congr (fun k => ?_) hr, Ev.congr (fun k => ?_) hq⟩
  · simp only [cycles_Self.f]; rw [if_neg h0, if_neg h1, if_neg h2, if_pos (by omega), if_pos (by omega)]
  · simp only [jacquardref36_Self.f]; rw [if_neg h0, if_neg h1, if_neg h2, if_pos (by omega), if_pos (by omega)]

theorem law_loop (f0 : ByteArray) (f1 : List Int) (f2 : List S75) (f3 : List S77) (f4 : List Int) (f5 : List S66) (hf : ∀ y ∈ f5, WS66 y) (hn : f5.length ≤ 140737488351232) (l : List S49) (b : Int) (d : Nat) : ∀ i : Int, 0 ≤ i → i ≤ f5.length → (f5.length : Int) - i = d →
    Ev (fun k => jacquardlaw36_CyclesSelf.l0 k l b (f5.length : Int) i f0 f1 f2 f3 f4 f5) true := by
  induction d with
  | zero =>
    intro i h0 h1 hd
    obtain ⟨r, hr, hq⟩ := both_self f0 f1 f2 f3 f4 f5 hf l b
    refine Ev.step (f := fun k => (cycles_Self.f k f0 f1 f2 f3 f4 f5 l b).bind fun t => (jacquardref36_Self.f k f0 f1 f2 f3 f4 f5 l b).bind fun u => some (t == u)) (fun k => ?_) (Ev.bind hr (Ev.bind hq ?_))
    · simp only [jacquardlaw36_CyclesSelf.l0]
      rw [if_neg (by omega)]
    · rw [beq_self_eq_true]
      exact Ev.now _
  | succ d ih =>
    intro i h0 h1 hd
    obtain ⟨r, hr, hq⟩ := both_self f0 f1 f2 f3 f4 f5 hf l i
    refine Ev.step (f := fun k => (cycles_Self.f k f0 f1 f2 f3 f4 f5 l i).bind fun t => (jacquardref36_Self.f k f0 f1 f2 f3 f4 f5 l i).bind fun u => if t = u then jacquardlaw36_CyclesSelf.l0 k l b (f5.length : Int) (wrap64 (i + 1)) f0 f1 f2 f3 f4 f5 else some false) (fun k => ?_) (Ev.bind hr (Ev.bind hq ?_))
    · simp only [jacquardlaw36_CyclesSelf.l0]
      rw [if_pos (by omega)]
    · simp only [if_true]
      rw [wrap_next h0 (by omega)]
      exact ih (i + 1) (by omega) (by omega) (by omega)

theorem CyclesSelf : jacquardlaw36_CyclesSelf.Pure := by
  intro x l b hx hl hb
  have hf : ∀ y ∈ x.f5, WS66 y := hx.2.2.2.2.2.2.2
  have hn : x.f5.length ≤ 140737488351232 := by have := hx.2.2.2.2.2.2.1; omega
  refine Ev.rounds (g := fun k => jacquardlaw36_CyclesSelf.f k x.f0 x.f1 x.f2 x.f3 x.f4 x.f5 l b) ?_
  refine Ev.congr (f := fun k => (jacquardlaw36_awake.f k).bind fun t => if t = true then jacquardlaw36_CyclesSelf.j0 k l b (decide ((x.f5.length : Int) > 50)) x.f0 x.f1 x.f2 x.f3 x.f4 x.f5 else jacquardlaw36_CyclesSelf.j0 k l b true x.f0 x.f1 x.f2 x.f3 x.f4 x.f5) (fun k => rfl) (Ev.bind awake_ok ?_)
  simp only [if_true]
  cases decide ((x.f5.length : Int) > 50) with
  | true =>
    refine Ev.step (f := fun k => (jacquardlaw36_awake.f k).bind fun t => some t) (fun k => ?_) (Ev.bind awake_ok (Ev.now _))
    simp only [jacquardlaw36_CyclesSelf.j0, if_true]
  | false =>
    refine Ev.step (fun k => ?_) (law_loop x.f0 x.f1 x.f2 x.f3 x.f4 x.f5 hf hn l b x.f5.length 0 (by omega) (by omega) (by omega))
    simp only [jacquardlaw36_CyclesSelf.j0]
    rw [if_neg Bool.false_ne_true]
end Go.Proofs.Ytmefaegcoogmiaa.Pure
