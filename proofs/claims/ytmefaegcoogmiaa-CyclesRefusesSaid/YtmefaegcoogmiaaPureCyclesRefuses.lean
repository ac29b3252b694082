/- The law CyclesRefuses holds: lists that are no paths, and schedules that do not fit, are refused; no condition. -/
import Derived.Test.YtmefaegcoogmiaaQCyclesRefuses
import Derived.Test.YtmefaegcoogmiaaMkOk
import Derived.Test.YtmefaegcoogmiaaPureI
import Derived.Test.YtmefaegcoogmiaaF12
namespace Go.Proofs.Ytmefaegcoogmiaa.Pure
open Go.RowKit Go.Proofs.Ytmefaegcoogmiaa.PAll Go.Proofs.YtmefaegcoogmiaaW.PrintWords Go.Proofs.YtmefaegcoogmiaaW.PrintLast

/-! ### a law's beginning -/
theorem u8 {y : Int} (h : (Lit.int .u8 y).wf = true) : 0 ≤ y ∧ y ≤ 255 := by
  simp [Lit.wf, IntKind.min, IntKind.max, IntKind.signed, IntKind.bits] at h
  omega
/-- A sketch is of a size that is looked at. -/
structure Small (l0 : List Int) (l1 l2 : List S73) (l3 : List Int) (l4 : List S80) : Prop where
  h0 : l0.length ≤ 4
  h1 : l1.length ≤ 3
  h2 : l2.length ≤ 4
  h3 : l3.length ≤ 3
  h4 : l4.length ≤ 5
  hp : ∀ p ∈ l4, p.f0.length ≤ 5 ∧ p.f1.length ≤ 14
theorem drop_80 {xs : List S80} {i : Int} (h0 : 0 ≤ i) (h1 : i < xs.length) : xs.drop i.toNat = rd_T80 xs i :: xs.drop (i + 1).toNat := by
  unfold rd_T80
  rw [List.getD_eq_getElem?_getD, List.getElem?_eq_getElem (show i.toNat < xs.length by omega), show (i + 1).toNat = i.toNat + 1 by omega]
  exact List.drop_eq_getElem_cons (by omega)
theorem few_loop (l0 : List Int) (l1 l2 : List S73) (l3 : List Int) (l4 : List S80) (hl : l4.length ≤ 140737488351232) (d : Nat) : ∀ i : Int, 0 ≤ i → i + d = l4.length →
    ∃ r, Ev (fun k => jacquardref27_Few.l0 k i l0 l1 l2 l3 l4) r ∧ (r = true → (l0.length ≤ 4 ∧ l1.length ≤ 3 ∧ l2.length ≤ 4 ∧ l3.length ≤ 3 ∧ l4.length ≤ 5) ∧ ∀ p ∈ l4.drop i.toNat, p.f0.length ≤ 5 ∧ p.f1.length ≤ 14) := by
  induction d with
  | zero =>
    intro i h0 hi
    rw [drop_end (by omega)]
    by_cases a0 : (l0.length : Int) ≤ 4
    case neg => exact ⟨false, Ev.step (f := fun _ => some false) (fun k => by simp only [jacquardref27_Few.l0]; rw [if_neg (by omega), if_neg a0]) (Ev.now _), fun h => absurd h Bool.false_ne_true⟩
    by_cases a1 : (l1.length : Int) ≤ 3
    case neg => exact ⟨false, Ev.step (f := fun _ => some false) (fun k => by simp only [jacquardref27_Few.l0]; rw [if_neg (by omega), if_pos a0, if_neg a1]) (Ev.now _), fun h => absurd h Bool.false_ne_true⟩
    by_cases a2 : (l2.length : Int) ≤ 4
    case neg => exact ⟨false, Ev.step (f := fun _ => some false) (fun k => by simp only [jacquardref27_Few.l0]; rw [if_neg (by omega), if_pos a0, if_pos a1, if_neg a2]) (Ev.now _), fun h => absurd h Bool.false_ne_true⟩
    by_cases a3 : (l3.length : Int) ≤ 3
    case neg => exact ⟨false, Ev.step (f := fun _ => some false) (fun k => by simp only [jacquardref27_Few.l0]; rw [if_neg (by omega), if_pos a0, if_pos a1, if_pos a2, if_neg a3]) (Ev.now _), fun h => absurd h Bool.false_ne_true⟩
    refine ⟨decide ((l4.length : Int) ≤ 5), Ev.step (f := fun _ => some (decide ((l4.length : Int) ≤ 5))) (fun k => by simp only [jacquardref27_Few.l0]; rw [if_neg (by omega), if_pos a0, if_pos a1, if_pos a2, if_pos a3]) (Ev.now _), fun h => ⟨⟨by omega, by omega, by omega, by omega, by have := of_decide_eq_true h; omega⟩, by simp⟩⟩
  | succ d ih =>
    intro i h0 hi
    rw [drop_80 h0 (by omega)]
    by_cases a0 : ((rd_T80 l4 i).f0.length : Int) > 5
    · exact ⟨false, Ev.step (f := fun _ => some false) (fun k => by simp only [jacquardref27_Few.l0]; rw [if_pos (by omega), if_pos h0, if_pos a0]) (Ev.now _), fun h => absurd h Bool.false_ne_true⟩
    by_cases a1 : ((rd_T80 l4 i).f1.length : Int) > 14
    · exact ⟨false, Ev.step (f := fun _ => some false) (fun k => by simp only [jacquardref27_Few.l0]; rw [if_pos (by omega), if_pos h0, if_neg a0, if_pos a1]) (Ev.now _), fun h => absurd h Bool.false_ne_true⟩
    obtain ⟨r, hr, h⟩ := ih (i + 1) (by omega) (by omega)
    refine ⟨r, Ev.step (fun k => ?_) hr, fun e => ⟨(h e).1, fun p hp => ?_⟩⟩
    · simp only [jacquardref27_Few.l0]
      rw [if_pos (by omega), if_pos h0, if_neg a0, if_neg a1, w64 (by omega) (by omega)]
    · rcases List.mem_cons.mp hp with rfl | hp
      · omega
      · exact (h e).2 p hp
theorem few_ok (l0 : List Int) (l1 l2 : List S73) (l3 : List Int) (l4 : List S80) (hl : l4.length ≤ 140737488351232) : ∃ r, Ev (fun k => jacquardref27_Few.f k l0 l1 l2 l3 l4) r ∧ (r = true → Small l0 l1 l2 l3 l4) := by
  obtain ⟨r, hr, h⟩ := few_loop l0 l1 l2 l3 l4 hl l4.length 0 (by omega) (by omega)
  exact ⟨r, hr, fun e => ⟨(h e).1.1, (h e).1.2.1, (h e).1.2.2.1, (h e).1.2.2.2.1, (h e).1.2.2.2.2, (h e).2⟩⟩
/-- The function of a small sketch. -/
theorem func_ok {x : S36} (hx : WS36 x) (hs : Small x.f0 x.f1 x.f2 x.f3 x.f4) : ∃ (nm : ByteArray) (ws rt : List Int) (ar : List S75) (st : List S77) (bl : List S66) (n : Nat), (∀ k, jacquardref27_Func.f k x.f0 x.f1 x.f2 x.f3 x.f4 = some (nm, ws, ar, st, rt, bl)) ∧ G0 bl n := by
  obtain ⟨w0, w1, w2, w3, w4⟩ := k36_wf hx
  have two : ∀ y, WS73 y → TwoIn y := fun y h => ⟨u8 (k73_wf h).1, u8 (k73_wf h).2⟩
  have stp : ∀ y, WS88 y → StepIn y := fun y h => by
    obtain ⟨a0, a1, a2, a3, a4, _⟩ := k88_wf h
    exact ⟨u8 a0, u8 a1, u8 a2, u8 a3, u8 a4⟩
  have prt : ∀ p ∈ x.f4, PartIn p := fun p hp => by
    obtain ⟨a0, a1, a2, a3, a4, a5, _⟩ := k80_wf (w4.2.2 p hp)
    obtain ⟨s0, s1⟩ := hs.hp p hp
    exact ⟨⟨s0, fun v hv => u8 (a0.2.2 v hv)⟩, ⟨s1, fun y hy => stp y (a1.2.2 y hy)⟩, u8 a2, u8 a3, u8 a4, u8 a5⟩
  obtain ⟨F, n, e, B, _⟩ := mkFunc_ok ⟨hs.h0, fun y hy => u8 (w0.2.2 y hy)⟩ ⟨hs.h1, fun y hy => two y (w1.2.2 y hy)⟩ ⟨hs.h2, fun y hy => two y (w2.2.2 y hy)⟩ ⟨hs.h3, fun y hy => u8 (w3.2.2 y hy)⟩ ⟨hs.h4, prt⟩
  refine ⟨F.nm, F.ws, F.rt, F.ar, F.st, F.bl, n, fun k => by unfold jacquardref27_Func.f; rw [e]; rfl, ⟨B.hn, B.n1, fun b b0 b1 => ?_, fun b b0 b1 hk => ?_⟩⟩
  · have t := B.T b b0 b1
    refine ⟨?_, fun e he => (t.1 e he).1⟩
    rcases t.2 with h | h | h
    · exact Nat.le_trans (Nat.le_of_eq h.2.2.1) (by omega)
    · exact Nat.le_of_eq h.2.2.1
    · have : toOf F.bl b = [] := h.2.2.1
      rw [this]; simp
  · rcases (B.T b b0 b1).2 with h | h | h
    · exact absurd (hk.symm.trans h.1) (by decide)
    · exact h.2.2.1
    · exact absurd (hk.symm.trans h.1) (by decide)

theorem few200_ok (l0 : List Int) (l1 l2 : List S73) (l3 : List Int) (l4 : List S80) (c : List Int) (hl : l4.length ≤ 140737488351232) : ∃ r, Ev (fun k => jacquardlaw36_few.f k l0 l1 l2 l3 l4 c) r ∧ (r = true → Small l0 l1 l2 l3 l4 ∧ c.length ≤ 200) := by
  obtain ⟨r, hr, h⟩ := few_ok l0 l1 l2 l3 l4 hl
  cases r with
  | false => exact ⟨false, Ev.congr (fun k => by unfold jacquardlaw36_few.f; rfl) (Ev.bind hr (Ev.congr (f := fun _ => some false) (fun k => if_neg Bool.false_ne_true) (Ev.now _))), fun h => absurd h Bool.false_ne_true⟩
  | true => exact ⟨decide ((c.length : Int) ≤ 200), Ev.congr (fun k => by unfold jacquardlaw36_few.f; rfl) (Ev.bind hr (Ev.congr (f := fun _ => some (decide ((c.length : Int) ≤ 200))) (fun k => by rw [if_pos rfl]) (Ev.now _))), fun e => ⟨h rfl, by have := of_decide_eq_true e; omega⟩⟩
theorem two_b {l : List S73} (h : ∀ y ∈ l, WS73 y) : ∀ x ∈ l, TwoB x := fun x hx => ⟨u8 (k73_wf (h x hx)).1, u8 (k73_wf (h x hx)).2⟩

section
variable {nm : ByteArray} {ws rt : List Int} {ar : List S75} {st : List S77} {bl : List S66} {sc : List S49} {n : Nat}
theorem has_loop (a : List Int) (b : Int) (hl : a.length ≤ 100000) (d : Nat) : ∀ i : Int, 0 ≤ i → i + d = a.length → Ev (fun k => jacquardref08_Has.l0 k a b i) (decide (b ∈ a.drop i.toNat)) := by
  induction d with
  | zero =>
    intro i h0 hi
    rw [drop_end (by omega)]
    refine Ev.step (f := fun _ => some false) (fun k => ?_) (by simpa using Ev.now false)
    simp only [jacquardref08_Has.l0]
    rw [if_neg (by omega)]
  | succ d ih =>
    intro i h0 hi
    rw [drop_i h0 (by omega)]
    by_cases hb : rd a i = b
    · rw [decide_eq_true (show b ∈ rd a i :: a.drop (i + 1).toNat by rw [hb]; exact List.mem_cons_self)]
      refine Ev.step (f := fun _ => some true) (fun k => ?_) (Ev.now _)
      simp only [jacquardref08_Has.l0]
      rw [if_pos (by omega), if_pos h0, if_pos hb]
    · have e : decide (b ∈ rd a i :: a.drop (i + 1).toNat) = decide (b ∈ a.drop (i + 1).toNat) := by
        rw [decide_eq_decide, List.mem_cons]
        exact ⟨fun h => h.elim (fun h => absurd h.symm hb) id, .inr⟩
      rw [e]
      refine Ev.step (fun k => ?_) (ih (i + 1) (by omega) (by omega))
      simp only [jacquardref08_Has.l0]
      rw [if_pos (by omega), if_pos h0, if_neg hb, w64 (by omega) (by omega)]
theorem has_ok (a : List Int) (b : Int) (hl : a.length ≤ 100000) : Ev (fun k => jacquardref08_Has.f k a b) (decide (b ∈ a)) :=
  Ev.congr (fun k => rfl) (has_loop a b hl a.length 0 (by omega) (by omega))
/-- One block among the successors: the edges from j on are looked at. -/
theorem succs_inner (G : Gr bl sc n) {a : Int} (ha : 0 ≤ a ∧ a < (n : Int)) (s : Int) (hs : 0 ≤ s ∧ s < (n : Int)) (d : Nat) : ∀ (j : Int) (out : List Int), 0 ≤ j → j + d = (toOf bl a).length → out.length ≤ 1000 + j →
    ∃ out', (∀ c, c ∈ out' ↔ c ∈ out ∨ c = s ∧ ((toOf bl a).drop j.toNat).any (fun e => e.f0 == s) = true) ∧ out'.length ≤ out.length + d ∧ ∀ R, Ev (fun k => jacquardref08_Succs.l0 k a out' (s + 1) nm ws ar st rt bl) R → Ev (fun k => jacquardref08_Succs.l1 k a out s j nm ws ar st rt bl) R := by
  have hn := G.hn
  have n1 := G.n1
  have hT := (G.T a ha.1 ha.2).1
  have ws1 : wrap64 (s + 1) = s + 1 := w64 (by omega) (by omega)
  induction d with
  | zero =>
    intro j out h0 hj ho
    refine ⟨out, fun c => by rw [drop_end (by omega)]; simp, by omega, fun R h => Ev.step (fun k => ?_) h⟩
    simp only [jacquardref08_Succs.l1]
    rw [if_pos ha.1, if_pos (by omega), if_neg (show ¬ j < ((rd_T66 bl a).f2.f2.length : Int) from by show ¬ j < ((toOf bl a).length : Int); omega), ws1]
  | succ d ih =>
    intro j out h0 hj ho
    have hjl : j < ((rd_T66 bl a).f2.f2.length : Int) := by show j < ((toOf bl a).length : Int); omega
    have wj : wrap64 (j + 1) = j + 1 := w64 (by omega) (by omega)
    have dr := drop_e (xs := toOf bl a) h0 hjl
    by_cases he : (rd_T71 (toOf bl a) j).f0 = s
    · have he' : (rd_T71 (rd_T66 bl a).f2.f2 j).f0 = s := he
      have any1 : ((toOf bl a).drop j.toNat).any (fun e => e.f0 == s) = true := by rw [dr, List.any_cons, beq_iff_eq.mpr he, Bool.true_or]
      by_cases hm : s ∈ out
      · obtain ⟨out', h1, h2, h3⟩ := ih (j + 1) out (by omega) (by omega) (by omega)
        refine ⟨out', fun c => ?_, by omega, fun R h => Ev.step (fun k => by simp only [jacquardref08_Succs.l1]; rw [if_pos ha.1, if_pos (by omega), if_pos hjl, if_pos h0, if_pos he']) (Ev.bind (has_ok out s (by omega)) ?_)⟩
        · rw [h1 c, any1]
          constructor
          · rintro (h | ⟨rfl, _⟩)
            · exact .inl h
            · exact .inl hm
          · rintro (h | ⟨rfl, _⟩)
            · exact .inl h
            · exact .inl hm
        · rw [decide_eq_true hm]
          exact Ev.congr (f := fun k => jacquardref08_Succs.l1 k a out s (j + 1) nm ws ar st rt bl) (fun k => by rw [if_pos rfl, wj]) (h3 R h)
      · obtain ⟨out', h1, h2, h3⟩ := ih (j + 1) (out ++ [s]) (by omega) (by omega) (by simp; omega)
        rw [List.length_append, List.length_singleton] at h2
        refine ⟨out', fun c => ?_, by omega, fun R h => Ev.step (fun k => by simp only [jacquardref08_Succs.l1]; rw [if_pos ha.1, if_pos (by omega), if_pos hjl, if_pos h0, if_pos he']) (Ev.bind (has_ok out s (by omega)) ?_)⟩
        · rw [h1 c, any1, List.mem_append, List.mem_singleton]
          constructor
          · rintro ((h | h) | ⟨h, _⟩)
            · exact .inl h
            · exact .inr ⟨h, rfl⟩
            · exact .inr ⟨h, rfl⟩
          · rintro (h | ⟨h, _⟩)
            · exact .inl (.inl h)
            · exact .inl (.inr h)
        · rw [decide_eq_false hm]
          exact Ev.congr (f := fun k => jacquardref08_Succs.l1 k a (out ++ [s]) s (j + 1) nm ws ar st rt bl) (fun k => by rw [if_neg Bool.false_ne_true, if_pos (by omega), wj]) (h3 R h)
    · have he' : ¬ (rd_T71 (rd_T66 bl a).f2.f2 j).f0 = s := he
      have any1 : ((toOf bl a).drop j.toNat).any (fun e => e.f0 == s) = ((toOf bl a).drop (j + 1).toNat).any (fun e => e.f0 == s) := by rw [dr, List.any_cons, beq_eq_false_iff_ne.mpr he, Bool.false_or]
      obtain ⟨out', h1, h2, h3⟩ := ih (j + 1) out (by omega) (by omega) (by omega)
      refine ⟨out', fun c => by rw [h1 c, any1], by omega, fun R h => Ev.step (fun k => ?_) (h3 R h)⟩
      simp only [jacquardref08_Succs.l1]
      rw [if_pos ha.1, if_pos (by omega), if_pos hjl, if_pos h0, if_neg he', wj]
theorem succs_loop (G : Gr bl sc n) {a : Int} (ha : 0 ≤ a ∧ a < (n : Int)) (d : Nat) : ∀ (s : Int) (out : List Int), 0 ≤ s → s + d = n → out.length ≤ 2 * s → (∀ c, c ∈ out ↔ (0 ≤ c ∧ c < s) ∧ eB bl a c = true) →
    ∃ R, Ev (fun k => jacquardref08_Succs.l0 k a out s nm ws ar st rt bl) R ∧ R.length ≤ 1000 ∧ ∀ c, c ∈ R ↔ (0 ≤ c ∧ c < (n : Int)) ∧ eB bl a c = true := by
  have hn := G.hn
  have n1 := G.n1
  have hT := (G.T a ha.1 ha.2).1
  induction d with
  | zero =>
    intro s out h0 hs hl hm
    obtain rfl : s = (n : Int) := by omega
    refine ⟨out, Ev.step (f := fun k => jacquardref08_Succs.j1 k a out (n : Int) false nm ws ar st rt bl) (fun k => ?_) (Ev.step (f := fun _ => some out) (fun k => ?_) (Ev.now _)), by omega, hm⟩
    · simp only [jacquardref08_Succs.l0]
      rw [if_pos ha.1, if_pos (by omega), decide_eq_false (by omega)]
    · simp only [jacquardref08_Succs.j1]
      rw [if_neg Bool.false_ne_true]
  | succ d ih =>
    intro s out h0 hs hl hm
    obtain ⟨out', h1, h2, h3⟩ := succs_inner (nm := nm) (ws := ws) (rt := rt) (ar := ar) (st := st) G ha s ⟨h0, by omega⟩ (toOf bl a).length 0 out (by omega) (by omega) (by omega)
    obtain ⟨R, hR, hl2, hm2⟩ := ih (s + 1) out' (by omega) (by omega) (by omega) (fun c => by
        rw [h1 c, hm c]
        constructor
        · rintro (⟨h, e⟩ | ⟨rfl, e⟩)
          · exact ⟨⟨h.1, by omega⟩, e⟩
          · exact ⟨⟨h0, by omega⟩, e⟩
        · rintro ⟨h, e⟩
          by_cases hc : c = s
          · subst hc; exact .inr ⟨rfl, e⟩
          · exact .inl ⟨⟨h.1, by omega⟩, e⟩)
    refine ⟨R, Ev.step (f := fun k => jacquardref08_Succs.j1 k a out s true nm ws ar st rt bl) (fun k => ?_) (Ev.step (fun k => ?_) (h3 R hR)), hl2, hm2⟩
    · simp only [jacquardref08_Succs.l0]
      rw [if_pos ha.1, if_pos (by omega), decide_eq_true (by omega)]
    · simp only [jacquardref08_Succs.j1]
      rw [if_pos trivial]
theorem step_ok (G : Gr bl sc n) {a : Int} (ha : 0 ≤ a ∧ a < (n : Int)) (b : Int) : Ev (fun k => jacquardref36_Step.f k nm ws ar st rt bl a b) (decide (0 ≤ b) && decide (b < (n : Int)) && eB bl a b) := by
  obtain ⟨R, hR, hl, hm⟩ := succs_loop (nm := nm) (ws := ws) (rt := rt) (ar := ar) (st := st) G ha n 0 [] (by omega) (by omega) (by simp) (fun c => by simp; omega)
  have hR' : Ev (fun k => jacquardref08_Succs.f k nm ws ar st rt bl a) R := hR
  refine Ev.congr (fun k => by unfold jacquardref36_Step.f; rfl) (Ev.bind hR' (Ev.bind (has_ok R b (by omega)) ?_))
  have e : decide (b ∈ R) = (decide (0 ≤ b) && decide (b < (n : Int)) && eB bl a b) := by
    rw [Bool.eq_iff_iff, decide_eq_true_eq, hm b, Bool.and_eq_true, Bool.and_eq_true, decide_eq_true_eq, decide_eq_true_eq]
  rw [e]
  exact Ev.now _
theorem path_loop (G : Gr bl sc n) (p : List Int) (hp : p.length ≤ 1000) (d : Nat) : ∀ (i b : Int), 1 ≤ i → i + d = p.length → rd p (i - 1) = b → 0 ≤ b ∧ b < (n : Int) → Ev (fun k => jacquardref36_Path.l0 k p i nm ws ar st rt bl) (okP bl n b (p.drop i.toNat)) := by
  induction d with
  | zero =>
    intro i b h0 hi hb hbn
    rw [drop_end (by omega)]
    refine Ev.step (f := fun _ => some true) (fun k => ?_) (Ev.now _)
    simp only [jacquardref36_Path.l0]
    rw [if_neg (by omega)]
  | succ d ih =>
    intro i b h0 hi hb hbn
    have wj : wrap64 (i - 1) = i - 1 := w64 (by omega) (by omega)
    have wi : wrap64 (i + 1) = i + 1 := w64 (by omega) (by omega)
    rw [drop_i (by omega) (by omega), okP]
    refine Ev.step (fun k => by simp only [jacquardref36_Path.l0]; rw [if_pos (by omega), wj, if_pos (by omega), if_pos (by omega), if_pos (by omega), hb]) (Ev.bind (step_ok G hbn (rd p i)) ?_)
    cases hE : (decide (0 ≤ rd p i) && decide (rd p i < (n : Int)) && eB bl b (rd p i)) with
    | false =>
      rw [Bool.false_and]
      exact Ev.congr (f := fun _ => some false) (fun k => if_neg Bool.false_ne_true) (Ev.now _)
    | true =>
      rw [Bool.true_and]
      rw [Bool.and_eq_true, Bool.and_eq_true, decide_eq_true_eq, decide_eq_true_eq] at hE
      exact Ev.congr (f := fun k => jacquardref36_Path.l0 k p (i + 1) nm ws ar st rt bl) (fun k => by rw [if_pos rfl, wi]) (ih (i + 1) (rd p i) (by omega) (by omega) (by rw [show i + 1 - 1 = i by omega]) hE.1)
theorem path_ok (G : Gr bl sc n) (p : List Int) (hp : p.length ≤ 1000) : Ev (fun k => jacquardref36_Path.f k nm ws ar st rt bl sc p) (match p with
    | [] => false
    | b :: l => decide (b = 0) && okP bl n 0 l) := by
  have hn := G.hn
  have hs := G.hs
  have n1 := G.n1
  have bad : Ev (fun k => jacquardref36_Path.j0 k p true nm ws ar st rt bl) false := Ev.step (f := fun _ => some false) (fun k => by simp only [jacquardref36_Path.j0]; rw [if_pos trivial]) (Ev.now _)
  cases p with
  | nil =>
    refine Ev.congr (fun k => ?_) bad
    unfold jacquardref36_Path.f
    rw [if_pos (by omega), if_pos (show (([] : List Int).length : Int) = 0 from rfl)]
  | cons b l =>
    dsimp only
    have e0 : rd (b :: l) 0 = b := rfl
    have el : ((b :: l).length : Int) = l.length + 1 := by simp
    by_cases hb : b = 0
    · subst hb
      rw [decide_eq_true rfl, Bool.true_and]
      have ne : ((bl.length : Int) == 0) = false := beq_eq_false_iff_ne.mpr (by omega)
      refine Ev.congr (f := fun k => jacquardref36_Path.j0 k (0 :: l) false nm ws ar st rt bl) (fun k => ?_) (Ev.step (fun k => ?_) (path_loop (nm := nm) (ws := ws) (rt := rt) (ar := ar) (st := st) G (0 :: l) hp l.length 1 0 (by omega) (by omega) rfl ⟨by omega, by omega⟩))
      · unfold jacquardref36_Path.f
        rw [if_pos (by omega), if_neg (by omega), if_pos (by omega), e0, if_pos rfl, ne]
      · simp only [jacquardref36_Path.j0]
        rw [if_neg Bool.false_ne_true]
    · rw [decide_eq_false hb, Bool.false_and]
      refine Ev.congr (fun k => ?_) bad
      unfold jacquardref36_Path.f
      rw [if_pos (by omega), if_neg (by omega), if_pos (by omega), e0, if_neg hb]
/-- What Split refuses, Count and Issues refuse. -/
theorem refused {p : List Int} (h : Ev (fun k => cycles_Split.f k nm ws ar st rt bl sc p) ([], 3)) : Ev (fun k => cycles_Count.f k nm ws ar st rt bl sc p) (0, 3) ∧ Ev (fun k => cycles_Issues.f k nm ws ar st rt bl sc p) ([], 3) := by
  constructor
  · refine Ev.congr (fun k => by unfold cycles_Count.f; rfl) (Ev.bind h ?_)
    exact Ev.congr (f := fun _ => some (0, 3)) (fun k => if_neg (by decide)) (Ev.now _)
  · refine Ev.congr (fun k => by unfold cycles_Issues.f; rfl) (Ev.bind h ?_)
    exact Ev.congr (f := fun _ => some ([], 3)) (fun k => if_neg (by decide)) (Ev.now _)
end
theorem CyclesRefuses : jacquardlaw36_CyclesRefuses.Pure := by
  intro x l p hx hl hp
  have hx4 := (k36_wf hx).2.2.2.2.2.1
  refine Ev.rounds (g := fun k => jacquardlaw36_CyclesRefuses.f k x.f0 x.f1 x.f2 x.f3 x.f4 l p) ?_
  have skip : Ev (fun k => jacquardlaw36_CyclesRefuses.j0 k l p true x.f0 x.f1 x.f2 x.f3 x.f4) true :=
    Ev.step (fun k => by simp only [jacquardlaw36_CyclesRefuses.j0, if_true]) (Ev.bind awake_ok (Ev.now true))
  obtain ⟨r, hr, hs⟩ := few_ok x.f0 x.f1 x.f2 x.f3 x.f4 (by omega)
  refine Ev.congr (fun k => by unfold jacquardlaw36_CyclesRefuses.f; rfl) (Ev.bind awake_ok ?_)
  simp only [if_true]
  refine Ev.bind hr ?_
  cases r with
  | false =>
    simp only [Bool.false_eq_true, if_false]
    exact skip
  | true =>
    simp only [if_true]
    by_cases hp2 : (p.length : Int) > 100
    · rw [decide_eq_true hp2]
      exact skip
    rw [decide_eq_false hp2]
    obtain ⟨nm, ws, rt, ar, st, bl, n, hF, G⟩ := func_ok hx (hs rfl)
    obtain ⟨sc, hsc, Gs⟩ := scheds_ok (nm := nm) (ws := ws) (rt := rt) (ar := ar) (st := st) G (two_b hl.2.2) (by have := hl.2.1; omega)
    have hn := Gs.hn
    have hls := Gs.hs
    have n1 := Gs.n1
    have short : Ev (fun k => cycles_Split.f k nm ws ar st rt bl (sc.drop 1) [0]) ([], 3) := by
      refine Ev.congr (f := fun k => cycles_Split.j0 k (sc.drop 1) [0] true nm ws ar st rt bl) (fun k => ?_) (Ev.step (f := fun _ => some ([], 3)) (fun k => by simp only [cycles_Split.j0]; rw [if_pos trivial]) (Ev.now _))
      unfold cycles_Split.f
      rw [if_neg (by rw [List.length_drop]; omega)]
    have S := split_ok (nm := nm) (ws := ws) (rt := rt) (ar := ar) (st := st) Gs p (by omega)
    have PT := path_ok (nm := nm) (ws := ws) (rt := rt) (ar := ar) (st := st) Gs p (by omega)
    have first : ∀ {f : Nat → Option Bool}, Ev f true → (∀ k, jacquardlaw36_CyclesRefuses.j0 (k + 1) l p false x.f0 x.f1 x.f2 x.f3 x.f4 = f k) → Ev (fun k => jacquardlaw36_CyclesRefuses.j0 k l p false x.f0 x.f1 x.f2 x.f3 x.f4) true := fun h e => Ev.step e h
    have no : ∀ {c}, Ev (fun k => cycles_Split.f k nm ws ar st rt bl sc p) ([], 3) → Ev (fun k => jacquardref36_Path.f k nm ws ar st rt bl sc p) c → c = false → Ev (fun k => jacquardlaw36_CyclesRefuses.j0 k l p false x.f0 x.f1 x.f2 x.f3 x.f4) true := fun hS hP hc => by
      subst hc
      obtain ⟨hC, hI⟩ := refused hS
      refine Ev.step (fun k => by simp only [jacquardlaw36_CyclesRefuses.j0]; rw [if_neg Bool.false_ne_true, hF, Option.bind_some]) (Ev.bind hsc (Ev.bind hS (Ev.bind hC (Ev.bind hI ?_))))
      refine Ev.congr (fun k => if_pos (by omega)) (Ev.bind short ?_)
      refine Ev.congr (fun k => if_pos rfl) (Ev.bind hP ?_)
      exact Ev.congr (f := fun _ => some true) (fun k => by rw [if_neg Bool.false_ne_true, if_pos rfl, if_pos rfl]; rfl) (Ev.now true)
    cases p with
    | nil => exact no S PT rfl
    | cons b q =>
      dsimp only at S PT
      by_cases hb : b = 0 ∧ okP bl n 0 q = true
      · obtain ⟨rfl, ho⟩ := hb
        rw [if_pos ⟨rfl, ho⟩] at S
        rw [ho, decide_eq_true rfl, Bool.true_and] at PT
        have P : OkPath bl n q := ⟨ho, by simp at hp2; omega⟩
        have el : ((0 :: q : List Int).length : Int) = q.length + 1 := by simp
        have wl : wrap64 (((0 :: q : List Int).length : Int) - 1) = (q.length : Int) := by rw [w64 (by omega) (by omega)]; omega
        have hlr := lst_range (n := n) q 0 ⟨by omega, by omega⟩ ho
        refine Ev.step (fun k => by simp only [jacquardlaw36_CyclesRefuses.j0]; rw [if_neg Bool.false_ne_true, hF, Option.bind_some]) (Ev.bind hsc (Ev.bind S (Ev.bind (P.count Gs) (Ev.bind (P.issues Gs) ?_))))
        refine Ev.congr (fun k => if_pos (by omega)) (Ev.bind short ?_)
        refine Ev.congr (fun k => if_pos rfl) (Ev.bind PT ?_)
        refine Ev.congr (f := fun _ => some true) (fun k => ?_) (Ev.now true)
        rw [if_pos rfl, wl, if_pos (by omega), if_pos (by omega), lst_rd, if_pos hlr.1, if_pos (by dsimp only; omega), if_pos rfl, if_pos rfl]
        dsimp only
        by_cases hk : (rd_T66 bl (lst 0 q)).f2.f0 = 3
        · rw [if_pos hk, hk]; rfl
        · rw [if_neg hk, beq_eq_false_iff_ne.mpr hk]; rfl
      · rw [if_neg hb] at S
        refine no S PT ?_
        by_cases b0 : b = 0
        · rw [decide_eq_true b0, Bool.true_and]
          cases h : okP bl n 0 q
          · rfl
          · exact absurd ⟨b0, h⟩ hb
        · rw [decide_eq_false b0, Bool.false_and]

end Go.Proofs.Ytmefaegcoogmiaa.Pure
