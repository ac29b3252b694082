/- The law CyclesIssues holds: visits of a pipelined block begin II cycles apart, and it is left Depth cycles behind the last one; no condition. -/
import Derived.Test.YtmefaegcoogmiaaQCyclesIssues
import Derived.Test.YtmefaegcoogmiaaMkOk
import Derived.Test.YtmefaegcoogmiaaPureI
import Derived.Test.YtmefaegcoogmiaaPureV
import Derived.Test.YtmefaegcoogmiaaF12
namespace Go.Proofs.Ytmefaegcoogmiaa.Pure
open Go.RowKit Go.Proofs.Ytmefaegcoogmiaa.PAll Go.Proofs.YtmefaegcoogmiaaW.PrintWords Go.Proofs.YtmefaegcoogmiaaW.PrintLast

/-! ### a law's beginning -/
theorem u8 {y : Int} (h : (Lit.int .u8 y).wf = true) : 0 ≤ y ∧ y ≤ 255 := by
  simp [Lit.wf, IntKind.min, IntKind.max, IntKind.signed, IntKind.bits] at h
  omega
/-- A sketch is of a size that is looked at. -/
structure Small (l0 : List Int) (l1 l2 : List S73) (l3 : List Int) (l4 : List S80) : Prop where
  h0 : l0.length ≤ 4
  h1 : l1.length ≤ 3
  h2 : l2.length ≤ 4
  h3 : l3.length ≤ 3
  h4 : l4.length ≤ 5
  hp : ∀ p ∈ l4, p.f0.length ≤ 5 ∧ p.f1.length ≤ 14
theorem drop_80 {xs : List S80} {i : Int} (h0 : 0 ≤ i) (h1 : i < xs.length) : xs.drop i.toNat = rd_T80 xs i :: xs.drop (i + 1).toNat := by
  unfold rd_T80
  rw [List.getD_eq_getElem?_getD, List.getElem?_eq_getElem (show i.toNat < xs.length by omega), show (i + 1).toNat = i.toNat + 1 by omega]
  exact List.drop_eq_getElem_cons (by omega)
theorem few_loop (l0 : List Int) (l1 l2 : List S73) (l3 : List Int) (l4 : List S80) (hl : l4.length ≤ 140737488351232) (d : Nat) : ∀ i : Int, 0 ≤ i → i + d = l4.length →
    ∃ r, Ev (fun k => jacquardref27_Few.l0 k i l0 l1 l2 l3 l4) r ∧ (r = true → (l0.length ≤ 4 ∧ l1.length ≤ 3 ∧ l2.length ≤ 4 ∧ l3.length ≤ 3 ∧ l4.length ≤ 5) ∧ ∀ p ∈ l4.drop i.toNat, p.f0.length ≤ 5 ∧ p.f1.length ≤ 14) := by
  induction d with
  | zero =>
    intro i h0 hi
    rw [drop_end (by omega)]
    by_cases a0 : (l0.length : Int) ≤ 4
    case neg => exact ⟨false, Ev.step (f := fun _ => some false) (fun k => by simp only [jacquardref27_Few.l0]; rw [if_neg (by omega), if_neg a0]) (Ev.now _), fun h => absurd h Bool.false_ne_true⟩
    by_cases a1 : (l1.length : Int) ≤ 3
    case neg => exact ⟨false, Ev.step (f := fun _ => some false) (fun k => by simp only [jacquardref27_Few.l0]; rw [if_neg (by omega), if_pos a0, if_neg a1]) (Ev.now _), fun h => absurd h Bool.false_ne_true⟩
    by_cases a2 : (l2.length : Int) ≤ 4
    case neg => exact ⟨false, Ev.step (f := fun _ => some false) (fun k => by simp only [jacquardref27_Few.l0]; rw [if_neg (by omega), if_pos a0, if_pos a1, if_neg a2]) (Ev.now _), fun h => absurd h Bool.false_ne_true⟩
    by_cases a3 : (l3.length : Int) ≤ 3
    case neg => exact ⟨false, Ev.step (f := fun _ => some false) (fun k => by simp only [jacquardref27_Few.l0]; rw [if_neg (by omega), if_pos a0, if_pos a1, if_pos a2, if_neg a3]) (Ev.now _), fun h => absurd h Bool.false_ne_true⟩
    refine ⟨decide ((l4.length : Int) ≤ 5), Ev.step (f := fun _ => some (decide ((l4.length : Int) ≤ 5))) (fun k => by simp only [jacquardref27_Few.l0]; rw [if_neg (by omega), if_pos a0, if_pos a1, if_pos a2, if_pos a3]) (Ev.now _), fun h => ⟨⟨by omega, by omega, by omega, by omega, by have := of_decide_eq_true h; omega⟩, by simp⟩⟩
  | succ d ih =>
    intro i h0 hi
    rw [drop_80 h0 (by omega)]
    by_cases a0 : ((rd_T80 l4 i).f0.length : Int) > 5
    · exact ⟨false, Ev.step (f := fun _ => some false) (fun k => by simp only [jacquardref27_Few.l0]; rw [if_pos (by omega), if_pos h0, if_pos a0]) (Ev.now _), fun h => absurd h Bool.false_ne_true⟩
    by_cases a1 : ((rd_T80 l4 i).f1.length : Int) > 14
    · exact ⟨false, Ev.step (f := fun _ => some false) (fun k => by simp only [jacquardref27_Few.l0]; rw [if_pos (by omega), if_pos h0, if_neg a0, if_pos a1]) (Ev.now _), fun h => absurd h Bool.false_ne_true⟩
    obtain ⟨r, hr, h⟩ := ih (i + 1) (by omega) (by omega)
    refine ⟨r, Ev.step (fun k => ?_) hr, fun e => ⟨(h e).1, fun p hp => ?_⟩⟩
    · simp only [jacquardref27_Few.l0]
      rw [if_pos (by omega), if_pos h0, if_neg a0, if_neg a1, w64 (by omega) (by omega)]
    · rcases List.mem_cons.mp hp with rfl | hp
      · omega
      · exact (h e).2 p hp
theorem few_ok (l0 : List Int) (l1 l2 : List S73) (l3 : List Int) (l4 : List S80) (hl : l4.length ≤ 140737488351232) : ∃ r, Ev (fun k => jacquardref27_Few.f k l0 l1 l2 l3 l4) r ∧ (r = true → Small l0 l1 l2 l3 l4) := by
  obtain ⟨r, hr, h⟩ := few_loop l0 l1 l2 l3 l4 hl l4.length 0 (by omega) (by omega)
  exact ⟨r, hr, fun e => ⟨(h e).1.1, (h e).1.2.1, (h e).1.2.2.1, (h e).1.2.2.2.1, (h e).1.2.2.2.2, (h e).2⟩⟩
/-- The function of a small sketch. -/
theorem func_ok {x : S36} (hx : WS36 x) (hs : Small x.f0 x.f1 x.f2 x.f3 x.f4) : ∃ (nm : ByteArray) (ws rt : List Int) (ar : List S75) (st : List S77) (bl : List S66) (n : Nat), (∀ k, jacquardref27_Func.f k x.f0 x.f1 x.f2 x.f3 x.f4 = some (nm, ws, ar, st, rt, bl)) ∧ G0 bl n := by
  obtain ⟨w0, w1, w2, w3, w4⟩ := k36_wf hx
  have two : ∀ y, WS73 y → TwoIn y := fun y h => ⟨u8 (k73_wf h).1, u8 (k73_wf h).2⟩
  have stp : ∀ y, WS88 y → StepIn y := fun y h => by
    obtain ⟨a0, a1, a2, a3, a4, _⟩ := k88_wf h
    exact ⟨u8 a0, u8 a1, u8 a2, u8 a3, u8 a4⟩
  have prt : ∀ p ∈ x.f4, PartIn p := fun p hp => by
    obtain ⟨a0, a1, a2, a3, a4, a5, _⟩ := k80_wf (w4.2.2 p hp)
    obtain ⟨s0, s1⟩ := hs.hp p hp
    exact ⟨⟨s0, fun v hv => u8 (a0.2.2 v hv)⟩, ⟨s1, fun y hy => stp y (a1.2.2 y hy)⟩, u8 a2, u8 a3, u8 a4, u8 a5⟩
  obtain ⟨F, n, e, B, _⟩ := mkFunc_ok ⟨hs.h0, fun y hy => u8 (w0.2.2 y hy)⟩ ⟨hs.h1, fun y hy => two y (w1.2.2 y hy)⟩ ⟨hs.h2, fun y hy => two y (w2.2.2 y hy)⟩ ⟨hs.h3, fun y hy => u8 (w3.2.2 y hy)⟩ ⟨hs.h4, prt⟩
  refine ⟨F.nm, F.ws, F.rt, F.ar, F.st, F.bl, n, fun k => by unfold jacquardref27_Func.f; rw [e]; rfl, ⟨B.hn, B.n1, fun b b0 b1 => ?_, fun b b0 b1 hk => ?_⟩⟩
  · have t := B.T b b0 b1
    refine ⟨?_, fun e he => (t.1 e he).1⟩
    rcases t.2 with h | h | h
    · exact Nat.le_trans (Nat.le_of_eq h.2.2.1) (by omega)
    · exact Nat.le_of_eq h.2.2.1
    · have : toOf F.bl b = [] := h.2.2.1
      rw [this]; simp
  · rcases (B.T b b0 b1).2 with h | h | h
    · exact absurd (hk.symm.trans h.1) (by decide)
    · exact h.2.2.1
    · exact absurd (hk.symm.trans h.1) (by decide)

theorem few200_ok (l0 : List Int) (l1 l2 : List S73) (l3 : List Int) (l4 : List S80) (c : List Int) (hl : l4.length ≤ 140737488351232) : ∃ r, Ev (fun k => jacquardlaw36_few.f k l0 l1 l2 l3 l4 c) r ∧ (r = true → Small l0 l1 l2 l3 l4 ∧ c.length ≤ 200) := by
  obtain ⟨r, hr, h⟩ := few_ok l0 l1 l2 l3 l4 hl
  cases r with
  | false => exact ⟨false, Ev.congr (fun k => by unfold jacquardlaw36_few.f; rfl) (Ev.bind hr (Ev.congr (f := fun _ => some false) (fun k => if_neg Bool.false_ne_true) (Ev.now _))), fun h => absurd h Bool.false_ne_true⟩
  | true => exact ⟨decide ((c.length : Int) ≤ 200), Ev.congr (fun k => by unfold jacquardlaw36_few.f; rfl) (Ev.bind hr (Ev.congr (f := fun _ => some (decide ((c.length : Int) ≤ 200))) (fun k => by rw [if_pos rfl]) (Ev.now _))), fun e => ⟨h rfl, by have := of_decide_eq_true e; omega⟩⟩
theorem two_b {l : List S73} (h : ∀ y ∈ l, WS73 y) : ∀ x ∈ l, TwoB x := fun x hx => ⟨u8 (k73_wf (h x hx)).1, u8 (k73_wf (h x hx)).2⟩

theorem issL_at (sc : List S49) : ∀ (l : List Int) (b t : Int) (i : Nat), i < l.length → rd (issL sc t (b :: l)) ((i : Int) + 1) - rd (issL sc t (b :: l)) (i : Int) = if rd (b :: l) ((i : Int) + 1) = rd (b :: l) (i : Int) ∧ 0 < iiOf sc (rd (b :: l) (i : Int)) then iiOf sc (rd (b :: l) (i : Int)) else dpOf sc (rd (b :: l) (i : Int))
  | [], _, _, _, h => absurd h (by simp)
  | c :: l, b, t, 0, _ => by
    have e0 : rd (issL sc t (b :: c :: l)) ((0 : Nat) : Int) = t := rfl
    have e1 : rd (issL sc t (b :: c :: l)) (((0 : Nat) : Int) + 1) = t + costOf sc b (c :: l) := rfl
    have e2 : rd (b :: c :: l) ((0 : Nat) : Int) = b := rfl
    have e3 : rd (b :: c :: l) (((0 : Nat) : Int) + 1) = c := rfl
    rw [e0, e1, e2, e3]
    show t + (if c = b ∧ 0 < iiOf sc b then iiOf sc b else dpOf sc b) - t = _
    omega
  | c :: l, b, t, i + 1, h => by
    have s : ∀ (x : Int) (m : List Int) (j : Nat), rd (x :: m) ((j : Int) + 1) = rd m (j : Int) := fun x m j => by
      unfold rd
      rw [show ((j : Int) + 1).toNat = j + 1 by omega, Int.toNat_natCast]
      rfl
    have s2 : ∀ (x : Int) (m : List Int) (j : Nat), rd (x :: m) ((j : Int) + 1 + 1) = rd m ((j : Int) + 1) := fun x m j => by
      have := s x m (j + 1)
      rw [show (((j + 1 : Nat)) : Int) = (j : Int) + 1 by omega] at this
      exact this
    have e := issL_at sc l c (t + costOf sc b (c :: l)) i (by simp at h; omega)
    rw [show (((i + 1 : Nat) : Int)) = (i : Int) + 1 by omega, issL]
    simp only [s2, s]
    exact e
theorem issL_in (sc : List S49) {n : Nat} {bl : List S66} (G : Gr bl sc n) : ∀ (l : List Int) (t : Int), 0 ≤ t → (∀ c ∈ l, 0 ≤ c ∧ c < (n : Int)) → ∀ x ∈ issL sc t l, 0 ≤ x ∧ x ≤ t + 20 * l.length
  | [], _, _, _ => by simp [issL]
  | b :: l, t, ht, hl => by
    have c := cost_in G (hl b (List.mem_cons_self)) l
    intro x hx
    rw [issL] at hx
    rw [List.length_cons]
    rcases List.mem_cons.mp hx with rfl | hx
    · omega
    · have := issL_in sc G l (t + costOf sc b l) (by omega) (fun c hc => hl c (List.mem_cons_of_mem _ hc)) x hx
      omega
theorem rd_in {l : List Int} {P : Int → Prop} (h : ∀ x ∈ l, P x) {i : Int} (h0 : 0 ≤ i) (h1 : i < (l.length : Int)) : P (rd l i) := by
  refine h _ ?_
  unfold rd
  rw [List.getD_eq_getElem?_getD, List.getElem?_eq_getElem (show i.toNat < l.length by omega)]
  exact List.getElem_mem _
theorem law_loop {nm : ByteArray} {ws rt : List Int} {ar : List S75} {st : List S77} {bl : List S66} {sc : List S49} {n : Nat} (G : Gr bl sc n) (q : List Int) (hq : q.length ≤ 200) (hr : ∀ c ∈ (0 :: q : List Int), 0 ≤ c ∧ c < (n : Int)) (d : Nat) : ∀ i : Int, 1 ≤ i → i + d = ((0 :: q : List Int).length : Int) →
    Ev (fun k => jacquardlaw36_CyclesIssues.l0 k sc (0 :: q) (issL sc 1 (0 :: q)) i nm ws ar st rt bl) true := by
  have el : ((0 :: q : List Int).length : Int) = q.length + 1 := by simp
  have ei : ((issL sc 1 (0 :: q)).length : Int) = q.length + 1 := by rw [issL_len]; exact el
  have hls := G.hs
  induction d with
  | zero =>
    intro i h0 hi
    refine Ev.step (f := fun _ => some true) (fun k => ?_) (Ev.now _)
    simp only [jacquardlaw36_CyclesIssues.l0]
    rw [if_neg (by omega)]
  | succ d ih =>
    intro i h0 hi
    have I := ih (i + 1) (by omega) (by omega)
    have wj : wrap64 (i - 1) = i - 1 := w64 (by omega) (by omega)
    have wi : wrap64 (i + 1) = i + 1 := w64 (by omega) (by omega)
    have ra := rd_in hr (i := i - 1) (by omega) (by omega)
    have rb := rd_in hr (i := i) (by omega) (by omega)
    have ia := rd_in (issL_in sc G (0 :: q) 1 (by omega) hr) (i := i - 1) (by omega) (by omega)
    have ib := rd_in (issL_in sc G (0 :: q) 1 (by omega) hr) (i := i) (by omega) (by omega)
    have D := issL_at sc q 0 1 (i - 1).toNat (by omega)
    rw [show (((i - 1).toNat : Nat) : Int) = i - 1 by omega, show i - 1 + 1 = i by omega] at D
    have wd : wrap64 (rd (issL sc 1 (0 :: q)) i - rd (issL sc 1 (0 :: q)) (i - 1)) = rd (issL sc 1 (0 :: q)) i - rd (issL sc 1 (0 :: q)) (i - 1) := w64 (by omega) (by omega)
    by_cases he : rd (0 :: q) i = rd (0 :: q) (i - 1)
    · obtain ⟨r, hr1, _, hrs⟩ := self_ok (nm := nm) (ws := ws) (rt := rt) (ar := ar) (st := st) G rb.1 rb.2
      refine Ev.step (fun k => by simp only [jacquardlaw36_CyclesIssues.l0]; rw [if_pos (by omega), wj, if_pos (by omega), if_pos (by omega), if_pos ra.1, if_pos (by omega), if_pos (by omega), if_pos he]) (Ev.bind hr1 ?_)
      by_cases hii : 0 < iiOf sc (rd (0 :: q) i)
      · rw [decide_eq_true (show r ≥ 0 from hrs.mpr hii)]
        rw [if_pos ⟨he, by rw [← he]; exact hii⟩, ← he] at D
        have D' : rd (issL sc 1 (0 :: q)) i - rd (issL sc 1 (0 :: q)) (i - 1) = (rd_T49 sc (rd (0 :: q) i)).f0 := D
        refine Ev.step (fun k => ?_) I
        simp only [jacquardlaw36_CyclesIssues.j3]
        rw [if_pos trivial, if_pos (by omega), if_pos (by omega), if_pos rb.1, if_pos (by omega), if_pos (by omega), wj, if_pos (by omega), if_pos (by omega), wd, if_pos D', wi]
      · rw [decide_eq_false (show ¬ r ≥ 0 from fun h => hii (hrs.mp h))]
        rw [if_neg (fun h => hii (by rw [he]; exact h.2))] at D
        have D' : rd (issL sc 1 (0 :: q)) i - rd (issL sc 1 (0 :: q)) (i - 1) = (rd_T49 sc (rd (0 :: q) (i - 1))).f1 := D
        refine Ev.step (fun k => ?_) I
        simp only [jacquardlaw36_CyclesIssues.j3]
        rw [if_neg Bool.false_ne_true, if_pos (by omega), if_pos (by omega), wj, if_pos (by omega), if_pos (by omega), wd, if_pos D', wi]
    · rw [if_neg (fun h => he h.1)] at D
      have D' : rd (issL sc 1 (0 :: q)) i - rd (issL sc 1 (0 :: q)) (i - 1) = (rd_T49 sc (rd (0 :: q) (i - 1))).f1 := D
      refine Ev.step (f := fun k => jacquardlaw36_CyclesIssues.j3 k sc (0 :: q) (issL sc 1 (0 :: q)) i (rd_T49 sc (rd (0 :: q) (i - 1))).f1 false nm ws ar st rt bl) (fun k => ?_) (Ev.step (fun k => ?_) I)
      · simp only [jacquardlaw36_CyclesIssues.l0]
        rw [if_pos (by omega), wj, if_pos (by omega), if_pos (by omega), if_pos ra.1, if_pos (by omega), if_pos (by omega), if_neg he]
      · simp only [jacquardlaw36_CyclesIssues.j3]
        rw [if_neg Bool.false_ne_true, if_pos (by omega), if_pos (by omega), wj, if_pos (by omega), if_pos (by omega), wd, if_pos D', wi]
theorem CyclesIssues : jacquardlaw36_CyclesIssues.Pure := by
  intro x l c hx hl hc
  have hx4 := (k36_wf hx).2.2.2.2.2.1
  refine Ev.rounds (g := fun k => jacquardlaw36_CyclesIssues.f k x.f0 x.f1 x.f2 x.f3 x.f4 l c) ?_
  have skip : Ev (fun k => jacquardlaw36_CyclesIssues.j0 k l c true x.f0 x.f1 x.f2 x.f3 x.f4) true :=
    Ev.step (fun k => by simp only [jacquardlaw36_CyclesIssues.j0, if_true]) (Ev.bind awake_ok (Ev.now true))
  obtain ⟨r, hr, hs⟩ := few200_ok x.f0 x.f1 x.f2 x.f3 x.f4 c (by omega)
  refine Ev.congr (fun k => by unfold jacquardlaw36_CyclesIssues.f; rfl) (Ev.bind awake_ok ?_)
  simp only [if_true]
  refine Ev.bind hr ?_
  cases r with
  | false => exact skip
  | true =>
    obtain ⟨hs, hc2⟩ := hs rfl
    obtain ⟨nm, ws, rt, ar, st, bl, n, hF, G⟩ := func_ok hx hs
    obtain ⟨sc, hsc, Gs⟩ := scheds_ok (nm := nm) (ws := ws) (rt := rt) (ar := ar) (st := st) G (two_b hl.2.2) (by have := hl.2.1; omega)
    obtain ⟨q, hq, ho, hlq⟩ := walk_ok (nm := nm) (ws := ws) (rt := rt) (ar := ar) (st := st) G (fun y hy => u8 (hc.2.2 y hy)) hc2
    have P : OkPath bl n q := ⟨ho, hlq⟩
    have el : ((0 :: q : List Int).length : Int) = q.length + 1 := by simp
    have ei : ((issL sc 1 (0 :: q)).length : Int) = q.length + 1 := by rw [issL_len]; exact el
    have e1 : (rd (issL sc 1 (0 :: q)) 0 != 1) = false := rfl
    refine Ev.step (fun k => by simp only [jacquardlaw36_CyclesIssues.j0, Bool.not_true]; rw [if_neg Bool.false_ne_true, hF, Option.bind_some]) (Ev.bind hsc (Ev.bind hq (Ev.bind (P.issues Gs) ?_)))
    dsimp only
    refine Ev.congr (f := fun k => jacquardlaw36_CyclesIssues.j1 k sc (0 :: q) (issL sc 1 (0 :: q)) false nm ws ar st rt bl) (fun k => ?_) (Ev.step (fun k => ?_) (law_loop (nm := nm) (ws := ws) (rt := rt) (ar := ar) (st := st) Gs q hlq (P.range Gs) q.length 1 (by omega) (by omega)))
    · rw [if_pos rfl, if_pos (by omega), if_pos (by omega), e1]
    · simp only [jacquardlaw36_CyclesIssues.j1]
      rw [if_neg Bool.false_ne_true]

end Go.Proofs.Ytmefaegcoogmiaa.Pure
