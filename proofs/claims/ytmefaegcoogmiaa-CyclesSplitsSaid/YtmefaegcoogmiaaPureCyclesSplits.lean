/- The law CyclesSplits holds: the stretches of a path make it up again, and their cycles add up to the count; no condition. -/
import Derived.Test.YtmefaegcoogmiaaQCyclesSplits
import Derived.Test.YtmefaegcoogmiaaMkOk
import Derived.Test.YtmefaegcoogmiaaPureW
import Derived.Test.YtmefaegcoogmiaaF12
namespace Go.Proofs.Ytmefaegcoogmiaa.Pure
open Go.RowKit Go.Proofs.Ytmefaegcoogmiaa.PAll Go.Proofs.YtmefaegcoogmiaaW.PrintWords Go.Proofs.YtmefaegcoogmiaaW.PrintLast

/-! ### a law's beginning -/
theorem u8 {y : Int} (h : (Lit.int .u8 y).wf = true) : 0 ≤ y ∧ y ≤ 255 := by
  simp [Lit.wf, IntKind.min, IntKind.max, IntKind.signed, IntKind.bits] at h
  omega
/-- A sketch is of a size that is looked at. -/
structure Small (l0 : List Int) (l1 l2 : List S73) (l3 : List Int) (l4 : List S80) : Prop where
  h0 : l0.length ≤ 4
  h1 : l1.length ≤ 3
  h2 : l2.length ≤ 4
  h3 : l3.length ≤ 3
  h4 : l4.length ≤ 5
  hp : ∀ p ∈ l4, p.f0.length ≤ 5 ∧ p.f1.length ≤ 14
theorem drop_80 {xs : List S80} {i : Int} (h0 : 0 ≤ i) (h1 : i < xs.length) : xs.drop i.toNat = rd_T80 xs i :: xs.drop (i + 1).toNat := by
  unfold rd_T80
  rw [List.getD_eq_getElem?_getD, List.getElem?_eq_getElem (show i.toNat < xs.length by omega), show (i + 1).toNat = i.toNat + 1 by omega]
  exact List.drop_eq_getElem_cons (by omega)
theorem few_loop (l0 : List Int) (l1 l2 : List S73) (l3 : List Int) (l4 : List S80) (hl : l4.length ≤ 140737488351232) (d : Nat) : ∀ i : Int, 0 ≤ i → i + d = l4.length →
    ∃ r, Ev (fun k => jacquardref27_Few.l0 k i l0 l1 l2 l3 l4) r ∧ (r = true → (l0.length ≤ 4 ∧ l1.length ≤ 3 ∧ l2.length ≤ 4 ∧ l3.length ≤ 3 ∧ l4.length ≤ 5) ∧ ∀ p ∈ l4.drop i.toNat, p.f0.length ≤ 5 ∧ p.f1.length ≤ 14) := by
  induction d with
  | zero =>
    intro i h0 hi
    rw [drop_end (by omega)]
    by_cases a0 : (l0.length : Int) ≤ 4
    case neg => exact ⟨false, Ev.step (f := fun _ => some false) (fun k => by simp only [jacquardref27_Few.l0]; rw [if_neg (by omega), if_neg a0]) (Ev.now _), fun h => absurd h Bool.false_ne_true⟩
    by_cases a1 : (l1.length : Int) ≤ 3
    case neg => exact ⟨false, Ev.step (f := fun _ => some false) (fun k => by simp only [jacquardref27_Few.l0]; rw [if_neg (by omega), if_pos a0, if_neg a1]) (Ev.now _), fun h => absurd h Bool.false_ne_true⟩
    by_cases a2 : (l2.length : Int) ≤ 4
    case neg => exact ⟨false, Ev.step (f := fun _ => some false) (fun k => by simp only [jacquardref27_Few.l0]; rw [if_neg (by omega), if_pos a0, if_pos a1, if_neg a2]) (Ev.now _), fun h => absurd h Bool.false_ne_true⟩
    by_cases a3 : (l3.length : Int) ≤ 3
    case neg => exact ⟨false, Ev.step (f := fun _ => some false) (fun k => by simp only [jacquardref27_Few.l0]; rw [if_neg (by omega), if_pos a0, if_pos a1, if_pos a2, if_neg a3]) (Ev.now _), fun h => absurd h Bool.false_ne_true⟩
    refine ⟨decide ((l4.length : Int) ≤ 5), Ev.step (f := fun _ => some (decide ((l4.length : Int) ≤ 5))) (fun k => by simp only [jacquardref27_Few.l0]; rw [if_neg (by omega), if_pos a0, if_pos a1, if_pos a2, if_pos a3]) (Ev.now _), fun h => ⟨⟨by omega, by omega, by omega, by omega, by have := of_decide_eq_true h; omega⟩, by simp⟩⟩
  | succ d ih =>
    intro i h0 hi
    rw [drop_80 h0 (by omega)]
    by_cases a0 : ((rd_T80 l4 i).f0.length : Int) > 5
    · exact ⟨false, Ev.step (f := fun _ => some false) (fun k => by simp only [jacquardref27_Few.l0]; rw [if_pos (by omega), if_pos h0, if_pos a0]) (Ev.now _), fun h => absurd h Bool.false_ne_true⟩
    by_cases a1 : ((rd_T80 l4 i).f1.length : Int) > 14
    · exact ⟨false, Ev.step (f := fun _ => some false) (fun k => by simp only [jacquardref27_Few.l0]; rw [if_pos (by omega), if_pos h0, if_neg a0, if_pos a1]) (Ev.now _), fun h => absurd h Bool.false_ne_true⟩
    obtain ⟨r, hr, h⟩ := ih (i + 1) (by omega) (by omega)
    refine ⟨r, Ev.step (fun k => ?_) hr, fun e => ⟨(h e).1, fun p hp => ?_⟩⟩
    · simp only [jacquardref27_Few.l0]
      rw [if_pos (by omega), if_pos h0, if_neg a0, if_neg a1, w64 (by omega) (by omega)]
    · rcases List.mem_cons.mp hp with rfl | hp
      · omega
      · exact (h e).2 p hp
theorem few_ok (l0 : List Int) (l1 l2 : List S73) (l3 : List Int) (l4 : List S80) (hl : l4.length ≤ 140737488351232) : ∃ r, Ev (fun k => jacquardref27_Few.f k l0 l1 l2 l3 l4) r ∧ (r = true → Small l0 l1 l2 l3 l4) := by
  obtain ⟨r, hr, h⟩ := few_loop l0 l1 l2 l3 l4 hl l4.length 0 (by omega) (by omega)
  exact ⟨r, hr, fun e => ⟨(h e).1.1, (h e).1.2.1, (h e).1.2.2.1, (h e).1.2.2.2.1, (h e).1.2.2.2.2, (h e).2⟩⟩
/-- The function of a small sketch. -/
theorem func_ok {x : S36} (hx : WS36 x) (hs : Small x.f0 x.f1 x.f2 x.f3 x.f4) : ∃ (nm : ByteArray) (ws rt : List Int) (ar : List S75) (st : List S77) (bl : List S66) (n : Nat), (∀ k, jacquardref27_Func.f k x.f0 x.f1 x.f2 x.f3 x.f4 = some (nm, ws, ar, st, rt, bl)) ∧ G0 bl n := by
  obtain ⟨w0, w1, w2, w3, w4⟩ := k36_wf hx
  have two : ∀ y, WS73 y → TwoIn y := fun y h => ⟨u8 (k73_wf h).1, u8 (k73_wf h).2⟩
  have stp : ∀ y, WS88 y → StepIn y := fun y h => by
    obtain ⟨a0, a1, a2, a3, a4, _⟩ := k88_wf h
    exact ⟨u8 a0, u8 a1, u8 a2, u8 a3, u8 a4⟩
  have prt : ∀ p ∈ x.f4, PartIn p := fun p hp => by
    obtain ⟨a0, a1, a2, a3, a4, a5, _⟩ := k80_wf (w4.2.2 p hp)
    obtain ⟨s0, s1⟩ := hs.hp p hp
    exact ⟨⟨s0, fun v hv => u8 (a0.2.2 v hv)⟩, ⟨s1, fun y hy => stp y (a1.2.2 y hy)⟩, u8 a2, u8 a3, u8 a4, u8 a5⟩
  obtain ⟨F, n, e, B, _⟩ := mkFunc_ok ⟨hs.h0, fun y hy => u8 (w0.2.2 y hy)⟩ ⟨hs.h1, fun y hy => two y (w1.2.2 y hy)⟩ ⟨hs.h2, fun y hy => two y (w2.2.2 y hy)⟩ ⟨hs.h3, fun y hy => u8 (w3.2.2 y hy)⟩ ⟨hs.h4, prt⟩
  refine ⟨F.nm, F.ws, F.rt, F.ar, F.st, F.bl, n, fun k => by unfold jacquardref27_Func.f; rw [e]; rfl, ⟨B.hn, B.n1, fun b b0 b1 => ?_, fun b b0 b1 hk => ?_⟩⟩
  · have t := B.T b b0 b1
    refine ⟨?_, fun e he => (t.1 e he).1⟩
    rcases t.2 with h | h | h
    · exact Nat.le_trans (Nat.le_of_eq h.2.2.1) (by omega)
    · exact Nat.le_of_eq h.2.2.1
    · have : toOf F.bl b = [] := h.2.2.1
      rw [this]; simp
  · rcases (B.T b b0 b1).2 with h | h | h
    · exact absurd (hk.symm.trans h.1) (by decide)
    · exact h.2.2.1
    · exact absurd (hk.symm.trans h.1) (by decide)

theorem few200_ok (l0 : List Int) (l1 l2 : List S73) (l3 : List Int) (l4 : List S80) (c : List Int) (hl : l4.length ≤ 140737488351232) : ∃ r, Ev (fun k => jacquardlaw36_few.f k l0 l1 l2 l3 l4 c) r ∧ (r = true → Small l0 l1 l2 l3 l4 ∧ c.length ≤ 200) := by
  obtain ⟨r, hr, h⟩ := few_ok l0 l1 l2 l3 l4 hl
  cases r with
  | false => exact ⟨false, Ev.congr (fun k => by unfold jacquardlaw36_few.f; rfl) (Ev.bind hr (Ev.congr (f := fun _ => some false) (fun k => if_neg Bool.false_ne_true) (Ev.now _))), fun h => absurd h Bool.false_ne_true⟩
  | true => exact ⟨decide ((c.length : Int) ≤ 200), Ev.congr (fun k => by unfold jacquardlaw36_few.f; rfl) (Ev.bind hr (Ev.congr (f := fun _ => some (decide ((c.length : Int) ≤ 200))) (fun k => by rw [if_pos rfl]) (Ev.now _))), fun e => ⟨h rfl, by have := of_decide_eq_true e; omega⟩⟩
theorem two_b {l : List S73} (h : ∀ y ∈ l, WS73 y) : ∀ x ∈ l, TwoB x := fun x hx => ⟨u8 (k73_wf (h x hx)).1, u8 (k73_wf (h x hx)).2⟩

/-- What stretches make up. -/
def expand : List S46 → List Int
  | [] => []
  | s :: r => List.replicate s.f1.toNat s.f0 ++ expand r
theorem expand_spl (sc : List S49) : ∀ (l : List Int) (b v : Int), 1 ≤ v → expand (spl sc b v l) = List.replicate v.toNat b ++ l
  | [], b, v, _ => rfl
  | c :: l, b, v, hv => by
    rw [spl]
    split
    · rename_i h
      obtain ⟨rfl, _⟩ := h
      rw [expand_spl sc l b (v + 1) (by omega), show (v + 1).toNat = v.toNat + 1 by omega, List.replicate_succ', List.append_assoc]
      rfl
    · rw [expand, expand_spl sc l c 1 (by omega)]
      rfl
/-- Successive stretches. -/
def Sep (sc : List S49) (L : List S46) : Prop := (∀ s ∈ L, s.f1 = 1 ∨ 0 < iiOf sc s.f0) ∧ ∀ j : Nat, j + 1 < L.length → 0 < iiOf sc (rd_T46 L ((j : Int) + 1)).f0 → (rd_T46 L (j : Int)).f0 ≠ (rd_T46 L ((j : Int) + 1)).f0
theorem rd46_s (x : S46) (m : List S46) (j : Nat) : rd_T46 (x :: m) ((j : Int) + 1) = rd_T46 m (j : Int) := by
  unfold rd_T46
  rw [show ((j : Int) + 1).toNat = j + 1 by omega, Int.toNat_natCast]
  rfl
theorem spl_head (sc : List S49) : ∀ (l : List Int) (b v : Int), ∃ w r, spl sc b v l = ⟨b, w⟩ :: r
  | [], b, v => ⟨v, [], rfl⟩
  | c :: l, b, v => by
    rw [spl]
    split
    · exact spl_head sc l b (v + 1)
    · exact ⟨v, _, rfl⟩
theorem sep_spl (sc : List S49) : ∀ (l : List Int) (b v : Int), (v = 1 ∨ 0 < iiOf sc b) → Sep sc (spl sc b v l)
  | [], b, v, h => by
    rw [spl]
    refine ⟨fun s hs => ?_, fun j hj => absurd hj (by simp)⟩
    rw [List.mem_singleton] at hs
    subst hs
    exact h
  | c :: l, b, v, h => by
    rw [spl]
    by_cases hc : b = c ∧ 0 < iiOf sc c
    · rw [if_pos hc]
      exact sep_spl sc l b (v + 1) (.inr (by rw [hc.1]; exact hc.2))
    · rw [if_neg hc]
      obtain ⟨i1, i2⟩ := sep_spl sc l c 1 (.inl rfl)
      refine ⟨fun s hs => ?_, fun j hj hii => ?_⟩
      · rcases List.mem_cons.mp hs with rfl | hs
        · exact h
        · exact i1 s hs
      · rw [rd46_s] at hii ⊢
        cases j with
        | zero =>
          obtain ⟨w, r, e⟩ := spl_head sc l c 1
          rw [e] at hii ⊢
          exact fun he => hc ⟨he, hii⟩
        | succ j =>
          rw [show ((j + 1 : Nat) : Int) = (j : Int) + 1 by omega] at hii ⊢
          rw [rd46_s]
          exact i2 j (by simp at hj; omega) hii
section
variable {nm : ByteArray} {ws rt : List Int} {ar : List S75} {st : List S77} {bl : List S66} {sc : List S49} {n : Nat}
theorem splits_inner (G : Gr bl sc n) (p : List Int) (L : List S46) (i t : Int) {s : S46} (hs : OkS n 1000 s) (ht : 0 ≤ t ∧ t ≤ 100000000) {R : Bool} (d : Nat) : ∀ (j : Int) (out : List Int), 0 ≤ j → j + d = s.f1 → out.length + d ≤ 10000000 →
    Ev (fun k => jacquardlaw36_CyclesSplits.l0 k sc p L (out ++ List.replicate d s.f0) (t + lenOf sc s) (L.length : Int) (wrap64 (i + 1)) nm ws ar st rt bl) R →
    Ev (fun k => jacquardlaw36_CyclesSplits.l1 k sc p L out t (L.length : Int) i s.f1 j nm ws ar st rt bl s.f0 s.f1) R := by
  have hls := G.hs
  have V := visit_ok G hs
  have li := lenOf_in G hs
  obtain ⟨hb, hv, hm⟩ := hs
  induction d with
  | zero =>
    intro j out h0 hj ho h
    rw [List.replicate_zero, List.append_nil] at h
    refine Ev.step (fun k => ?_) h
    simp only [jacquardlaw36_CyclesSplits.l1]
    rw [if_neg (by omega), if_pos hb.1, if_pos (by omega), V, Option.bind_some, w64 (x := t + lenOf sc s) (by omega) (by omega)]
  | succ d ih =>
    intro j out h0 hj ho h
    refine Ev.step (fun k => ?_) (ih (j + 1) (out ++ [s.f0]) (by omega) (by omega) (by simp; omega) (by rw [List.append_assoc, List.singleton_append, ← List.replicate_succ]; exact h))
    simp only [jacquardlaw36_CyclesSplits.l1]
    rw [if_pos (by omega), if_pos (by omega), w64 (x := j + 1) (by omega) (by omega)]
theorem splits_loop (G : Gr bl sc n) (p : List Int) (L : List S46) (hL : ∀ s ∈ L, OkS n 1000 s) (hl : L.length ≤ 1000) (hS : Sep sc L) {all : List Int} {sum : Int} (hend : Ev (fun k => (jacquardref36_Issues.f k nm ws ar st rt bl sc p).bind fun b => (jacquardref08_Ints.f k all p).bind fun t => if t = true then some (sum == b.2) else some false) true)
    (d : Nat) : ∀ (i t : Int) (out : List Int), 0 ≤ i → i + d = L.length → 0 ≤ t → t ≤ 1 + 20020 * i → out.length ≤ 1000 * i → out ++ expand (L.drop i.toNat) = all → pE sc t (L.drop i.toNat) = sum →
    Ev (fun k => jacquardlaw36_CyclesSplits.l0 k sc p L out t (L.length : Int) i nm ws ar st rt bl) true := by
  induction d with
  | zero =>
    intro i t out h0 hi ht ht2 ho ha hsum
    rw [drop_end (by omega)] at ha hsum
    rw [expand, List.append_nil] at ha
    rw [pE] at hsum
    subst ha hsum
    refine Ev.step (fun k => ?_) hend
    simp only [jacquardlaw36_CyclesSplits.l0]
    rw [if_neg (by omega)]
  | succ d ih =>
    intro i t out h0 hi ht ht2 ho ha hsum
    have O := at46 hL h0 (show i < (L.length : Int) by omega)
    have one := at46 hS.1 h0 (show i < (L.length : Int) by omega)
    have li := lenOf_in G O
    rw [drop_p h0 (by omega)] at ha hsum
    rw [expand, ← List.append_assoc] at ha
    rw [pE] at hsum
    have wi : wrap64 (i + 1) = i + 1 := w64 (by omega) (by omega)
    have O1 := O.2
    have inner : Ev (fun k => jacquardlaw36_CyclesSplits.l1 k sc p L out t (L.length : Int) i (rd_T46 L i).f1 0 nm ws ar st rt bl (rd_T46 L i).f0 (rd_T46 L i).f1) true :=
      splits_inner G p L i t O ⟨ht, by omega⟩ (rd_T46 L i).f1.toNat 0 out (by omega) (by omega) (by omega) (by rw [wi]; exact ih (i + 1) _ _ (by omega) (by omega) (by omega) (by omega) (by simp; omega) ha hsum)
    have go : Ev (fun k => jacquardlaw36_CyclesSplits.j2 k sc p L out t (L.length : Int) i false nm ws ar st rt bl (rd_T46 L i).f0 (rd_T46 L i).f1) true := Ev.step (fun k => by simp only [jacquardlaw36_CyclesSplits.j2]; rw [if_neg Bool.false_ne_true]) inner
    obtain ⟨r, _, hr, hrs⟩ := self_ok (nm := nm) (ws := ws) (rt := rt) (ar := ar) (st := st) G O.1.1 O.1.2
    refine Ev.step (fun k => by simp only [jacquardlaw36_CyclesSplits.l0]; rw [if_pos (by omega), if_pos h0, if_pos (by omega)]) (Ev.bind hr (Ev.congr (fun k => ?_) go))
    rw [if_neg (by omega)]
    by_cases hii : 0 < iiOf sc (rd_T46 L i).f0
    · rw [if_pos (show r ≥ 0 from hrs.mpr hii)]
      by_cases hi0 : i > 0
      · have wj : wrap64 (i - 1) = i - 1 := w64 (by omega) (by omega)
        have ne := hS.2 (i - 1).toNat (by omega)
        rw [show (((i - 1).toNat : Nat) : Int) = i - 1 by omega, show i - 1 + 1 = i by omega] at ne
        rw [if_pos hi0, wj, if_pos (by omega), if_pos (by omega), beq_eq_false_iff_ne.mpr (ne hii)]
      · rw [if_neg hi0]
    · rw [if_neg (show ¬ r ≥ 0 from fun h => hii (hrs.mp h)), if_pos (one.resolve_right hii)]
end
theorem CyclesSplits : jacquardlaw36_CyclesSplits.Pure := by
  intro x l c hx hl hc
  have hx4 := (k36_wf hx).2.2.2.2.2.1
  refine Ev.rounds (g := fun k => jacquardlaw36_CyclesSplits.f k x.f0 x.f1 x.f2 x.f3 x.f4 l c) ?_
  have skip : Ev (fun k => jacquardlaw36_CyclesSplits.j0 k l c true x.f0 x.f1 x.f2 x.f3 x.f4) true :=
    Ev.step (fun k => by simp only [jacquardlaw36_CyclesSplits.j0, if_true]) (Ev.bind awake_ok (Ev.now true))
  obtain ⟨r, hr, hs⟩ := few200_ok x.f0 x.f1 x.f2 x.f3 x.f4 c (by omega)
  refine Ev.congr (fun k => by unfold jacquardlaw36_CyclesSplits.f; rfl) (Ev.bind awake_ok ?_)
  simp only [if_true]
  refine Ev.bind hr ?_
  cases r with
  | false => exact skip
  | true =>
    obtain ⟨hs, hc2⟩ := hs rfl
    obtain ⟨nm, ws, rt, ar, st, bl, n, hF, G⟩ := func_ok hx hs
    obtain ⟨sc, hsc, Gs⟩ := scheds_ok (nm := nm) (ws := ws) (rt := rt) (ar := ar) (st := st) G (two_b hl.2.2) (by have := hl.2.1; omega)
    obtain ⟨q, hq, ho, hlq⟩ := walk_ok (nm := nm) (ws := ws) (rt := rt) (ar := ar) (st := st) G (fun y hy => u8 (hc.2.2 y hy)) hc2
    have P : OkPath bl n q := ⟨ho, hlq⟩
    have PP := P.parts Gs
    refine Ev.step (fun k => by simp only [jacquardlaw36_CyclesSplits.j0, Bool.not_true]; rw [if_neg Bool.false_ne_true, hF, Option.bind_some]) (Ev.bind hsc (Ev.bind hq (Ev.bind (P.split Gs) ?_)))
    dsimp only
    have hend : Ev (fun k => (jacquardref36_Issues.f k nm ws ar st rt bl sc (0 :: q)).bind fun b => (jacquardref08_Ints.f k (0 :: q) (0 :: q)).bind fun t => if t = true then some (endL sc 1 (0 :: q) == b.2) else some false) true := by
      refine Ev.bind (issues_ok Gs (0 :: q) (by simp; omega) (P.range Gs)) (Ev.bind (ints_same (0 :: q) (by simp; omega)) ?_)
      exact Ev.congr (f := fun _ => some true) (fun k => by rw [if_pos rfl, beq_self_eq_true]) (Ev.now true)
    refine Ev.congr (fun k => if_pos rfl) (splits_loop Gs (0 :: q) (spl sc 0 1 q) PP.1 (by omega) (sep_spl sc q 0 1 (.inl rfl)) hend (spl sc 0 1 q).length 0 1 [] (by omega) (by omega) (by omega) (by omega) (by simp) ?_ ?_)
    · show [] ++ expand (spl sc 0 1 q) = 0 :: q
      rw [expand_spl sc q 0 1 (by omega)]
      rfl
    · show pE sc 1 (spl sc 0 1 q) = _
      rw [pE_spl sc q 0 1 1 (by omega) (.inl rfl), show (1 : Int) + (1 - 1) * iiOf sc 0 = 1 by omega]

end Go.Proofs.Ytmefaegcoogmiaa.Pure
