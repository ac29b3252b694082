/- What the laws of chapter 36 share: stretches, walks and issues of a function's blocks with schedules that fit them. -/
import Derived.Test.YtmefaegcoogmiaaF10
import Derived.Test.YtmefaegcoogmiaaF11
import Derived.Test.YtmefaegcoogmiaaF29
import Derived.Test.YtmefaegcoogmiaaF16
import Derived.Test.YtmefaegcoogmiaaF9
import Derived.Test.YtmefaegcoogmiaaF28
import Derived.Test.YtmefaegcoogmiaaF14
import Derived.Test.YtmefaegcoogmiaaF17
import Derived.Test.YtmefaegcoogmiaaF30
import Derived.Test.YtmefaegcoogmiaaF21
namespace Go.Proofs.Ytmefaegcoogmiaa.Pure
open Go.RowKit Go.Proofs.Ytmefaegcoogmiaa.PAll Go.Proofs.YtmefaegcoogmiaaW.PrintWords Go.Proofs.YtmefaegcoogmiaaW.PrintLast

/-! ### what the laws of chapter 36 share -/
theorem w64 {x : Int} (h : -9223372036854775808 ≤ x) (h' : x ≤ 9223372036854775807) : wrap64 x = x := by
  unfold wrap64
  omega
theorem awake_ok : Ev (fun k => jacquardlaw36_awake.f k) true := Ev.of (fun k => jacquardlaw36_awake.mono k) (k := 9) (by decide +kernel)
theorem drop_e {xs : List S71} {i : Int} (h0 : 0 ≤ i) (h1 : i < xs.length) : xs.drop i.toNat = rd_T71 xs i :: xs.drop (i + 1).toNat := by
  unfold rd_T71
  rw [List.getD_eq_getElem?_getD, List.getElem?_eq_getElem (show i.toNat < xs.length by omega), show (i + 1).toNat = i.toNat + 1 by omega]
  exact List.drop_eq_getElem_cons (by omega)
theorem drop_i {xs : List Int} {i : Int} (h0 : 0 ≤ i) (h1 : i < xs.length) : xs.drop i.toNat = rd xs i :: xs.drop (i + 1).toNat := by
  unfold rd
  rw [List.getD_eq_getElem?_getD, List.getElem?_eq_getElem (show i.toNat < xs.length by omega), show (i + 1).toNat = i.toNat + 1 by omega]
  exact List.drop_eq_getElem_cons (by omega)
theorem drop_p {xs : List S46} {i : Int} (h0 : 0 ≤ i) (h1 : i < xs.length) : xs.drop i.toNat = rd_T46 xs i :: xs.drop (i + 1).toNat := by
  unfold rd_T46
  rw [List.getD_eq_getElem?_getD, List.getElem?_eq_getElem (show i.toNat < xs.length by omega), show (i + 1).toNat = i.toNat + 1 by omega]
  exact List.drop_eq_getElem_cons (by omega)
theorem drop_end {α : Type} {xs : List α} {i : Int} (h : (xs.length : Int) ≤ i) : xs.drop i.toNat = [] := List.drop_eq_nil_of_le (by omega)
def toOf (bl : List S66) (b : Int) : List S71 := (rd_T66 bl b).f2.f2
def eB (bl : List S66) (a b : Int) : Bool := (toOf bl a).any (fun e => e.f0 == b)
def iiOf (sc : List S49) (b : Int) : Int := (rd_T49 sc b).f0
def dpOf (sc : List S49) (b : Int) : Int := (rd_T49 sc b).f1
/-- A function's blocks with schedules that fit it. -/
structure Gr (bl : List S66) (sc : List S49) (n : Nat) : Prop where
  hn : bl.length = n
  hs : sc.length = n
  n1 : 1 ≤ n ∧ n ≤ 5
  T : ∀ b : Int, 0 ≤ b → b < (n : Int) → (toOf bl b).length ≤ 2 ∧ ∀ e ∈ toOf bl b, 0 ≤ e.f0 ∧ e.f0 < (n : Int)
  D : ∀ b : Int, 0 ≤ b → b < (n : Int) → (1 ≤ dpOf sc b ∧ dpOf sc b ≤ 20) ∧ 0 ≤ iiOf sc b ∧ iiOf sc b ≤ 20
  P : ∀ b : Int, 0 ≤ b → b < (n : Int) → 0 < iiOf sc b → ∃ e0 e1, toOf bl b = [e0, e1] ∧ (e0.f0 = b ∧ e1.f0 ≠ b ∨ e0.f0 ≠ b ∧ e1.f0 = b)
section
variable {nm : ByteArray} {ws rt : List Int} {ar : List S75} {st : List S77} {bl : List S66} {sc : List S49} {n : Nat}
theorem leads_loop (b : Int) (xs : List S71) (hl : xs.length ≤ 1000) (d : Nat) : ∀ i : Int, 0 ≤ i → i + d = xs.length → Ev (fun k => cycles_leads.l0 k b xs (xs.length : Int) i) ((xs.drop i.toNat).any (fun e => e.f0 == b)) := by
  induction d with
  | zero =>
    intro i h0 hi
    rw [drop_end (by omega)]
    refine Ev.step (f := fun _ => some false) (fun k => ?_) (Ev.now _)
    simp only [cycles_leads.l0]
    rw [if_neg (by omega)]
  | succ d ih =>
    intro i h0 hi
    rw [drop_e h0 (by omega), List.any_cons]
    by_cases hb : (rd_T71 xs i).f0 = b
    · rw [beq_iff_eq.mpr hb, Bool.true_or]
      refine Ev.step (f := fun _ => some true) (fun k => ?_) (Ev.now _)
      simp only [cycles_leads.l0]
      rw [if_pos (by omega), if_pos h0, if_pos (by omega), if_pos hb]
    · rw [beq_eq_false_iff_ne.mpr hb, Bool.false_or]
      refine Ev.step (fun k => ?_) (ih (i + 1) (by omega) (by omega))
      simp only [cycles_leads.l0]
      rw [if_pos (by omega), if_pos h0, if_pos (by omega), if_neg hb, w64 (by omega) (by omega)]
theorem leads_ok (G : Gr bl sc n) {a b : Int} (h0 : 0 ≤ a) (h1 : a < (n : Int)) : Ev (fun k => cycles_leads.f k nm ws ar st rt bl a b) (eB bl a b) := by
  have t := (G.T a h0 h1).1
  have hn := G.hn
  refine Ev.congr (fun k => ?_) (leads_loop b (toOf bl a) (by omega) (toOf bl a).length 0 (Int.le_refl _) (by omega))
  unfold cycles_leads.f
  rw [if_pos h0, if_pos (by omega)]
  rfl
/-- Both Selfs: -1 exactly for a block without an interval. -/
theorem self_ok (G : Gr bl sc n) {b : Int} (h0 : 0 ≤ b) (h1 : b < (n : Int)) : ∃ r : Int, Ev (fun k => cycles_Self.f k nm ws ar st rt bl sc b) r ∧ Ev (fun k => jacquardref36_Self.f k nm ws ar st rt bl sc b) r ∧ (0 ≤ r ↔ 0 < iiOf sc b) := by
  have hn := G.hn
  have hs := G.hs
  by_cases hii : 0 < iiOf sc b
  · obtain ⟨e0, e1, ht, hx⟩ := G.P b h0 h1 hii
    have ht' : (rd_T66 bl b).f2.f2 = [e0, e1] := ht
    have hd : decide ((rd_T49 sc b).f0 ≤ 0) = false := decide_eq_false (by unfold iiOf at hii; omega)
    have c0 : rd_T71 [e0, e1] 0 = e0 := rfl
    have c1 : rd_T71 [e0, e1] 1 = e1 := rfl
    have wc : wrap64 1 = 1 := w64 (by omega) (by omega)
    have wd : wrap64 2 = 2 := w64 (by omega) (by omega)
    have len : (([e0, e1] : List S71).length : Int) = 2 := rfl
    refine ⟨if e0.f0 = b then 0 else 1, Ev.of (fun k => cycles_Self.mono _ _ _ _ _ _ _ _ k) (k := 5) ?_, Ev.of (fun k => jacquardref36_Self.mono _ _ _ _ _ _ _ _ k) (k := 5) ?_, ⟨fun _ => hii, fun _ => by split <;> omega⟩⟩
    · unfold cycles_Self.f
      rw [if_neg (by omega), if_neg (by omega), if_neg (by omega), if_pos h0, if_pos (by omega), hd]
      simp only [cycles_Self.j0, ht', len]
      rw [if_neg Bool.false_ne_true, if_pos h0, if_pos (by omega)]
      rcases hx with ⟨x0, x1⟩ | ⟨x0, x1⟩
      · simp [cycles_Self.l0, c0, c1, x0, x1, wc, wd]
      · simp [cycles_Self.l0, c0, c1, x0, x1, wc, wd]
    · unfold jacquardref36_Self.f
      rw [if_neg (by omega), if_neg (by omega), if_neg (by omega), if_pos h0, if_pos (by omega), hd]
      simp only [jacquardref36_Self.j0, ht']
      rw [if_neg Bool.false_ne_true, if_pos h0, if_pos (by omega)]
      rcases hx with ⟨x0, x1⟩ | ⟨x0, x1⟩
      · simp [jacquardref36_Self.l0, c0, c1, x0, x1, wc, wd]
      · simp [jacquardref36_Self.l0, c0, c1, x0, x1, wc, wd]
  · have hd : decide ((rd_T49 sc b).f0 ≤ 0) = true := decide_eq_true (by unfold iiOf at hii; omega)
    refine ⟨-1, Ev.of (fun k => cycles_Self.mono _ _ _ _ _ _ _ _ k) (k := 1) ?_, Ev.of (fun k => jacquardref36_Self.mono _ _ _ _ _ _ _ _ k) (k := 1) ?_, ⟨fun h => by omega, fun h => absurd h hii⟩⟩
    · unfold cycles_Self.f
      rw [if_neg (by omega), if_neg (by omega), if_neg (by omega), if_pos h0, if_pos (by omega), hd]
      simp only [cycles_Self.j0]
      rw [if_pos trivial]
    · unfold jacquardref36_Self.f
      rw [if_neg (by omega), if_neg (by omega), if_neg (by omega), if_pos h0, if_pos (by omega), hd]
      simp only [jacquardref36_Self.j0]
      rw [if_pos trivial]
/-! #### the stretches of a path -/
/-- What is left of a path, behind a visit number v of the block b: its stretches. -/
def spl (sc : List S49) (b v : Int) : List Int → List S46
  | [] => [⟨b, v⟩]
  | c :: l => if b = c ∧ 0 < iiOf sc c then spl sc b (v + 1) l else ⟨b, v⟩ :: spl sc c 1 l
/-- What is left of it is a path. -/
def okP (bl : List S66) (n : Nat) (b : Int) : List Int → Bool
  | [] => true
  | c :: l => (decide (0 ≤ c) && decide (c < (n : Int)) && eB bl b c) && okP bl n c l
theorem split_loop (G : Gr bl sc n) (p : List Int) (hp : p.length ≤ 1000) (d : Nat) : ∀ (i b v : Int) (pre : List S46), 1 ≤ i → i + d = p.length → rd p (i - 1) = b → 0 ≤ b ∧ b < (n : Int) → 1 ≤ v → v ≤ i → pre.length ≤ i →
    Ev (fun k => cycles_Split.l0 k sc p (pre ++ [⟨b, v⟩]) p (p.length : Int) i nm ws ar st rt bl) (if okP bl n b (p.drop i.toNat) = true then (pre ++ spl sc b v (p.drop i.toNat), 0) else ([], 3)) := by
  have hn := G.hn
  induction d with
  | zero =>
    intro i b v pre h0 hi hb hbn hv hvi hpre
    rw [drop_end (by omega)]
    refine Ev.step (f := fun _ => some (pre ++ [⟨b, v⟩], 0)) (fun k => ?_) (Ev.now _)
    simp only [cycles_Split.l0]
    rw [if_neg (by omega)]
  | succ d ih =>
    intro i b v pre h0 hi hb hbn hv hvi hpre
    have wi : wrap64 (i + 1) = i + 1 := w64 (by omega) (by omega)
    have wj : wrap64 (i - 1) = i - 1 := w64 (by omega) (by omega)
    rw [drop_i (by omega) (by omega)]
    generalize hc : rd p i = c
    have bad : Ev (fun k => cycles_Split.j2 k sc p (pre ++ [⟨b, v⟩]) i c p (p.length : Int) i true nm ws ar st rt bl) (([] : List S46), (3 : Int)) := Ev.step (f := fun _ => some ([], 3)) (fun k => by
      simp only [cycles_Split.j2]
      rw [if_pos trivial]) (Ev.now _)
    by_cases c0 : c < 0
    · have e : okP bl n b (c :: p.drop (i + 1).toNat) = false := by unfold okP; rw [decide_eq_false (show ¬ 0 ≤ c by omega)]; rfl
      rw [e, if_neg Bool.false_ne_true]
      refine Ev.step (fun k => ?_) bad
      simp only [cycles_Split.l0]
      rw [if_pos (by omega), if_pos (by omega), if_pos (by omega), hc, if_pos c0]
    by_cases c1 : c ≥ (n : Int)
    · have e : okP bl n b (c :: p.drop (i + 1).toNat) = false := by unfold okP; rw [decide_eq_false (show ¬ c < (n : Int) by omega), Bool.and_false]; rfl
      rw [e, if_neg Bool.false_ne_true]
      refine Ev.step (fun k => ?_) bad
      simp only [cycles_Split.l0]
      rw [if_pos (by omega), if_pos (by omega), if_pos (by omega), hc, if_neg c0, if_pos (by omega)]
    refine Ev.step (f := fun k => (cycles_leads.f k nm ws ar st rt bl b c).bind fun t => cycles_Split.j2 k sc p (pre ++ [⟨b, v⟩]) i c p (p.length : Int) i (!t) nm ws ar st rt bl) (fun k => ?_) (Ev.bind (leads_ok G hbn.1 hbn.2) ?_)
    · simp only [cycles_Split.l0]
      rw [if_pos (by omega), if_pos (by omega), if_pos (by omega), hc, if_neg c0, if_neg (by omega), if_pos (by omega), wj, if_pos (by omega), if_pos (by omega), hb]
    cases hE : eB bl b c
    · have e : okP bl n b (c :: p.drop (i + 1).toNat) = false := by unfold okP; rw [hE, Bool.and_false]; rfl
      rw [e, if_neg Bool.false_ne_true]
      exact bad
    · have e : okP bl n b (c :: p.drop (i + 1).toNat) = okP bl n c (p.drop (i + 1).toNat) := by rw [okP, hE, decide_eq_true (show 0 ≤ c by omega), decide_eq_true (show c < (n : Int) by omega)]; rfl
      rw [e]
      have hcn : rd p (i + 1 - 1) = c := by rw [show i + 1 - 1 = i by omega]; exact hc
      have fresh : Ev (fun k => cycles_Split.l0 k sc p ((pre ++ [⟨b, v⟩]) ++ [⟨c, 1⟩]) p (p.length : Int) (i + 1) nm ws ar st rt bl) (if okP bl n c (p.drop (i + 1).toNat) = true then ((pre ++ [⟨b, v⟩]) ++ spl sc c 1 (p.drop (i + 1).toNat), 0) else ([], 3)) :=
        ih (i + 1) c 1 (pre ++ [⟨b, v⟩]) (by omega) (by omega) hcn ⟨by omega, by omega⟩ (by omega) (by omega) (by simp; omega)
      rw [show (pre ++ [(⟨b, v⟩ : S46)]) ++ spl sc c 1 (p.drop (i + 1).toNat) = pre ++ ⟨b, v⟩ :: spl sc c 1 (p.drop (i + 1).toNat) by simp] at fresh
      have hlen : (pre ++ [(⟨b, v⟩ : S46)]).length < 8796093022208 := by simp; omega
      by_cases hbc : b = c
      · obtain ⟨r, hr, _, hrs⟩ := self_ok (nm := nm) (ws := ws) (rt := rt) (ar := ar) (st := st) G (b := c) (by omega) (by omega)
        refine Ev.step (f := fun k => (cycles_Self.f k nm ws ar st rt bl sc c).bind fun t => if t ≥ 0 then cycles_Split.l0 k sc p (pre ++ [⟨b, v + 1⟩]) p (p.length : Int) (i + 1) nm ws ar st rt bl else cycles_Split.l0 k sc p ((pre ++ [⟨b, v⟩]) ++ [⟨c, 1⟩]) p (p.length : Int) (i + 1) nm ws ar st rt bl) (fun k => ?_) (Ev.bind hr ?_)
        · have wl : wrap64 (((pre ++ [(⟨b, v⟩ : S46)]).length : Int) - 1) = (pre.length : Int) := by rw [List.length_append, List.length_singleton, w64 (by omega) (by omega)]; omega
          have er : rd_T46 (pre ++ [(⟨b, v⟩ : S46)]) (pre.length : Int) = ⟨b, v⟩ := by unfold rd_T46; rw [List.getD_eq_getElem?_getD, Int.toNat_natCast, List.getElem?_append_right (Nat.le_refl _)]; simp
          have es : (pre ++ [(⟨b, v⟩ : S46)]).set pre.length ⟨b, v + 1⟩ = pre ++ [⟨b, v + 1⟩] := by rw [List.set_append_right _ _ (Nat.le_refl _), Nat.sub_self]; rfl
          simp only [cycles_Split.j2]
          rw [if_neg (by decide), if_pos (by omega), wj, if_pos (by omega), if_pos (by omega), hb, if_pos hbc, wl, er, wi]
          dsimp only
          rw [w64 (x := v + 1) (by omega) (by omega), Int.toNat_natCast, es, if_pos (show (0 : Int) ≤ (pre.length : Int) by omega), if_pos (show (pre.length : Int) < ((pre ++ [(⟨b, v⟩ : S46)]).length : Int) by simp; omega), if_pos hlen]
        by_cases hii : 0 < iiOf sc c
        · refine Ev.congr (fun k => if_pos (show r ≥ 0 from hrs.mpr hii)) ?_
          rw [show spl sc b v (c :: p.drop (i + 1).toNat) = spl sc b (v + 1) (p.drop (i + 1).toNat) by rw [spl, if_pos ⟨hbc, hii⟩], ← hbc]
          exact ih (i + 1) b (v + 1) pre (by omega) (by omega) (hcn.trans hbc.symm) hbn (by omega) (by omega) (by omega)
        · refine Ev.congr (fun k => if_neg (show ¬ r ≥ 0 from fun h => hii (hrs.mp h))) ?_
          rw [show spl sc b v (c :: p.drop (i + 1).toNat) = ⟨b, v⟩ :: spl sc c 1 (p.drop (i + 1).toNat) by rw [spl, if_neg (fun h => hii h.2)]]
          exact fresh
      · rw [show spl sc b v (c :: p.drop (i + 1).toNat) = ⟨b, v⟩ :: spl sc c 1 (p.drop (i + 1).toNat) by rw [spl, if_neg (fun h => hbc h.1)]]
        refine Ev.step (fun k => ?_) fresh
        simp only [cycles_Split.j2]
        rw [if_neg (by decide), if_pos (by omega), wj, if_pos (by omega), if_pos (by omega), hb, if_neg hbc, if_pos hlen, wi]
/-- Split of any list. -/
theorem split_ok (G : Gr bl sc n) (p : List Int) (hp : p.length ≤ 1000) : Ev (fun k => cycles_Split.f k nm ws ar st rt bl sc p) (match p with
    | [] => ([], 3)
    | b :: l => if b = 0 ∧ okP bl n 0 l = true then (spl sc 0 1 l, 0) else ([], 3)) := by
  have hn := G.hn
  have hs := G.hs
  have n1 := G.n1
  have bad : Ev (fun k => cycles_Split.j0 k sc p true nm ws ar st rt bl) (([] : List S46), (3 : Int)) := Ev.step (f := fun _ => some ([], 3)) (fun k => by simp only [cycles_Split.j0]; rw [if_pos trivial]) (Ev.now _)
  cases p with
  | nil =>
    refine Ev.congr (fun k => ?_) bad
    unfold cycles_Split.f
    rw [if_pos (by omega), if_pos (show (([] : List Int).length : Int) = 0 from rfl)]
  | cons b l =>
    dsimp only
    have e0 : rd (b :: l) 0 = b := rfl
    have el : ((b :: l).length : Int) = l.length + 1 := by simp
    by_cases hb : b = 0
    · subst hb
      have ne : ((0 : Int) != 0) = false := rfl
      have L := split_loop (nm := nm) (ws := ws) (rt := rt) (ar := ar) (st := st) G (0 :: l) hp l.length 1 0 1 [] (by omega) (by omega) rfl ⟨by omega, by omega⟩ (by omega) (by omega) (by simp)
      rw [show ((0 :: l : List Int).drop (1 : Int).toNat) = l from rfl, List.nil_append] at L
      have e3 : (if (0 : Int) = 0 ∧ okP bl n 0 l = true then (spl sc 0 1 l, (0 : Int)) else ([], 3)) = (if okP bl n 0 l = true then ([] ++ spl sc 0 1 l, 0) else ([], 3)) := by
        by_cases h : okP bl n 0 l = true
        · rw [if_pos ⟨rfl, h⟩, if_pos h]; rfl
        · rw [if_neg (fun x => h x.2), if_neg h]
      rw [e3]
      refine Ev.congr (f := fun k => cycles_Split.j0 k sc (0 :: l) false nm ws ar st rt bl) (fun k => ?_) (Ev.step (f := fun k => cycles_Split.l0 k sc (0 :: l) [] (0 :: l) ((0 :: l).length : Int) 0 nm ws ar st rt bl) (fun k => ?_) (Ev.step (f := fun k => cycles_Split.j2 k sc (0 :: l) [] 0 0 (0 :: l) ((0 :: l).length : Int) 0 false nm ws ar st rt bl) (fun k => ?_) (Ev.step (fun k => ?_) L)))
      · unfold cycles_Split.f
        rw [if_pos (by omega), if_neg (by omega), if_neg (by omega), if_pos (by omega), e0, ne]
      · simp only [cycles_Split.j0]
        rw [if_neg Bool.false_ne_true]
      · simp only [cycles_Split.l0]
        rw [if_pos (by omega), if_pos (by omega), if_pos (by omega), e0, if_neg (by omega), if_neg (by omega), if_neg (by omega)]
      · simp only [cycles_Split.j2]
        rw [if_neg Bool.false_ne_true, if_neg (by omega), if_pos (by decide), w64 (x := 0 + 1) (by omega) (by omega)]
        rfl
    · have ne : ((b : Int) != 0) = true := by simpa using hb
      rw [if_neg (fun h => hb h.1)]
      refine Ev.congr (fun k => ?_) bad
      unfold cycles_Split.f
      rw [if_pos (by omega), if_neg (by omega), if_neg (by omega), if_pos (by omega), e0, ne]
end

/-! ### schedules, walks and issues -/
/-- A function's blocks. -/
structure G0 (bl : List S66) (n : Nat) : Prop where
  hn : bl.length = n
  n1 : 1 ≤ n ∧ n ≤ 5
  T : ∀ b : Int, 0 ≤ b → b < (n : Int) → (toOf bl b).length ≤ 2 ∧ ∀ e ∈ toOf bl b, 0 ≤ e.f0 ∧ e.f0 < (n : Int)
  K : ∀ b : Int, 0 ≤ b → b < (n : Int) → (rd_T66 bl b).f2.f0 = 2 → (toOf bl b).length = 2
def Piped (bl : List S66) (b : Int) : Prop := ∃ e0 e1, toOf bl b = [e0, e1] ∧ (e0.f0 = b ∧ e1.f0 ≠ b ∨ e0.f0 ≠ b ∧ e1.f0 = b)
section
variable {nm : ByteArray} {ws rt : List Int} {ar : List S75} {st : List S77} {bl : List S66} {sc : List S49} {n : Nat}
theorem two_list {α : Type} {l : List α} (h : l.length = 2) : ∃ a b, l = [a, b] := by
  match l, h with
  | [a, b], _ => exact ⟨a, b, rfl⟩
theorem selfloop_ok (G : G0 bl n) {b : Int} (h0 : 0 ≤ b) (h1 : b < (n : Int)) : ∃ r : Int, Ev (fun k => jacquardref08_SelfLoop.f k nm ws ar st rt bl b) r ∧ (r ≥ 0 → Piped bl b) := by
  have hn := G.hn
  by_cases hk : (rd_T66 bl b).f2.f0 = 2
  · obtain ⟨e0, e1, ht⟩ := two_list (G.K b h0 h1 hk)
    have ht' : (rd_T66 bl b).f2.f2 = [e0, e1] := ht
    have hd : ((rd_T66 bl b).f2.f0 != 2) = false := by rw [hk]; rfl
    have c0 : rd_T71 [e0, e1] 0 = e0 := rfl
    have c1 : rd_T71 [e0, e1] 1 = e1 := rfl
    refine ⟨if ((e0.f0 == b) == (e1.f0 == b)) = true then -1 else if e0.f0 = b then 0 else 1, Ev.of (fun k => jacquardref08_SelfLoop.mono _ _ _ _ _ _ _ k) (k := 1) ?_, fun h => ⟨e0, e1, ht, ?_⟩⟩
    · unfold jacquardref08_SelfLoop.f
      rw [if_neg (by omega), if_neg (by omega), if_pos h0, if_pos (by omega), hd]
      simp only [jacquardref08_SelfLoop.j0, ht']
      rw [if_neg Bool.false_ne_true, if_pos h0, if_pos (by omega), if_pos (by show (0 : Int) < 2; omega), if_pos (by show (1 : Int) < 2; omega), c0, c1]
      split
      · rfl
      · split <;> rfl
    · by_cases x0 : e0.f0 = b
      · by_cases x1 : e1.f0 = b
        · rw [beq_iff_eq.mpr x0, beq_iff_eq.mpr x1, if_pos (by decide)] at h
          omega
        · exact .inl ⟨x0, x1⟩
      · by_cases x1 : e1.f0 = b
        · exact .inr ⟨x0, x1⟩
        · rw [beq_eq_false_iff_ne.mpr x0, beq_eq_false_iff_ne.mpr x1, if_pos (by decide)] at h
          omega
  · have hd : ((rd_T66 bl b).f2.f0 != 2) = true := by simpa using hk
    refine ⟨-1, Ev.of (fun k => jacquardref08_SelfLoop.mono _ _ _ _ _ _ _ k) (k := 1) ?_, fun h => by omega⟩
    unfold jacquardref08_SelfLoop.f
    rw [if_neg (by omega), if_neg (by omega), if_pos h0, if_pos (by omega), hd]
    simp only [jacquardref08_SelfLoop.j0]
    rw [if_pos trivial]
/-- A schedule that fits the block b. -/
def Fine (bl : List S66) (b : Int) (s : S49) : Prop := (1 ≤ s.f1 ∧ s.f1 ≤ 20) ∧ (0 ≤ s.f0 ∧ s.f0 ≤ 20) ∧ (0 < s.f0 → Piped bl b)
theorem rd49_last (acc : List S49) (x : S49) (i : Int) (h : (acc.length : Int) = i) : rd_T49 (acc ++ [x]) i = x := by
  unfold rd_T49
  rw [List.getD_eq_getElem?_getD, List.getElem?_append_right (by omega), show i.toNat - acc.length = 0 by omega]
  rfl
theorem rd49_old (acc : List S49) (x : S49) (j : Int) (h0 : 0 ≤ j) (h : j < (acc.length : Int)) : rd_T49 (acc ++ [x]) j = rd_T49 acc j := by
  unfold rd_T49
  rw [List.getD_eq_getElem?_getD, List.getD_eq_getElem?_getD, List.getElem?_append_left (by omega)]
structure TwoB (x : S73) : Prop where
  h0 : 0 ≤ x.f0 ∧ x.f0 ≤ 255
  h1 : 0 ≤ x.f1 ∧ x.f1 ≤ 255
theorem two_at {l : List S73} (hl : ∀ x ∈ l, TwoB x) {i : Int} (h0 : 0 ≤ i) (h1 : i < (l.length : Int)) : TwoB (rd_T73 l i) := by
  refine hl _ ?_
  unfold rd_T73
  rw [List.getD_eq_getElem?_getD, List.getElem?_eq_getElem (show i.toNat < l.length by omega)]
  exact List.getElem_mem _
theorem scheds_loop (G : G0 bl n) {l : List S73} (hl : ∀ x ∈ l, TwoB x) (hll : l.length ≤ 140737488351232) (d : Nat) : ∀ (i : Int) (acc : List S49), 0 ≤ i → i + d = n → (acc.length : Int) = i → (∀ j : Int, 0 ≤ j → j < i → Fine bl j (rd_T49 acc j)) →
    ∃ sc, Ev (fun k => jacquardref36_Scheds.l0 k l acc i nm ws ar st rt bl) sc ∧ sc.length = n ∧ ∀ j : Int, 0 ≤ j → j < (n : Int) → Fine bl j (rd_T49 sc j) := by
  have hn := G.hn
  have n1 := G.n1
  induction d with
  | zero =>
    intro i acc h0 hi ha hf
    refine ⟨acc, Ev.step (f := fun _ => some acc) (fun k => ?_) (Ev.now _), by omega, fun j j0 j1 => hf j j0 (by omega)⟩
    simp only [jacquardref36_Scheds.l0]
    rw [if_neg (by omega)]
  | succ d ih =>
    intro i acc h0 hi ha hf
    have wi : wrap64 (i + 1) = i + 1 := w64 (by omega) (by omega)
    have next : ∀ x, Fine bl i x → ∃ sc, Ev (fun k => jacquardref36_Scheds.l0 k l (acc ++ [x]) (i + 1) nm ws ar st rt bl) sc ∧ sc.length = n ∧ ∀ j : Int, 0 ≤ j → j < (n : Int) → Fine bl j (rd_T49 sc j) := fun x hx =>
      ih (i + 1) (acc ++ [x]) (by omega) (by omega) (by simp; omega) (fun j j0 j1 => by
        by_cases e : j = i
        · subst e; rw [rd49_last _ _ _ ha]; exact hx
        · rw [rd49_old _ _ _ j0 (by omega)]; exact hf j j0 (by omega))
    by_cases hl0 : (l.length : Int) > 0
    · have tl : 0 ≤ Int.tmod i (l.length : Int) ∧ Int.tmod i (l.length : Int) < (l.length : Int) := ⟨Int.tmod_nonneg _ h0, Int.tmod_lt_of_pos _ (by omega)⟩
      have X := two_at hl tl.1 tl.2
      have lz : ¬ (l.length : Int) = 0 := by omega
      generalize hm : Int.tmod i (l.length : Int) = m at tl X
      have td : 0 ≤ Int.tmod (rd_T73 l m).f1 20 ∧ Int.tmod (rd_T73 l m).f1 20 < 20 := ⟨Int.tmod_nonneg _ X.h1.1, Int.tmod_lt_of_pos _ (by omega)⟩
      have wd : wrap64 (1 + wrap64 (Int.tmod (rd_T73 l m).f1 20)) = 1 + Int.tmod (rd_T73 l m).f1 20 := by rw [w64 (x := Int.tmod (rd_T73 l m).f1 20) (by omega) (by omega), w64 (by omega) (by omega)]
      have plain : Fine bl i ⟨0, 1 + Int.tmod (rd_T73 l m).f1 20, [], [], []⟩ := ⟨⟨by dsimp only; omega, by dsimp only; omega⟩, ⟨by dsimp only; omega, by dsimp only; omega⟩, fun h => absurd h (by dsimp only; omega)⟩
      by_cases ho : Int.tmod (rd_T73 l m).f0 2 = 1
      · obtain ⟨r, hr, hrp⟩ := selfloop_ok (nm := nm) (ws := ws) (rt := rt) (ar := ar) (st := st) G h0 (show i < (n : Int) by omega)
        by_cases hr0 : r ≥ 0
        · have tq : 0 ≤ (Int.tdiv (rd_T73 l m).f0 2 % 256) % (1 + Int.tmod (rd_T73 l m).f1 20) ∧ (Int.tdiv (rd_T73 l m).f0 2 % 256) % (1 + Int.tmod (rd_T73 l m).f1 20) < 1 + Int.tmod (rd_T73 l m).f1 20 := ⟨Int.emod_nonneg _ (by omega), Int.emod_lt_of_pos _ (by omega)⟩
          obtain ⟨sc, hs, h⟩ := next ⟨1 + (Int.tdiv (rd_T73 l m).f0 2 % 256) % (1 + Int.tmod (rd_T73 l m).f1 20), 1 + Int.tmod (rd_T73 l m).f1 20, [], [], []⟩ ⟨⟨by dsimp only; omega, by dsimp only; omega⟩, ⟨by dsimp only; omega, by dsimp only; omega⟩, fun _ => hrp hr0⟩
          refine ⟨sc, Ev.step (fun k => by simp only [jacquardref36_Scheds.l0, hm, wd, wi]; rw [if_pos (by omega), if_pos hl0, if_neg lz, if_pos tl.1, if_pos tl.2, if_pos ho]) (Ev.bind hr (Ev.congr (fun k => ?_) hs)), h⟩
          rw [if_pos hr0, if_neg (by omega), w64 (x := 1 + (Int.tdiv (rd_T73 l m).f0 2 % 256) % (1 + Int.tmod (rd_T73 l m).f1 20)) (by omega) (by omega), if_pos (by omega)]
        · obtain ⟨sc, hs, h⟩ := next _ plain
          refine ⟨sc, Ev.step (fun k => by simp only [jacquardref36_Scheds.l0, hm, wd, wi]; rw [if_pos (by omega), if_pos hl0, if_neg lz, if_pos tl.1, if_pos tl.2, if_pos ho]) (Ev.bind hr (Ev.congr (fun k => ?_) hs)), h⟩
          rw [if_neg hr0, if_pos (by omega)]
      · obtain ⟨sc, hs, h⟩ := next _ plain
        refine ⟨sc, Ev.step (fun k => ?_) hs, h⟩
        simp only [jacquardref36_Scheds.l0, hm, wd, wi]
        rw [if_pos (by omega), if_pos hl0, if_neg lz, if_pos tl.1, if_pos tl.2, if_neg ho, if_pos (by omega)]
    · obtain ⟨sc, hs, h⟩ := next ⟨0, 1, [], [], []⟩ ⟨⟨by decide, by decide⟩, ⟨by decide, by decide⟩, fun h => absurd h (by decide)⟩
      refine ⟨sc, Ev.step (fun k => ?_) hs, h⟩
      simp only [jacquardref36_Scheds.l0, wi]
      rw [if_pos (by omega), if_neg hl0, if_pos (by omega)]
theorem scheds_ok (G : G0 bl n) {l : List S73} (hl : ∀ x ∈ l, TwoB x) (hll : l.length ≤ 140737488351232) : ∃ sc, Ev (fun k => jacquardref36_Scheds.f k nm ws ar st rt bl l) sc ∧ Gr bl sc n := by
  obtain ⟨sc, hs, h1, h2⟩ := scheds_loop (nm := nm) (ws := ws) (rt := rt) (ar := ar) (st := st) G hl hll n 0 [] (by omega) (by omega) rfl (fun j j0 j1 => by omega)
  exact ⟨sc, hs, ⟨G.hn, h1, G.n1, G.T, fun b b0 b1 => ⟨(h2 b b0 b1).1, (h2 b b0 b1).2.1⟩, fun b b0 b1 h => (h2 b b0 b1).2.2 h⟩⟩
/-! #### walks -/
def lst (b : Int) : List Int → Int
  | [] => b
  | c :: l => lst c l
theorem lst_rd : ∀ (l : List Int) (b : Int), rd (b :: l) (l.length : Int) = lst b l
  | [], b => rfl
  | c :: l, b => by
    rw [lst, ← lst_rd l c]
    unfold rd
    rw [Int.toNat_natCast, Int.toNat_natCast]
    rfl
theorem okP_snoc (c : Int) : ∀ (l : List Int) (b : Int), okP bl n b (l ++ [c]) = (okP bl n b l && (decide (0 ≤ c) && decide (c < (n : Int)) && eB bl (lst b l) c))
  | [], b => by simp [okP, lst]
  | x :: l, b => by
    rw [List.cons_append, okP, okP, lst, okP_snoc c l x]
    simp only [Bool.and_assoc]
theorem okP_range : ∀ (l : List Int) (b : Int), okP bl n b l = true → ∀ c ∈ l, 0 ≤ c ∧ c < (n : Int)
  | [], _, _ => by simp
  | x :: l, b, h => by
    rw [okP, Bool.and_eq_true, Bool.and_eq_true, Bool.and_eq_true, decide_eq_true_eq, decide_eq_true_eq] at h
    intro c hc
    rcases List.mem_cons.mp hc with rfl | hc
    · exact h.1.1
    · exact okP_range l x h.2 c hc
theorem lst_range : ∀ (l : List Int) (b : Int), (0 ≤ b ∧ b < (n : Int)) → okP bl n b l = true → 0 ≤ lst b l ∧ lst b l < (n : Int)
  | [], _, hb, _ => hb
  | x :: l, b, _, h => by
    rw [lst]
    have hx := okP_range (x :: l) b h x (List.mem_cons_self)
    rw [okP, Bool.and_eq_true] at h
    exact lst_range l x hx h.2
theorem byte_at {l : List Int} (hl : ∀ x ∈ l, 0 ≤ x ∧ x ≤ 255) {i : Int} (h0 : 0 ≤ i) (h1 : i < (l.length : Int)) : 0 ≤ rd l i ∧ rd l i ≤ 255 := by
  refine hl _ ?_
  unfold rd
  rw [List.getD_eq_getElem?_getD, List.getElem?_eq_getElem (show i.toNat < l.length by omega)]
  exact List.getElem_mem _
/-! #### the reference's issues -/
def costOf (sc : List S49) (b : Int) : List Int → Int
  | [] => dpOf sc b
  | c :: _ => if c = b ∧ 0 < iiOf sc b then iiOf sc b else dpOf sc b
def issL (sc : List S49) (t : Int) : List Int → List Int
  | [] => []
  | b :: l => t :: issL sc (t + costOf sc b l) l
def endL (sc : List S49) (t : Int) : List Int → Int
  | [] => t
  | b :: l => endL sc (t + costOf sc b l) l
theorem cost_in (G : Gr bl sc n) {b : Int} (hb : 0 ≤ b ∧ b < (n : Int)) (l : List Int) : 0 ≤ costOf sc b l ∧ costOf sc b l ≤ 20 := by
  have D := G.D b hb.1 hb.2
  cases l with
  | nil =>
    show 0 ≤ dpOf sc b ∧ dpOf sc b ≤ 20
    omega
  | cons c l => unfold costOf; split <;> omega
end

/-! ### what stretches take -/
section
variable {nm : ByteArray} {ws rt : List Int} {ar : List S75} {st : List S77} {bl : List S66} {sc : List S49} {n : Nat}
def lenOf (sc : List S49) (s : S46) : Int := if 0 < iiOf sc s.f0 then (s.f1 - 1) * iiOf sc s.f0 + dpOf sc s.f0 else s.f1 * dpOf sc s.f0
def pI (sc : List S49) (t : Int) : List S46 → List Int
  | [] => []
  | s :: r => (List.range s.f1.toNat).map (fun k : Nat => t + (k : Int) * iiOf sc s.f0) ++ pI sc (t + lenOf sc s) r
def pE (sc : List S49) (t : Int) : List S46 → Int
  | [] => t
  | s :: r => pE sc (t + lenOf sc s) r
theorem range_one (f : Nat → Int) (v : Nat) (h : 1 ≤ v) : (List.range v).map f = (List.range (v - 1)).map f ++ [f (v - 1)] := by
  obtain ⟨u, rfl⟩ : ∃ u, v = u + 1 := ⟨v - 1, by omega⟩
  rw [List.range_succ, List.map_append, Nat.add_sub_cancel]
  rfl
theorem pI_spl (sc : List S49) : ∀ (l : List Int) (b v t : Int), 1 ≤ v → (v = 1 ∨ 0 < iiOf sc b) →
    pI sc t (spl sc b v l) = (List.range (v.toNat - 1)).map (fun k : Nat => t + (k : Int) * iiOf sc b) ++ issL sc (t + (v - 1) * iiOf sc b) (b :: l)
  | [], b, v, t, hv, _ => by
    rw [spl, pI, pI, issL, issL, List.append_nil]
    dsimp only
    rw [range_one _ _ (by omega), show ((v.toNat - 1 : Nat) : Int) = v - 1 by omega]
  | c :: l, b, v, t, hv, hp => by
    rw [spl, issL]
    by_cases h : b = c ∧ 0 < iiOf sc c
    · obtain ⟨rfl, hii⟩ := h
      rw [if_pos ⟨rfl, hii⟩, pI_spl sc l b (v + 1) t (by omega) (.inr hii), show (v + 1).toNat - 1 = v.toNat by omega, range_one _ _ (show 1 ≤ v.toNat by omega), show ((v.toNat - 1 : Nat) : Int) = v - 1 by omega, List.append_assoc, List.singleton_append]
      have e : costOf sc b (b :: l) = iiOf sc b := if_pos ⟨rfl, hii⟩
      rw [e, show t + (v + 1 - 1) * iiOf sc b = t + (v - 1) * iiOf sc b + iiOf sc b by rw [show v + 1 - 1 = v by omega, Int.sub_mul]; omega]
    · rw [if_neg h, pI, pI_spl sc l c 1 (t + lenOf sc ⟨b, v⟩) (by omega) (.inl rfl)]
      dsimp only
      rw [range_one _ _ (show 1 ≤ v.toNat by omega), show ((v.toNat - 1 : Nat) : Int) = v - 1 by omega, List.append_assoc, List.singleton_append]
      have e : costOf sc b (c :: l) = dpOf sc b := if_neg (fun x => h ⟨x.1.symm, by rw [x.1]; exact x.2⟩)
      have e2 : t + lenOf sc ⟨b, v⟩ = t + (v - 1) * iiOf sc b + dpOf sc b := by
        unfold lenOf
        dsimp only
        split
        · omega
        · rename_i hn
          rcases hp with rfl | hp
          · omega
          · exact absurd hp hn
      rw [e, e2]
      simp
theorem pE_spl (sc : List S49) : ∀ (l : List Int) (b v t : Int), 1 ≤ v → (v = 1 ∨ 0 < iiOf sc b) → pE sc t (spl sc b v l) = endL sc (t + (v - 1) * iiOf sc b) (b :: l)
  | [], b, v, t, hv, hp => by
    rw [spl, pE, pE, endL, endL]
    unfold lenOf costOf
    dsimp only
    split
    · omega
    · rename_i hn
      rcases hp with rfl | hp
      · omega
      · exact absurd hp hn
  | c :: l, b, v, t, hv, hp => by
    rw [spl, endL]
    by_cases h : b = c ∧ 0 < iiOf sc c
    · obtain ⟨rfl, hii⟩ := h
      have e : costOf sc b (b :: l) = iiOf sc b := if_pos ⟨rfl, hii⟩
      rw [if_pos ⟨rfl, hii⟩, pE_spl sc l b (v + 1) t (by omega) (.inr hii), e, show t + (v + 1 - 1) * iiOf sc b = t + (v - 1) * iiOf sc b + iiOf sc b by rw [show v + 1 - 1 = v by omega, Int.sub_mul]; omega]
    · rw [if_neg h, pE, pE_spl sc l c 1 (t + lenOf sc ⟨b, v⟩) (by omega) (.inl rfl)]
      have e : costOf sc b (c :: l) = dpOf sc b := if_neg (fun x => h ⟨x.1.symm, by rw [x.1]; exact x.2⟩)
      have e2 : t + lenOf sc ⟨b, v⟩ = t + (v - 1) * iiOf sc b + dpOf sc b := by
        unfold lenOf
        dsimp only
        split
        · omega
        · rename_i hn
          rcases hp with rfl | hp
          · omega
          · exact absurd hp hn
      rw [e, e2]
      simp
/-- A stretch of a path. -/
def OkS (n : Nat) (m : Int) (s : S46) : Prop := (0 ≤ s.f0 ∧ s.f0 < (n : Int)) ∧ 1 ≤ s.f1 ∧ s.f1 ≤ m
theorem spl_in (sc : List S49) : ∀ (l : List Int) (b v m : Int), (0 ≤ b ∧ b < (n : Int)) → (∀ c ∈ l, 0 ≤ c ∧ c < (n : Int)) → 1 ≤ v → v + l.length ≤ m → (∀ s ∈ spl sc b v l, OkS n m s) ∧ (spl sc b v l).length ≤ l.length + 1
  | [], b, v, m, hb, _, hv, hm => by
    rw [spl]
    refine ⟨fun s hs => ?_, by simp⟩
    rw [List.mem_singleton] at hs
    subst hs
    exact ⟨hb, hv, by simp at hm; exact hm⟩
  | c :: l, b, v, m, hb, hl, hv, hm => by
    rw [List.length_cons] at hm
    have hc := hl c (List.mem_cons_self)
    have hl' := fun x hx => hl x (List.mem_cons_of_mem _ hx)
    rw [spl]
    split
    · obtain ⟨h1, h2⟩ := spl_in sc l b (v + 1) m hb hl' (by omega) (by omega)
      exact ⟨h1, by rw [List.length_cons]; omega⟩
    · obtain ⟨h1, h2⟩ := spl_in sc l c 1 m hc hl' (by omega) (by omega)
      refine ⟨fun s hs => ?_, by rw [List.length_cons, List.length_cons]; omega⟩
      rcases List.mem_cons.mp hs with rfl | hs
      · exact ⟨hb, hv, by dsimp only; omega⟩
      · exact h1 s hs
theorem mulB {a b A B : Int} (h0 : 0 ≤ a) (h1 : a ≤ A) (h2 : 0 ≤ b) (h3 : b ≤ B) : 0 ≤ a * b ∧ a * b ≤ A * B := ⟨Int.mul_nonneg h0 h2, Int.mul_le_mul h1 h3 h2 (by omega)⟩
theorem lenOf_in (G : Gr bl sc n) {s : S46} (hs : OkS n 1000 s) : 0 ≤ lenOf sc s ∧ lenOf sc s ≤ 20020 := by
  obtain ⟨hb, hv, hm⟩ := hs
  have D := G.D _ hb.1 hb.2
  unfold lenOf
  split
  · have := mulB (a := s.f1 - 1) (b := iiOf sc s.f0) (A := 1000) (B := 20) (by omega) (by omega) (by omega) (by omega)
    omega
  · have := mulB (a := s.f1) (b := dpOf sc s.f0) (A := 1000) (B := 20) (by omega) (by omega) (by omega) (by omega)
    omega
theorem visit_ok (G : Gr bl sc n) {s : S46} (hs : OkS n 1000 s) : cycles_Visit.f (rd_T49 sc s.f0).f0 (rd_T49 sc s.f0).f1 (rd_T49 sc s.f0).f2 (rd_T49 sc s.f0).f3 (rd_T49 sc s.f0).f4 s.f1 = some (lenOf sc s) := by
  obtain ⟨hb, hv, hm⟩ := hs
  have D := G.D _ hb.1 hb.2
  have e0 : (rd_T49 sc s.f0).f0 = iiOf sc s.f0 := rfl
  have e1 : (rd_T49 sc s.f0).f1 = dpOf sc s.f0 := rfl
  unfold cycles_Visit.f lenOf
  rw [if_neg (by omega), e0, e1]
  by_cases hii : 0 < iiOf sc s.f0
  · have M := mulB (a := s.f1 - 1) (b := iiOf sc s.f0) (A := 1000) (B := 20) (by omega) (by omega) (by omega) (by omega)
    rw [if_neg (by omega), if_pos hii, w64 (x := s.f1 - 1) (by omega) (by omega), w64 (x := (s.f1 - 1) * iiOf sc s.f0) (by omega) (by omega), w64 (by omega) (by omega)]
  · have M := mulB (a := s.f1) (b := dpOf sc s.f0) (A := 1000) (B := 20) (by omega) (by omega) (by omega) (by omega)
    rw [if_pos (by omega), if_neg hii, w64 (by omega) (by omega)]
theorem length_ok (G : Gr bl sc n) {s : S46} (hs : OkS n 1000 s) : Ev (fun k => cycles_length.f k nm ws ar st rt bl sc s.f0 s.f1) (lenOf sc s) := by
  have V := visit_ok G hs
  obtain ⟨hb, hv, hm⟩ := hs
  have D := G.D _ hb.1 hb.2
  have hls := G.hs
  obtain ⟨r, hr, _, hrs⟩ := self_ok (nm := nm) (ws := ws) (rt := rt) (ar := ar) (st := st) G hb.1 hb.2
  refine Ev.congr (fun k => by unfold cycles_length.f; rfl) (Ev.bind hr ?_)
  by_cases hii : 0 < iiOf sc s.f0
  · have hr0 := hrs.mpr hii
    refine Ev.congr (f := fun _ => some (lenOf sc s)) (fun k => ?_) (Ev.now _)
    rw [if_neg (by omega), if_pos hb.1, if_pos (by omega), V]
    rfl
  · have hr0 : ¬ 0 ≤ r := fun h => hii (hrs.mp h)
    have M := mulB (a := s.f1) (b := dpOf sc s.f0) (A := 1000) (B := 20) (by omega) (by omega) (by omega) (by omega)
    refine Ev.congr (f := fun _ => some (lenOf sc s)) (fun k => ?_) (Ev.now _)
    rw [if_pos (by omega), if_pos hb.1, if_pos (by omega)]
    unfold lenOf
    rw [if_neg hii, show (rd_T49 sc s.f0).f1 = dpOf sc s.f0 from rfl, w64 (by omega) (by omega)]
theorem at46 {L : List S46} {P : S46 → Prop} (h : ∀ s ∈ L, P s) {i : Int} (h0 : 0 ≤ i) (h1 : i < (L.length : Int)) : P (rd_T46 L i) := by
  refine h _ ?_
  unfold rd_T46
  rw [List.getD_eq_getElem?_getD, List.getElem?_eq_getElem (show i.toNat < L.length by omega)]
  exact List.getElem_mem _
theorem count_loop (G : Gr bl sc n) (L : List S46) (hL : ∀ s ∈ L, OkS n 1000 s) (hl : L.length ≤ 1000) (d : Nat) : ∀ (i t : Int), 0 ≤ i → i + d = L.length → 0 ≤ t → t ≤ 1 + 20020 * i → Ev (fun k => cycles_Count.l0 k sc t L (L.length : Int) i nm ws ar st rt bl) (pE sc t (L.drop i.toNat), 0) := by
  induction d with
  | zero =>
    intro i t h0 hi ht ht2
    rw [drop_end (by omega)]
    refine Ev.step (f := fun _ => some (t, 0)) (fun k => ?_) (Ev.now _)
    simp only [cycles_Count.l0]
    rw [if_neg (by omega)]
  | succ d ih =>
    intro i t h0 hi ht ht2
    have O := at46 hL h0 (show i < (L.length : Int) by omega)
    have li := lenOf_in G O
    rw [drop_p h0 (by omega), pE]
    refine Ev.step (fun k => by simp only [cycles_Count.l0]; rw [if_pos (by omega), if_pos h0, if_pos (by omega)]) (Ev.bind (length_ok G O) ?_)
    rw [w64 (x := t + lenOf sc (rd_T46 L i)) (by omega) (by omega), w64 (x := i + 1) (by omega) (by omega)]
    exact ih (i + 1) _ (by omega) (by omega) (by omega) (by omega)
/-- A path from block 0 on. -/
structure OkPath (bl : List S66) (n : Nat) (q : List Int) : Prop where
  ok : okP bl n 0 q = true
  len : q.length ≤ 200
theorem OkPath.parts (G : Gr bl sc n) {q : List Int} (h : OkPath bl n q) : (∀ s ∈ spl sc 0 1 q, OkS n 1000 s) ∧ (spl sc 0 1 q).length ≤ 201 := by
  have n1 := G.n1
  have hl := h.len
  obtain ⟨h1, h2⟩ := spl_in (n := n) sc q 0 1 1000 ⟨by omega, by omega⟩ (okP_range q 0 h.ok) (by omega) (by omega)
  exact ⟨h1, by omega⟩
theorem OkPath.range (G : Gr bl sc n) {q : List Int} (h : OkPath bl n q) : ∀ c ∈ (0 :: q : List Int), 0 ≤ c ∧ c < (n : Int) := by
  have n1 := G.n1
  intro c hc
  rcases List.mem_cons.mp hc with rfl | hc
  · omega
  · exact okP_range q 0 h.ok c hc
theorem OkPath.split (G : Gr bl sc n) {q : List Int} (h : OkPath bl n q) : Ev (fun k => cycles_Split.f k nm ws ar st rt bl sc (0 :: q)) (spl sc 0 1 q, 0) := by
  have s := split_ok (nm := nm) (ws := ws) (rt := rt) (ar := ar) (st := st) G (0 :: q) (by have := h.len; simp; omega)
  dsimp only at s
  rw [if_pos ⟨rfl, h.ok⟩] at s
  exact s
theorem last_at (q : List Int) : wrap64 (((0 :: q : List Int).length : Int) - 1) = if q.length ≤ 140737488351232 then (q.length : Int) else wrap64 (((0 :: q : List Int).length : Int) - 1) := by
  split
  · rw [List.length_cons, w64 (by omega) (by omega)]; omega
  · rfl
/-- Count of a path. -/
theorem OkPath.count (G : Gr bl sc n) {q : List Int} (h : OkPath bl n q) : Ev (fun k => cycles_Count.f k nm ws ar st rt bl sc (0 :: q)) (if (rd_T66 bl (lst 0 q)).f2.f0 = 3 then (endL sc 1 (0 :: q), 0) else (0, 3)) := by
  have hl := h.len
  have n1 := G.n1
  have hn := G.hn
  have wl : wrap64 (((0 :: q : List Int).length : Int) - 1) = (q.length : Int) := by rw [List.length_cons, w64 (by omega) (by omega)]; omega
  have hr := lst_range (n := n) q 0 ⟨by omega, by omega⟩ h.ok
  have P := h.parts G
  refine Ev.congr (fun k => by unfold cycles_Count.f; rfl) (Ev.bind (h.split G) ?_)
  dsimp only
  have el : ((0 :: q : List Int).length : Int) = q.length + 1 := by simp
  by_cases hk : (rd_T66 bl (lst 0 q)).f2.f0 = 3
  · rw [if_pos hk]
    have C := count_loop (nm := nm) (ws := ws) (rt := rt) (ar := ar) (st := st) G _ P.1 (by omega) (spl sc 0 1 q).length 0 1 (by omega) (by omega) (by omega) (by omega)
    rw [show (spl sc 0 1 q).drop (0 : Int).toNat = spl sc 0 1 q from rfl, pE_spl sc q 0 1 1 (by omega) (.inl rfl), show (1 : Int) + (1 - 1) * iiOf sc 0 = 1 by omega] at C
    refine Ev.congr (fun k => ?_) C
    rw [if_pos rfl, wl, if_pos (by omega), if_pos (by omega), lst_rd, if_pos hr.1, if_pos (by omega), if_pos hk]
  · rw [if_neg hk]
    refine Ev.congr (f := fun _ => some (0, 3)) (fun k => ?_) (Ev.now _)
    rw [if_pos rfl, wl, if_pos (by omega), if_pos (by omega), lst_rd, if_pos hr.1, if_pos (by omega), if_neg hk]
theorem issL_len (sc : List S49) : ∀ (l : List Int) (t : Int), (issL sc t l).length = l.length
  | [], _ => rfl
  | b :: l, t => by rw [issL, List.length_cons, List.length_cons, issL_len sc l]
end

end Go.Proofs.Ytmefaegcoogmiaa.Pure
