/- The law RefuteSound holds: if any tree is accepted, there is no schedule with the interval, by trying all slots and units; no condition. -/
import Derived.Test.YtpmlbbglekaidaaPureG
import Derived.Test.YtpmlbbglekaidaaPureB
import Derived.Test.YtpmlbbglekaidaaF9
import Derived.Test.YtpmlbbglekaidaaF21
import Derived.Test.YtpmlbbglekaidaaF10
import Derived.Test.YtpmlbbglekaidaaF22
import Derived.Test.YtpmlbbglekaidaaF23
import Derived.Test.YtpmlbbglekaidaaF6
import Derived.Test.YtpmlbbglekaidaaF3
import Derived.Test.YtpmlbbglekaidaaQRefuteSound
namespace Go.Proofs.Ytpmlbbglekaidaa.Pure
open Go.RowKit Go.Proofs.Ytpmlbbglekaidaa.PAll Go.Proofs.YtpmlbbglekaidaaW.PrintWords Go.Proofs.YtpmlbbglekaidaaW.PrintLast
set_option linter.unusedVariables false
set_option linter.unusedSimpArgs false

/-! ### Possible: by trying all slots and units -/
def sumL : List Int → Int
  | [] => 0
  | a :: l => a + sumL l
theorem sumL_set : ∀ (l : List Int) (i : Nat) (v : Int), i < l.length → sumL (l.set i v) = sumL l + (v - rd l i)
  | [], i, v, h => absurd h (by simp)
  | a :: l, 0, v, _ => by
    show v + sumL l = a + sumL l + (v - a)
    omega
  | a :: l, i + 1, v, h => by
    have ih := sumL_set l i v (by simpa using h)
    have e : rd (a :: l) ((i + 1 : Nat) : Int) = rd l (i : Int) := by
      unfold rd
      rw [Int.toNat_natCast, Int.toNat_natCast]
      rfl
    show a + sumL (l.set i v) = a + sumL l + (v - rd (a :: l) ((i + 1 : Nat) : Int))
    rw [e, ih]
    omega
theorem sumL_le : ∀ (l : List Int) (B : Int), (∀ i : Int, 0 ≤ i → i < l.length → rd l i ≤ B) → sumL l ≤ l.length * B
  | [], B, _ => by simp [sumL]
  | a :: l, B, h => by
    have h0 : a ≤ B := h 0 (Int.le_refl _) (by simp)
    have ih := sumL_le l B (fun i i0 i1 => by
      have := h (i + 1) (by omega) (by rw [List.length_cons]; omega)
      have e : rd (a :: l) (i + 1) = rd l i := by
        unfold rd
        rw [show (i + 1).toNat = i.toNat + 1 by omega]
        rfl
      rw [e] at this
      exact this)
    show a + sumL l ≤ ((l.length + 1 : Nat) : Int) * B
    rw [Int.natCast_add, Int.add_mul]
    omega
section
variable {n p : Int} {lp : Bool} {ar : List S48} {rs : List S50} {ne : List S52} {ii : Int}
/-- The instructions that need a resource. -/
structure NY (n : Int) (ne : List S52) (ny : List Int) : Prop where
  r : ∀ q : Int, 0 ≤ q → q < ny.length → 0 ≤ rd ny q ∧ rd ny q < n ∧ 0 ≤ (rd_T52 ne (rd ny q)).f0
  inc : ∀ q q' : Int, 0 ≤ q → q < q' → q' < ny.length → rd ny q < rd ny q'
  all : ∀ i : Int, 0 ≤ i → i < n → 0 ≤ (rd_T52 ne i).f0 → ∃ q : Int, 0 ≤ q ∧ q < ny.length ∧ rd ny q = i
theorem rd_snoc (l : List Int) (x q : Int) (q0 : 0 ≤ q) : rd (l ++ [x]) q = if q < l.length then rd l q else if q = l.length then x else 0 := by
  unfold rd
  rw [List.getD_eq_getElem?_getD, List.getD_eq_getElem?_getD]
  by_cases h : q < l.length
  · rw [if_pos h, List.getElem?_append_left (by omega)]
  · rw [if_neg h, List.getElem?_append_right (by omega)]
    by_cases e : q = l.length
    · rw [if_pos e, show q.toNat - l.length = 0 by omega]; rfl
    · rw [if_neg e, List.getElem?_eq_none (by simp; omega)]; rfl
theorem needy_ok (F : FO n p ar rs ne) : ∃ ny, Ev (fun k => jacquardref33_Needy.f k n p lp ar rs ne) ny ∧ NY n ne ny ∧ ny.length ≤ 8 := by
  have ln := F.ln
  have n8 := F.n8
  have loop : ∀ (d : Nat) (i : Int) (l : List Int), 0 ≤ i → i + d = n → (l.length : Int) ≤ i → (∀ q : Int, 0 ≤ q → q < l.length → 0 ≤ rd l q ∧ rd l q < i ∧ 0 ≤ (rd_T52 ne (rd l q)).f0) → (∀ q q' : Int, 0 ≤ q → q < q' → q' < l.length → rd l q < rd l q') → (∀ x : Int, 0 ≤ x → x < i → 0 ≤ (rd_T52 ne x).f0 → ∃ q : Int, 0 ≤ q ∧ q < l.length ∧ rd l q = x) →
      ∃ ny, Ev (fun k => jacquardref33_Needy.l0 k l (ne.length : Int) i n p lp ar rs ne) ny ∧ NY n ne ny ∧ ny.length ≤ 8 := by
    intro d
    induction d with
    | zero =>
      intro i l i0 hd hl hr hinc hall
      refine ⟨l, Ev.step (f := fun _ => some l) (fun k => ?_) (Ev.now _), ⟨fun q q0 q1 => (by have := hr q q0 q1; omega), hinc, fun x x0 x1 hx => hall x x0 (by omega) hx⟩, by omega⟩
      simp only [jacquardref33_Needy.l0]
      rw [if_neg (by omega)]
    | succ d ih =>
      intro i l i0 hd hl hr hinc hall
      by_cases h : (rd_T52 ne i).f0 ≥ 0
      · obtain ⟨ny, h1, h2⟩ := ih (i + 1) (l ++ [i]) (by omega) (by omega) (by rw [List.length_append, List.length_singleton]; omega) (fun q q0 q1 => by
            rw [List.length_append, List.length_singleton] at q1
            rw [rd_snoc l i q q0]
            by_cases e : q < l.length
            · rw [if_pos e]; have := hr q q0 e; omega
            · rw [if_neg e, if_pos (by omega)]; omega) (fun q q' q0 q1 q2 => by
            rw [List.length_append, List.length_singleton] at q2
            rw [rd_snoc l i q q0, rd_snoc l i q' (by omega), if_pos (by omega)]
            by_cases e : q' < l.length
            · rw [if_pos e]; exact hinc q q' q0 q1 e
            · rw [if_neg e, if_pos (by omega)]; have := hr q q0 (by omega); omega) (fun x x0 x1 hx => by
            by_cases e : x = i
            · exact ⟨l.length, by omega, by rw [List.length_append, List.length_singleton]; omega, by rw [rd_snoc _ _ _ (by omega), if_neg (by omega), if_pos rfl, e]⟩
            · obtain ⟨q, q0, q1, q2⟩ := hall x x0 (by omega) hx
              exact ⟨q, q0, by rw [List.length_append, List.length_singleton]; omega, by rw [rd_snoc _ _ _ q0, if_pos q1, q2]⟩)
        refine ⟨ny, Ev.step (fun k => ?_) h1, h2⟩
        simp only [jacquardref33_Needy.l0]
        rw [if_pos (by omega), if_pos i0, if_pos (by omega), if_pos h, if_pos (by omega), w64 (by omega) (by omega)]
      · obtain ⟨ny, h1, h2⟩ := ih (i + 1) l (by omega) (by omega) (by omega) (fun q q0 q1 => by have := hr q q0 q1; omega) hinc (fun x x0 x1 hx => by
            by_cases e : x = i
            · rw [e] at hx; exact absurd hx h
            · exact hall x x0 (by omega) hx)
        refine ⟨ny, Ev.step (fun k => ?_) h1, h2⟩
        simp only [jacquardref33_Needy.l0]
        rw [if_pos (by omega), if_pos i0, if_pos (by omega), if_neg h, w64 (by omega) (by omega)]
  obtain ⟨ny, h1, h2⟩ := loop n.toNat 0 [] (Int.le_refl _) (by have := F.n0; omega) (by simp) (fun q q0 q1 => absurd q1 (by simp; omega)) (fun q q' q0 q1 q2 => absurd q2 (by simp; omega)) (fun x x0 x1 => absurd x1 (by omega))
  exact ⟨ny, h1, h2⟩
/-- The instructions that are fixed so far. -/
structure PS (n ii : Int) (rs : List S50) (ne : List S52) (ny : List Int) (l : List S44) : Prop where
  le : l.length ≤ ny.length
  v : ∀ q : Int, 0 ≤ q → q < l.length → (rd_T44 l q).f0 = rd ny q ∧ 0 ≤ (rd_T44 l q).f1 ∧ (rd_T44 l q).f1 < ii ∧ 0 ≤ (rd_T44 l q).f2 ∧ (rd_T44 l q).f2 < (rd_T50 rs (rd_T52 ne (rd ny q)).f0).f3 ∧ (rd_T52 ne (rd ny q)).f1 ≤ ii
/-- Starts, while they settle. -/
structure SE (n p ii lim : Int) (l : List S44) (s : List Int) : Prop where
  len : (s.length : Int) = n + p + 2
  b : ∀ v : Int, 0 ≤ v → v < n + p + 2 → 0 ≤ rd s v ∧ rd s v ≤ lim
  src : rd s (n + p) = 0
  fix : ∀ q : Int, 0 ≤ q → q < l.length → rd s (rd_T44 l q).f0 % ii = (rd_T44 l q).f1
theorem settles_ok (F : FO n p ar rs ne) (hi : 1 ≤ ii) (h2 : ii ≤ 256) {ny : List Int} (hny : NY n ne ny) (hn8 : ny.length ≤ 8) {l : List S44} (P : PS n ii rs ne ny l) :
    ∃ b, Ev (fun k => jacquardref33_settles.f k n p lp ar rs ne ii l) b ∧ (b = true → ∃ s lim, SE n p ii lim l s ∧ ∀ j : Int, 0 ≤ j → j < ar.length → rd s (rd_T48 ar j).f0 + ((rd_T48 ar j).f2 - ii * (rd_T48 ar j).f3) ≤ rd s (rd_T48 ar j).f1) := by
  have n0 := F.n0; have n8 := F.n8; have p0 := F.p0; have p4 := F.p4; have la := F.la
  have pl := P.le
  have fixn : ∀ q : Int, 0 ≤ q → q < l.length → 0 ≤ (rd_T44 l q).f0 ∧ (rd_T44 l q).f0 < n := fun q q0 q1 => by
    have := P.v q q0 q1; have := hny.r q q0 (by omega); omega
  have dist : ∀ q q' : Int, 0 ≤ q → q < l.length → 0 ≤ q' → q' < l.length → (rd_T44 l q).f0 = (rd_T44 l q').f0 → q = q' := fun q q' q0 q1 q0' q1' e => by
    have a := P.v q q0 q1; have b := P.v q' q0' q1'
    rcases Int.lt_trichotomy q q' with h | h | h
    · have := hny.inc q q' q0 h (by omega); omega
    · exact h
    · have := hny.inc q' q q0' h (by omega); omega
  have key : ∀ lim : Int, 0 ≤ lim → lim ≤ 100000 → ∀ (R : Nat) (s : List Int), SE n p ii lim l s → (n + p + 2) * lim + 1 ≤ sumL s + R →
      ∃ b, Ev (fun k => jacquardref33_settles.l2 k ii l s lim true n p lp ar rs ne) b ∧ (b = true → ∃ s lim, SE n p ii lim l s ∧ ∀ j : Int, 0 ≤ j → j < ar.length → rd s (rd_T48 ar j).f0 + ((rd_T48 ar j).f2 - ii * (rd_T48 ar j).f3) ≤ rd s (rd_T48 ar j).f1) := by
    intro lim lim0 lim1 R
    induction R with
    | zero =>
      intro s S hs
      have := sumL_le s lim (fun i i0 i1 => (S.b i i0 (by have := S.len; omega)).2)
      rw [S.len] at this
      omega
    | succ R ihR =>
      intro s S hs
      have inner : ∀ (d : Nat) (i : Int) (s' : List Int) (ch : Bool), 0 ≤ i → i + d = ar.length → SE n p ii lim l s' → sumL s ≤ sumL s' → (ch = true → sumL s < sumL s') → (ch = false → ∀ j : Int, 0 ≤ j → j < i → rd s' (rd_T48 ar j).f0 + ((rd_T48 ar j).f2 - ii * (rd_T48 ar j).f3) ≤ rd s' (rd_T48 ar j).f1) →
          ∃ b, Ev (fun k => jacquardref33_settles.l3 k ii l s' lim ch (ar.length : Int) i n p lp ar rs ne) b ∧ (b = true → ∃ s lim, SE n p ii lim l s ∧ ∀ j : Int, 0 ≤ j → j < ar.length → rd s (rd_T48 ar j).f0 + ((rd_T48 ar j).f2 - ii * (rd_T48 ar j).f3) ≤ rd s (rd_T48 ar j).f1) := by
        intro d
        induction d with
        | zero =>
          intro i s' ch i0 hd S' hle hlt hall
          by_cases hc : ch = true
          · obtain ⟨b, hb, hq⟩ := ihR s' S' (by have := hlt hc; omega)
            refine ⟨b, Ev.step (fun k => ?_) hb, hq⟩
            simp only [jacquardref33_settles.l3]
            rw [if_neg (by omega), hc]
          · refine ⟨true, Ev.step (f := fun k => jacquardref33_settles.l2 k ii l s' lim ch n p lp ar rs ne) (fun k => ?_) (Ev.step (f := fun _ => some true) (fun k => ?_) (Ev.now _)), fun _ => ⟨s', lim, S', fun j j0 j1 => hall (by simpa using hc) j j0 (by omega)⟩⟩
            · simp only [jacquardref33_settles.l3]
              rw [if_neg (by omega)]
            · simp only [jacquardref33_settles.l2]
              rw [if_neg hc]
        | succ d ih =>
          intro i s' ch i0 hd S' hle hlt hall
          have A := F.arc i i0 (by omega)
          have mB := mulB hi h2 A.2.2.2.2.2.2.1 A.2.2.2.2.2.2.2
          have hw := weight_ok F hi h2 i0 (by omega)
          have sl := S'.len
          have bf := S'.b (rd_T48 ar i).f0 A.1 (by omega)
          have bt := S'.b (rd_T48 ar i).f1 A.2.2.1 (by omega)
          generalize hW : (rd_T48 ar i).f2 - ii * (rd_T48 ar i).f3 = W at hw
          have Wb : -1536 ≤ W ∧ W ≤ 12 := by omega
          have un : ∀ k, jacquardref33_settles.l3 (k + 1) ii l s' lim ch (ar.length : Int) i n p lp ar rs ne = (if (rd s' ((rd_T48 ar i).f1)) ≥ rd s' ((rd_T48 ar i).f0) + W then (jacquardref33_settles.l3 k ii l s' lim ch (ar.length : Int) (i + 1) n p lp ar rs ne) else ((jacquardref33_slot.f k n p lp ar rs ne l ((rd_T48 ar i).f1)).bind fun t401 => (if t401 ≥ 0 then ((jacquardref33_mod.f (wrap64 (t401 - (rd s' ((rd_T48 ar i).f0) + W))) ii).bind fun t402 => (jacquardref33_settles.j4 k ii l s' lim (wrap64 (rd s' ((rd_T48 ar i).f0) + W + t402)) (ar.length : Int) i n p lp ar rs ne ((rd_T48 ar i).f0) ((rd_T48 ar i).f1) ((rd_T48 ar i).f2) ((rd_T48 ar i).f3))) else (jacquardref33_settles.j4 k ii l s' lim (rd s' ((rd_T48 ar i).f0) + W) (ar.length : Int) i n p lp ar rs ne ((rd_T48 ar i).f0) ((rd_T48 ar i).f1) ((rd_T48 ar i).f2) ((rd_T48 ar i).f3))))) := by
            intro k
            simp only [jacquardref33_settles.l3]
            rw [if_pos (by omega), if_pos i0, if_pos (by omega), if_pos A.1, if_pos (by omega), hw]
            simp only [Option.bind_some]
            rw [if_pos A.2.2.1, if_pos (by omega), w64 (x := rd s' (rd_T48 ar i).f0 + W) (by omega) (by omega), w64 (x := i + 1) (by omega) (by omega)]
          by_cases h : rd s' (rd_T48 ar i).f1 ≥ rd s' (rd_T48 ar i).f0 + W
          · obtain ⟨b, hb, hq⟩ := ih (i + 1) s' ch (by omega) (by omega) S' hle hlt (fun hc j j0 j1 => by
              by_cases e : j = i
              · rw [e, hW]; exact h
              · exact hall hc j j0 (by omega))
            exact ⟨b, Ev.step (fun k => (un k).trans (if_pos h)) hb, hq⟩
          · generalize ht : rd s' (rd_T48 ar i).f0 + W = t at un h
            have htb : t ≤ lim + 12 := by omega
            have htb0 : rd s' (rd_T48 ar i).f1 < t := by omega
            -- behind the new start
            have after : ∀ t' : Int, t ≤ t' → t' ≤ lim + 300 → ((rd_T48 ar i).f1 ≠ n + p → ∀ q : Int, 0 ≤ q → q < l.length → (rd_T44 l q).f0 = (rd_T48 ar i).f1 → t' % ii = (rd_T44 l q).f1) →
                ∃ b, Ev (fun k => jacquardref33_settles.j4 k ii l s' lim t' (ar.length : Int) i n p lp ar rs ne ((rd_T48 ar i).f0) ((rd_T48 ar i).f1) ((rd_T48 ar i).f2) ((rd_T48 ar i).f3)) b ∧ (b = true → ∃ s lim, SE n p ii lim l s ∧ ∀ j : Int, 0 ≤ j → j < ar.length → rd s (rd_T48 ar j).f0 + ((rd_T48 ar j).f2 - ii * (rd_T48 ar j).f3) ≤ rd s (rd_T48 ar j).f1) := by
              intro t' h1 h3 hfix
              have hj5 : ∀ (y : List Int), Ev (fun k => jacquardref33_settles.j5 k ii l y lim true (ar.length : Int) i true n p lp ar rs ne) false := fun y => Ev.step (f := fun _ => some false) (fun k => by simp only [jacquardref33_settles.j5]; rw [if_pos trivial]) (Ev.now _)
              have un4 : ∀ k, jacquardref33_settles.j4 (k + 1) ii l s' lim t' (ar.length : Int) i n p lp ar rs ne ((rd_T48 ar i).f0) ((rd_T48 ar i).f1) ((rd_T48 ar i).f2) ((rd_T48 ar i).f3) = (if t' > lim then (jacquardref33_settles.j5 k ii l (s'.set (rd_T48 ar i).f1.toNat t') lim true (ar.length : Int) i true n p lp ar rs ne) else (if (rd_T48 ar i).f1 = n + p then (jacquardref33_settles.j5 k ii l (s'.set (rd_T48 ar i).f1.toNat t') lim true (ar.length : Int) i (decide (t' > 0)) n p lp ar rs ne) else (jacquardref33_settles.j5 k ii l (s'.set (rd_T48 ar i).f1.toNat t') lim true (ar.length : Int) i false n p lp ar rs ne))) := by
                intro k
                simp only [jacquardref33_settles.j4]
                rw [if_pos A.2.2.1, if_pos (by omega), F.rsrc]
                simp only [Option.bind_some]
              by_cases g1 : t' > lim
              · exact ⟨false, Ev.step (fun k => (un4 k).trans (if_pos g1)) (hj5 _), fun h => absurd h (by simp)⟩
              by_cases g2 : (rd_T48 ar i).f1 = n + p
              · have : t' > 0 := by rw [g2, S'.src] at htb0; omega
                exact ⟨false, Ev.step (fun k => (un4 k).trans ((if_neg g1).trans ((if_pos g2).trans (by rw [decide_eq_true this])))) (hj5 _), fun h => absurd h (by simp)⟩
              · have S'' : SE n p ii lim l (s'.set (rd_T48 ar i).f1.toNat t') := by
                  refine ⟨by rw [List.length_set]; exact sl, fun v v0 v1 => ?_, ?_, fun q q0 q1 => ?_⟩
                  · rw [rd_set _ _ A.2.2.1 (by omega) _ _ v0]
                    by_cases e : v = (rd_T48 ar i).f1
                    · rw [if_pos e]; omega
                    · rw [if_neg e]; exact S'.b v v0 v1
                  · rw [rd_set _ _ A.2.2.1 (by omega) _ _ (by omega), if_neg (by omega)]; exact S'.src
                  · rw [rd_set _ _ A.2.2.1 (by omega) _ _ (fixn q q0 q1).1]
                    by_cases e : (rd_T44 l q).f0 = (rd_T48 ar i).f1
                    · rw [if_pos e]; exact hfix g2 q q0 q1 e
                    · rw [if_neg e]; exact S'.fix q q0 q1
                have hsum : sumL s < sumL (s'.set (rd_T48 ar i).f1.toNat t') := by
                  rw [sumL_set _ _ _ (by omega), Int.toNat_of_nonneg A.2.2.1]
                  omega
                obtain ⟨b, hb, hq⟩ := ih (i + 1) _ true (by omega) (by omega) S'' (by omega) (fun _ => hsum) (fun h => absurd h (by simp))
                refine ⟨b, Ev.step (fun k => (un4 k).trans ((if_neg g1).trans (if_neg g2))) (Ev.step (fun k => ?_) hb), hq⟩
                simp only [jacquardref33_settles.j5]
                rw [if_neg Bool.false_ne_true, w64 (by omega) (by omega)]
            obtain ⟨sv, hsv, hsp⟩ := rslot_ok (lp := lp) F l (by omega) (rd_T48 ar i).f1
            by_cases hs0 : sv ≥ 0
            · have sb : sv < ii := by
                rcases hsp with ⟨_, e⟩ | ⟨_, ⟨e, _⟩ | ⟨q, q0, q1, q2, q3, _⟩⟩
                · omega
                · omega
                · have := P.v q q0 q1; omega
              have m0 := Int.emod_nonneg (sv - t) (show ii ≠ 0 by omega)
              have m1 := Int.emod_lt_of_pos (sv - t) (show 0 < ii by omega)
              obtain ⟨b, hb, hq⟩ := after (t + (sv - t) % ii) (by omega) (by omega) (fun hne q q0 q1 e => by
                rcases hsp with ⟨e', _⟩ | ⟨_, ⟨e', _⟩ | ⟨q', q0', q1', q2, q3, _⟩⟩
                · exact absurd e' hne
                · omega
                · have := dist q q' q0 q1 q0' q1' (by omega)
                  rw [this, ← q3, Int.add_emod_emod, show t + (sv - t) = sv by omega, Int.emod_eq_of_lt hs0 sb])
              refine ⟨b, Ev.step (fun k => (un k).trans (if_neg h)) (Ev.bind hsv (Ev.congr (fun k => (if_pos hs0).trans ?_) hb)), hq⟩
              rw [mod_ok hi h2, w64 (x := sv - t) (by omega) (by omega)]
              simp only [Option.bind_some]
              rw [w64 (by omega) (by omega)]
            · obtain ⟨b, hb, hq⟩ := after t (Int.le_refl _) (by omega) (fun hne q q0 q1 e => by
                rcases hsp with ⟨e', _⟩ | ⟨_, ⟨e', hno⟩ | ⟨q', q0', q1', q2, q3, _⟩⟩
                · exact absurd e' hne
                · exact absurd e (hno q q0 q1)
                · have := P.v q' q0' q1'; omega)
              exact ⟨b, Ev.step (fun k => (un k).trans (if_neg h)) (Ev.bind hsv (Ev.congr (fun k => if_neg hs0) hb)), hq⟩
      obtain ⟨b, hb, hq⟩ := inner ar.length 0 s false (Int.le_refl _) (by omega) S (Int.le_refl _) (fun h => absurd h (by simp)) (fun _ j j0 j1 => absurd j1 (by omega))
      refine ⟨b, Ev.step (fun k => ?_) hb, hq⟩
      simp only [jacquardref33_settles.l2]
      rw [if_pos trivial]
  -- the limit
  have lims : ∀ (s : List Int) (d : Nat) (i lim : Int), 0 ≤ i → i + d = ar.length → ii ≤ lim → lim ≤ 50000 + i * 12 → SE n p ii ii l s → ∃ b, Ev (fun k => jacquardref33_settles.l1 k ii l s lim (ar.length : Int) i n p lp ar rs ne) b ∧ (b = true → ∃ s lim, SE n p ii lim l s ∧ ∀ j : Int, 0 ≤ j → j < ar.length → rd s (rd_T48 ar j).f0 + ((rd_T48 ar j).f2 - ii * (rd_T48 ar j).f3) ≤ rd s (rd_T48 ar j).f1) := by
    intro s d
    induction d with
    | zero =>
      intro i lim i0 hd h0 h1 S
      obtain ⟨b, hb, hq⟩ := key lim (by omega) (by omega) ((n + p + 2) * lim + 1 - sumL s).toNat s ⟨S.len, fun v v0 v1 => (by have := S.b v v0 v1; omega), S.src, S.fix⟩ (by omega)
      refine ⟨b, Ev.step (fun k => ?_) hb, hq⟩
      simp only [jacquardref33_settles.l1]
      rw [if_neg (by omega)]
    | succ d ih =>
      intro i lim i0 hd h0 h1 S
      have A := F.arc i i0 (by omega)
      obtain ⟨b, hb, hq⟩ := ih (i + 1) (lim + (rd_T48 ar i).f2) (by omega) (by omega) (by omega) (by omega) S
      refine ⟨b, Ev.step (fun k => ?_) hb, hq⟩
      simp only [jacquardref33_settles.l1]
      rw [if_pos (by omega), if_pos i0, if_pos (by omega), w64 (x := lim + (rd_T48 ar i).f2) (by omega) (by omega), w64 (by omega) (by omega)]
  -- the fixed starts
  have fixes : ∀ (d : Nat) (i : Int) (s : List Int), 0 ≤ i → i + d = l.length → (s.length : Int) = n + p + 2 → (∀ v : Int, 0 ≤ v → v < n + p + 2 → 0 ≤ rd s v ∧ rd s v ≤ ii) → rd s (n + p) = 0 → (∀ q : Int, 0 ≤ q → q < i → rd s (rd_T44 l q).f0 = (rd_T44 l q).f1) →
      ∃ b, Ev (fun k => jacquardref33_settles.l0 k ii l (n + p + 2) s (l.length : Int) i n p lp ar rs ne) b ∧ (b = true → ∃ s lim, SE n p ii lim l s ∧ ∀ j : Int, 0 ≤ j → j < ar.length → rd s (rd_T48 ar j).f0 + ((rd_T48 ar j).f2 - ii * (rd_T48 ar j).f3) ≤ rd s (rd_T48 ar j).f1) := by
    intro d
    induction d with
    | zero =>
      intro i s i0 hd hs hb hsrc hf
      have hm : 0 ≤ ii * (n + p + 2 + 1) ∧ ii * (n + p + 2 + 1) ≤ 256 * 15 := ⟨Int.mul_nonneg (by omega) (by omega), Int.mul_le_mul h2 (by omega) (by omega) (by omega)⟩
      have hm1 : ii * 1 ≤ ii * (n + p + 2 + 1) := Int.mul_le_mul_of_nonneg_left (by omega) (by omega)
      obtain ⟨b, hb', hq⟩ := lims s ar.length 0 (ii * (n + p + 2 + 1)) (Int.le_refl _) (by omega) (by omega) (by omega) ⟨hs, hb, hsrc, fun q q0 q1 => (by rw [hf q q0 (by omega)]; have := P.v q q0 q1; exact Int.emod_eq_of_lt (by omega) (by omega))⟩
      refine ⟨b, Ev.step (fun k => ?_) hb', hq⟩
      simp only [jacquardref33_settles.l0]
      rw [if_neg (by omega), w64 (x := n + p + 2 + 1) (by omega) (by omega), w64 (by omega) (by omega)]
    | succ d ih =>
      intro i s i0 hd hs hb hsrc hf
      have hfx := fixn i i0 (by omega)
      have hv := P.v i i0 (by omega)
      obtain ⟨b, hb', hq⟩ := ih (i + 1) (s.set (rd_T44 l i).f0.toNat (rd_T44 l i).f1) (by omega) (by omega) (by rw [List.length_set]; exact hs) (fun v v0 v1 => by
          rw [rd_set _ _ hfx.1 (by omega) _ _ v0]
          by_cases e : v = (rd_T44 l i).f0
          · rw [if_pos e]; omega
          · rw [if_neg e]; exact hb v v0 v1) (by rw [rd_set _ _ hfx.1 (by omega) _ _ (by omega), if_neg (by omega)]; exact hsrc) (fun q q0 q1 => by
          rw [rd_set _ _ hfx.1 (by omega) _ _ (fixn q q0 (by omega)).1]
          by_cases e : (rd_T44 l q).f0 = (rd_T44 l i).f0
          · rw [if_pos e, dist q i q0 (by omega) i0 (by omega) e]
          · rw [if_neg e]
            exact hf q q0 (by
              by_cases e' : q = i
              · rw [e'] at e; exact absurd rfl e
              · omega))
      refine ⟨b, Ev.step (fun k => ?_) hb', hq⟩
      simp only [jacquardref33_settles.l0]
      rw [if_pos (by omega), if_pos i0, if_pos (by omega), if_pos hfx.1, if_pos (by omega), w64 (by omega) (by omega)]
  have rep : ∀ v : Int, 0 ≤ v → rd (List.replicate (n + p + 2).toNat 0) v = 0 := fun v v0 => by
    unfold rd
    rw [List.getD_eq_getElem?_getD, List.getElem?_replicate]
    split <;> rfl
  obtain ⟨b, hb, hq⟩ := fixes l.length 0 (List.replicate (n + p + 2).toNat 0) (Int.le_refl _) (by omega) (by rw [List.length_replicate]; omega) (fun v v0 v1 => by rw [rep v v0]; omega) (rep _ (by omega)) (fun q q0 q1 => absurd q1 (by omega))
  refine ⟨b, Ev.congr (fun k => ?_) hb, hq⟩
  unfold jacquardref33_settles.f
  rw [rend n0 (by omega) p0 (by omega)]
  simp only [Option.bind_some]
  rw [w64 (x := n + p + 1 + 1) (by omega) (by omega), show n + p + 1 + 1 = n + p + 2 by omega, if_pos (by omega), if_pos (by omega)]
end

section
variable {n p : Int} {lp : Bool} {ar : List S48} {rs : List S50} {ne : List S52} {ii : Int}
def noClash33 (ne : List S52) (ii : Int) (a b : S44) : Prop := (rd_T52 ne a.f0).f0 = (rd_T52 ne b.f0).f0 → a.f2 = b.f2 → ¬ ((b.f1 - a.f1) % ii < (rd_T52 ne a.f0).f1) ∧ ¬ ((a.f1 - b.f1) % ii < (rd_T52 ne b.f0).f1)
theorem clash33_ok (F : FO n p ar rs ne) (hi : 1 ≤ ii) (h2 : ii ≤ 256) {a b : S44} (a0 : 0 ≤ a.f0) (a1 : a.f0 < n) (b0 : 0 ≤ b.f0) (b1 : b.f0 < n) (s0 : 0 ≤ a.f1) (s1 : a.f1 < ii) (t0 : 0 ≤ b.f1) (t1 : b.f1 < ii) : ∃ r, Ev (fun k => jacquardref33_clash.f k n p lp ar rs ne ii a.f0 a.f1 a.f2 b.f0 b.f1 b.f2) r ∧ (r = false → noClash33 ne ii a b) := by
  have ln := F.ln
  have hf : ∀ (x1 x2 x3 x4 : Int), Ev (fun k => jacquardref33_clash.j0 k ii true a.f0 a.f1 a.f2 b.f0 b.f1 b.f2 x1 x2 x3 x4) false := fun x1 x2 x3 x4 => Ev.step (f := fun _ => some false) (fun k => by simp only [jacquardref33_clash.j0]; rw [if_pos trivial]) (Ev.now _)
  by_cases h1 : (rd_T52 ne a.f0).f0 = (rd_T52 ne b.f0).f0
  case neg => exact ⟨false, Ev.congr (fun k => by unfold jacquardref33_clash.f; rw [if_pos a0, if_pos (by omega), if_pos b0, if_pos (by omega), if_neg h1]) (hf _ _ _ _), fun _ h => absurd h h1⟩
  have un : ∀ k, jacquardref33_clash.f k n p lp ar rs ne ii a.f0 a.f1 a.f2 b.f0 b.f1 b.f2 = jacquardref33_clash.j0 k ii (a.f2 != b.f2) a.f0 a.f1 a.f2 b.f0 b.f1 b.f2 (rd_T52 ne a.f0).f0 (rd_T52 ne a.f0).f1 (rd_T52 ne b.f0).f0 (rd_T52 ne b.f0).f1 := fun k => by unfold jacquardref33_clash.f; rw [if_pos a0, if_pos (by omega), if_pos b0, if_pos (by omega), if_pos h1]
  by_cases h3 : a.f2 = b.f2
  case neg => exact ⟨false, Ev.congr (fun k => by rw [un, bne_iff_ne.mpr h3]) (hf _ _ _ _), fun _ _ h => absurd h h3⟩
  have e3 : (a.f2 != b.f2) = false := bne_eq_false_iff_eq.mpr h3
  refine ⟨decide ((b.f1 - a.f1) % ii < (rd_T52 ne a.f0).f1 ∨ (a.f1 - b.f1) % ii < (rd_T52 ne b.f0).f1), Ev.congr un (Ev.step (f := fun _ => some (decide ((b.f1 - a.f1) % ii < (rd_T52 ne a.f0).f1 ∨ (a.f1 - b.f1) % ii < (rd_T52 ne b.f0).f1))) (fun k => ?_) (Ev.now _)), fun h _ _ => ?_⟩
  · rw [e3]
    simp only [jacquardref33_clash.j0]
    rw [if_neg Bool.false_ne_true, w64 (x := b.f1 - a.f1) (by omega) (by omega), w64 (x := a.f1 - b.f1) (by omega) (by omega), mod_ok hi h2, mod_ok hi h2]
    simp only [Option.bind_some]
    by_cases g : (b.f1 - a.f1) % ii < (rd_T52 ne a.f0).f1
    · rw [if_pos g]; simp [g]
    · rw [if_neg g]; simp [g]
  · have := of_decide_eq_false h
    exact ⟨fun g => this (.inl g), fun g => this (.inr g)⟩
theorem units_ok (F : FO n p ar rs ne) {ny : List Int} (hny : NY n ne ny) (hn8 : ny.length ≤ 8) {l : List S44} (P : PS n ii rs ne ny l) {x : Int} (x0 : 0 ≤ x) (x1 : x < n) (hx : 0 ≤ (rd_T52 ne x).f0) :
    ∃ u : Int, Ev (fun k => jacquardref33_Units.f k n p lp ar rs ne l x) u ∧ 1 ≤ u ∧ u ≤ (rd_T50 rs (rd_T52 ne x).f0).f3 := by
  have ln := F.ln
  have pl := P.le
  have hR := F.need x x0 x1
  have hC := F.res _ hx (by omega)
  have loop : ∀ (d : Nat) (i u : Int), 0 ≤ i → i + d = l.length → 0 ≤ u → u ≤ 1024 → ∃ r : Int, Ev (fun k => jacquardref33_Units.l0 k l (rd_T52 ne x).f0 u (l.length : Int) i n p lp ar rs ne) r ∧ 1 ≤ r ∧ r ≤ (rd_T50 rs (rd_T52 ne x).f0).f3 := by
    intro d
    induction d with
    | zero =>
      intro i u i0 hd u0 u1
      have hmn : mn (rd_T50 rs (rd_T52 ne x).f0).f3 (u + 1) = if u + 1 < (rd_T50 rs (rd_T52 ne x).f0).f3 then u + 1 else (rd_T50 rs (rd_T52 ne x).f0).f3 := rfl
      refine ⟨mn (rd_T50 rs (rd_T52 ne x).f0).f3 (u + 1), Ev.step (f := fun _ => some (mn (rd_T50 rs (rd_T52 ne x).f0).f3 (u + 1))) (fun k => ?_) (Ev.now _), by rw [hmn]; split <;> omega, by rw [hmn]; split <;> omega⟩
      simp only [jacquardref33_Units.l0]
      rw [if_neg (by omega), if_pos hx, if_pos (by omega), w64 (by omega) (by omega)]
    | succ d ih =>
      intro i u i0 hd u0 u1
      have hv := P.v i i0 (by omega)
      have hr := hny.r i i0 (by omega)
      have hcc := F.res _ hr.2.2 (by have := F.need _ hr.1 hr.2.1; omega)
      by_cases h : (rd_T52 ne (rd_T44 l i).f0).f0 = (rd_T52 ne x).f0
      · have hmx : mx u ((rd_T44 l i).f2 + 1) = if u < (rd_T44 l i).f2 + 1 then (rd_T44 l i).f2 + 1 else u := rfl
        obtain ⟨r, hr1, hr2⟩ := ih (i + 1) (mx u ((rd_T44 l i).f2 + 1)) (by omega) (by omega) (by rw [hmx]; split <;> omega) (by rw [hmx]; split <;> omega)
        refine ⟨r, Ev.step (fun k => ?_) hr1, hr2⟩
        simp only [jacquardref33_Units.l0]
        rw [if_pos (by omega), if_pos i0, if_pos (by omega), if_pos (by omega), if_pos (by omega), if_pos h, w64 (x := (rd_T44 l i).f2 + 1) (by omega) (by omega), w64 (by omega) (by omega)]
      · obtain ⟨r, hr1, hr2⟩ := ih (i + 1) u (by omega) (by omega) u0 u1
        refine ⟨r, Ev.step (fun k => ?_) hr1, hr2⟩
        simp only [jacquardref33_Units.l0]
        rw [if_pos (by omega), if_pos i0, if_pos (by omega), if_pos (by omega), if_pos (by omega), if_neg h, w64 (by omega) (by omega)]
  obtain ⟨r, hr1, hr2⟩ := loop l.length 0 0 (Int.le_refl _) (by omega) (Int.le_refl _) (by omega)
  refine ⟨r, Ev.congr (fun k => ?_) hr1, hr2⟩
  unfold jacquardref33_Units.f
  rw [if_pos x0, if_pos (by omega)]
theorem rd44_snoc (l : List S44) (x : S44) (q : Int) (q0 : 0 ≤ q) (q1 : q < l.length + 1) : rd_T44 (l ++ [x]) q = if q < l.length then rd_T44 l q else x := by
  unfold rd_T44
  rw [List.getD_eq_getElem?_getD, List.getD_eq_getElem?_getD]
  by_cases h : q < l.length
  · rw [if_pos h, List.getElem?_append_left (by omega)]
  · rw [if_neg h, List.getElem?_append_right (by omega), show q.toNat - l.length = 0 by omega]; rfl
theorem md_of (F : FO n p ar rs ne) (hi : 1 ≤ ii) {ny : List Int} (hny : NY n ne ny) {l : List S44} (P : PS n ii rs ne ny l) (hfull : l.length = ny.length) (hno : ∀ q q' : Int, 0 ≤ q' → q' < q → q < l.length → noClash33 ne ii (rd_T44 l q) (rd_T44 l q')) {s : List Int} {lim : Int} (S : SE n p ii lim l s)
    (ha : ∀ j : Int, 0 ≤ j → j < ar.length → rd s (rd_T48 ar j).f0 + ((rd_T48 ar j).f2 - ii * (rd_T48 ar j).f3) ≤ rd s (rd_T48 ar j).f1) : ∃ start unit T, MD n p ii ar rs ne start unit T := by
  have n0 := F.n0; have p0 := F.p0
  -- the place of an instruction in l
  have hq : ∀ i : Int, ∃ q : Int, 0 ≤ i → i < n → 0 ≤ (rd_T52 ne i).f0 → 0 ≤ q ∧ q < l.length ∧ (rd_T44 l q).f0 = i := fun i => by
    by_cases h : 0 ≤ i ∧ i < n ∧ 0 ≤ (rd_T52 ne i).f0
    · obtain ⟨q, q0, q1, q2⟩ := hny.all i h.1 h.2.1 h.2.2
      exact ⟨q, fun _ _ _ => ⟨q0, by omega, by rw [(P.v q q0 (by omega)).1, q2]⟩⟩
    · exact ⟨0, fun a b c => absurd ⟨a, b, c⟩ h⟩
  let g : Int → Int := fun i => (hq i).choose
  have hg : ∀ i : Int, 0 ≤ i → i < n → 0 ≤ (rd_T52 ne i).f0 → 0 ≤ g i ∧ g i < l.length ∧ (rd_T44 l (g i)).f0 = i := fun i => (hq i).choose_spec
  have hnat : ((n.toNat : Nat) : Int) = n := Int.toNat_of_nonneg n0
  refine ⟨fun i => rd s i, fun i => (rd_T44 l (g i)).f2, fun v => rd s v, ⟨by omega, fun i i0 i1 hx => ?_, fun i i0 i1 => (S.b i i0 (by omega)).1, fun i i0 i1 hx => ?_, fun i k i0 i1 k0 k1 hne hx he hu a b a0 a1 b0 b1 h => ?_⟩, fun _ _ _ => rfl, S.src, fun j j0 j1 => (by have := ha j j0 j1; omega)⟩
  · obtain ⟨q0, q1, q2⟩ := hg i i0 (by omega) hx
    have := P.v _ q0 q1
    rw [← this.1, q2] at this
    exact ⟨this.2.2.2.1, this.2.2.2.2.1⟩
  · obtain ⟨q0, q1, q2⟩ := hg i i0 (by omega) hx
    have := P.v _ q0 q1
    rw [← this.1, q2] at this
    exact this.2.2.2.2.2
  · (try dsimp only at h hx he hu a1 b1)
    obtain ⟨q0, q1, q2⟩ := hg i i0 (by omega) hx
    obtain ⟨r0, r1, r2⟩ := hg k k0 (by omega) (by omega)
    have hs1 := S.fix _ q0 q1
    have hs2 := S.fix _ r0 r1
    rw [q2] at hs1
    rw [r2] at hs2
    have v1 := P.v _ q0 q1
    have v2 := P.v _ r0 r1
    have gne : g i ≠ g k := fun e => by rw [e, r2] at q2; exact hne q2.symm
    have busy1 : (rd_T52 ne i).f1 ≤ ii := by have := v1.2.2.2.2.2; rw [← v1.1, q2] at this; exact this
    have busy2 : (rd_T52 ne k).f1 ≤ ii := by have := v2.2.2.2.2.2; rw [← v2.1, r2] at this; exact this
    generalize hsa : (rd_T44 l (g i)).f1 = sa at hs1 v1
    generalize hsb : (rd_T44 l (g k)).f1 = sb at hs2 v2
    -- the slots differ by a - b
    have hc : (sb - sa) % ii = (a - b) % ii := by
      rw [← hs1, ← hs2, Int.emod_sub_emod, Int.sub_emod_emod]
      have hh : (rd s k - rd s i - (a - b)) % ii = 0 := by
        rw [show rd s k - rd s i - (a - b) = (rd s k + b) - (rd s i + a) by omega]
        exact Int.emod_emod_of_dvd _ (Int.dvd_refl _) ▸ Int.emod_eq_emod_iff_emod_sub_eq_zero.mp h.symm
      exact Int.emod_eq_emod_iff_emod_sub_eq_zero.mpr hh
    have hc' : (sa - sb) % ii = (b - a) % ii := by
      rw [← hs1, ← hs2, Int.emod_sub_emod, Int.sub_emod_emod]
      have hh : (rd s i - rd s k - (b - a)) % ii = 0 := by
        rw [show rd s i - rd s k - (b - a) = (rd s i + a) - (rd s k + b) by omega]
        exact Int.emod_eq_emod_iff_emod_sub_eq_zero.mp h
      exact Int.emod_eq_emod_iff_emod_sub_eq_zero.mpr hh
    have no : ¬ ((sb - sa) % ii < (rd_T52 ne i).f1) ∧ ¬ ((sa - sb) % ii < (rd_T52 ne k).f1) := by
      rcases Int.lt_or_gt_of_ne gne with hlt | hlt
      · have := hno (g k) (g i) q0 hlt r1 (by rw [q2, r2]; exact he.symm) hu.symm
        rw [q2, r2, hsa, hsb] at this
        exact ⟨this.2, this.1⟩
      · have := hno (g i) (g k) r0 hlt q1 (by rw [q2, r2]; exact he) hu
        rw [q2, r2, hsa, hsb] at this
        exact this
    by_cases hab : b ≤ a
    · have e : (a - b) % ii = a - b := Int.emod_eq_of_lt (by omega) (by omega)
      rw [hc, e] at no
      omega
    · have e : (b - a) % ii = b - a := Int.emod_eq_of_lt (by omega) (by omega)
      rw [hc', e] at no
      omega
theorem possible_ok (F : FO n p ar rs ne) (hi : 1 ≤ ii) (h2 : ii ≤ 256) {ny : List Int} (hny : NY n ne ny) (hn8 : ny.length ≤ 8) (hev : Ev (fun k => jacquardref33_Needy.f k n p lp ar rs ne) ny) (m : Nat) : ∀ l : List S44, PS n ii rs ne ny l → l.length + m = ny.length →
    ∃ b, Ev (fun k => jacquardref33_Possible.f k n p lp ar rs ne ii l) b ∧ (b = true → ∃ start unit T, MD n p ii ar rs ne start unit T) := by
  have n8 := F.n8; have ln := F.ln
  have stop : ∀ l : List S44, Ev (fun k => jacquardref33_Possible.j0 k ii l ny true n p lp ar rs ne) false := fun l => Ev.step (f := fun _ => some false) (fun k => by simp only [jacquardref33_Possible.j0]; rw [if_pos trivial]) (Ev.now _)
  -- from the end of the clashes on, whatever stands there
  have front : ∀ l : List S44, PS n ii rs ne ny l → (∀ hno : (∀ q q' : Int, 0 ≤ q' → q' < q → q < l.length → noClash33 ne ii (rd_T44 l q) (rd_T44 l q')), ∃ b, Ev (fun k => jacquardref33_Possible.l0 k ii l ny (l.length : Int) (l.length : Int) n p lp ar rs ne) b ∧ (b = true → ∃ start unit T, MD n p ii ar rs ne start unit T)) →
      ∃ b, Ev (fun k => jacquardref33_Possible.f k n p lp ar rs ne ii l) b ∧ (b = true → ∃ start unit T, MD n p ii ar rs ne start unit T) := by
    intro l P hend
    have pl := P.le
    have inst : ∀ q : Int, 0 ≤ q → q < l.length → 0 ≤ (rd_T44 l q).f0 ∧ (rd_T44 l q).f0 < n := fun q q0 q1 => by
      have := P.v q q0 q1; have := hny.r q q0 (by omega); omega
    have outer : ∀ (d : Nat) (i : Int), 0 ≤ i → i + d = l.length → (∀ q q' : Int, 0 ≤ q' → q' < q → q < i → noClash33 ne ii (rd_T44 l q) (rd_T44 l q')) → ∃ b, Ev (fun k => jacquardref33_Possible.l0 k ii l ny (l.length : Int) i n p lp ar rs ne) b ∧ (b = true → ∃ start unit T, MD n p ii ar rs ne start unit T) := by
      intro d
      induction d with
      | zero =>
        intro i i0 hd hall
        have e : i = l.length := by omega
        rw [e] at hall ⊢
        exact hend hall
      | succ d ih =>
        intro i i0 hd hall
        have inner : ∀ (e : Nat) (j : Int), 0 ≤ j → j + e = i → (∀ q' : Int, 0 ≤ q' → q' < j → noClash33 ne ii (rd_T44 l i) (rd_T44 l q')) → ∃ b, Ev (fun k => jacquardref33_Possible.l1 k ii l ny i (l.length : Int) i i j n p lp ar rs ne) b ∧ (b = true → ∃ start unit T, MD n p ii ar rs ne start unit T) := by
          intro e
          induction e with
          | zero =>
            intro j j0 he hj
            obtain ⟨b, hb, hq⟩ := ih (i + 1) (by omega) (by omega) (fun q q' h0 h1 h2 => by
              by_cases e : q = i
              · rw [e]; exact hj q' h0 (by omega)
              · exact hall q q' h0 h1 (by omega))
            refine ⟨b, Ev.step (fun k => ?_) hb, hq⟩
            simp only [jacquardref33_Possible.l1]
            rw [if_neg (by omega), w64 (by omega) (by omega)]
          | succ e ihe =>
            intro j j0 he hj
            have i1 := inst i i0 (by omega)
            have j1 := inst j j0 (by omega)
            have vi := P.v i i0 (by omega)
            have vj := P.v j j0 (by omega)
            obtain ⟨c, hc, hcq⟩ := clash33_ok (lp := lp) F hi h2 (a := rd_T44 l i) (b := rd_T44 l j) i1.1 i1.2 j1.1 j1.2 vi.2.1 vi.2.2.1 vj.2.1 vj.2.2.1
            have un : ∀ k, jacquardref33_Possible.l1 (k + 1) ii l ny i (l.length : Int) i i j n p lp ar rs ne = (jacquardref33_clash.f k n p lp ar rs ne ii ((rd_T44 l i).f0) ((rd_T44 l i).f1) ((rd_T44 l i).f2) ((rd_T44 l j).f0) ((rd_T44 l j).f1) ((rd_T44 l j).f2)).bind fun t427 => (if t427 = true then (some false) else (jacquardref33_Possible.l1 k ii l ny i (l.length : Int) i i (j + 1) n p lp ar rs ne)) := by
              intro k
              simp only [jacquardref33_Possible.l1]
              rw [if_pos (by omega), if_pos i0, if_pos (by omega), if_pos j0, if_pos (by omega), w64 (x := j + 1) (by omega) (by omega)]
            by_cases hc1 : c = true
            · exact ⟨false, Ev.step un (Ev.bind hc (Ev.congr (fun k => if_pos hc1) (Ev.now _))), fun h => absurd h (by simp)⟩
            · obtain ⟨b, hb, hq⟩ := ihe (j + 1) (by omega) (by omega) (fun q' h0 h1 => by
                by_cases e : q' = j
                · rw [e]; exact hcq (by simpa using hc1)
                · exact hj q' h0 (by omega))
              exact ⟨b, Ev.step un (Ev.bind hc (Ev.congr (fun k => if_neg hc1) hb)), hq⟩
        obtain ⟨b, hb, hq⟩ := inner i.toNat 0 (Int.le_refl _) (by omega) (fun q' h0 h1 => absurd h1 (by omega))
        refine ⟨b, Ev.step (fun k => ?_) hb, hq⟩
        simp only [jacquardref33_Possible.l0]
        rw [if_pos (by omega)]
    obtain ⟨b, hb, hq⟩ := outer l.length 0 (Int.le_refl _) (by omega) (fun q q' h0 h1 h2 => absurd h2 (by omega))
    have hb' : Ev (fun k => jacquardref33_Possible.j0 k ii l ny false n p lp ar rs ne) b := Ev.step (fun k => by simp only [jacquardref33_Possible.j0]; rw [if_neg Bool.false_ne_true]) hb
    have un : ∀ k, jacquardref33_Possible.f (k + 1) n p lp ar rs ne ii l = (jacquardref33_Needy.f k n p lp ar rs ne).bind fun t421 => (if (l.length : Int) = 0 then ((jacquardref33_settles.f k n p lp ar rs ne ii ([] : List S44)).bind fun t424 => (jacquardref33_Possible.j0 k ii l t421 (!t424) n p lp ar rs ne)) else (jacquardref33_Possible.j0 k ii l t421 false n p lp ar rs ne)) := fun k => rfl
    by_cases h0 : (l.length : Int) = 0
    · obtain ⟨c, hc, -⟩ := settles_ok (lp := lp) F hi h2 hny hn8 (l := []) ⟨by simp, fun q q0 q1 => absurd q1 (by simp; omega)⟩
      by_cases hc1 : c = true
      · exact ⟨b, Ev.step un (Ev.bind hev (Ev.congr (fun k => if_pos h0) (Ev.bind hc (by rw [hc1]; exact hb')))), hq⟩
      · rw [Bool.not_eq_true] at hc1
        exact ⟨false, Ev.step un (Ev.bind hev (Ev.congr (fun k => if_pos h0) (Ev.bind hc (by rw [hc1]; exact stop l)))), fun h => absurd h (by simp)⟩
    · exact ⟨b, Ev.step un (Ev.bind hev (Ev.congr (fun k => if_neg h0) hb')), hq⟩
  induction m with
  | zero =>
    intro l P hl
    refine front l P (fun hno => ?_)
    obtain ⟨b, hb, hq⟩ := settles_ok (lp := lp) F hi h2 hny hn8 P
    refine ⟨b, Ev.step (fun k => ?_) (Ev.bind hb (Ev.now b)), fun h => ?_⟩
    · simp only [jacquardref33_Possible.l0]
      rw [if_neg (by omega), if_pos (by omega)]
    · obtain ⟨s, lim, S, ha⟩ := hq h
      exact md_of F hi hny P (by omega) hno S ha
  | succ m ih =>
    intro l P hl
    refine front l P (fun hno => ?_)
    have hx := hny.r (l.length : Int) (by omega) (by omega)
    generalize hxe : rd ny (l.length : Int) = x at hx
    have hR := F.need x hx.1 hx.2.1
    have un : ∀ k, jacquardref33_Possible.l0 (k + 1) ii l ny (l.length : Int) (l.length : Int) n p lp ar rs ne = if (rd_T52 ne x).f1 > ii then some false else ((jacquardref33_Units.f k n p lp ar rs ne l x).bind fun t431 => (jacquardref33_Possible.l2 k ii l x t431 (wrap64 (ii * t431)) 0 n p lp ar rs ne)) := by
      intro k
      simp only [jacquardref33_Possible.l0]
      rw [if_neg (by omega), if_neg (by omega), if_pos (by omega), if_pos (by omega), hxe, if_pos hx.1, if_pos (by omega)]
    by_cases hbz : (rd_T52 ne x).f1 > ii
    · exact ⟨false, Ev.step (fun k => (un k).trans (if_pos hbz)) (Ev.now _), fun h => absurd h (by simp)⟩
    obtain ⟨u, hu, u1, u2⟩ := units_ok (lp := lp) F hny hn8 P hx.1 hx.2.1 hx.2.2
    have hC := F.res _ hx.2.2 (by omega)
    have iU : ii * u ≤ 262144 := Int.le_trans (Int.mul_le_mul h2 (by omega : u ≤ 1024) (by omega) (by omega)) (by omega)
    have iU0 : 0 ≤ ii * u := Int.mul_nonneg (by omega) (by omega)
    have loop : ∀ (d : Nat) (j : Int), 0 ≤ j → j + d = ii * u → ∃ b, Ev (fun k => jacquardref33_Possible.l2 k ii l x u (ii * u) j n p lp ar rs ne) b ∧ (b = true → ∃ start unit T, MD n p ii ar rs ne start unit T) := by
      intro d
      induction d with
      | zero =>
        intro j j0 hd
        refine ⟨false, Ev.step (f := fun _ => some false) (fun k => ?_) (Ev.now _), fun h => absurd h (by simp)⟩
        simp only [jacquardref33_Possible.l2]
        rw [if_neg (by omega)]
      | succ d ihd =>
        intro j j0 hd
        have q0 : 0 ≤ j / u := Int.ediv_nonneg j0 (by omega)
        have q1 : j / u < ii := Int.ediv_lt_of_lt_mul (by omega) (by omega)
        have q2 : 0 ≤ j % u := Int.emod_nonneg _ (by omega)
        have q3 : j % u < u := Int.emod_lt_of_pos _ (by omega)
        have P' : PS n ii rs ne ny (l ++ [(⟨x, j / u, j % u⟩ : S44)]) := by
          refine ⟨by rw [List.length_append, List.length_singleton]; omega, fun q h0 h1 => ?_⟩
          rw [List.length_append, List.length_singleton] at h1
          rw [rd44_snoc l _ q h0 (by omega)]
          by_cases e : q < l.length
          · rw [if_pos e]; exact P.v q h0 e
          · rw [if_neg e, show q = (l.length : Int) by omega, hxe]
            exact ⟨rfl, q0, q1, q2, by show j % u < _; omega, by omega⟩
        obtain ⟨b, hb, hq⟩ := ih _ P' (by rw [List.length_append, List.length_singleton]; omega)
        have un2 : ∀ k, jacquardref33_Possible.l2 (k + 1) ii l x u (ii * u) j n p lp ar rs ne = (jacquardref33_Possible.f k n p lp ar rs ne ii (l ++ [(⟨x, j / u, j % u⟩ : S44)])).bind fun t444 => (if t444 = true then (some true) else (jacquardref33_Possible.l2 k ii l x u (ii * u) (j + 1) n p lp ar rs ne)) := by
          intro k
          simp only [jacquardref33_Possible.l2]
          rw [if_pos (by omega)]
          simp only [Option.bind_some]
          rw [if_pos (by simp; omega), if_neg (by omega), Int.tdiv_eq_ediv_of_nonneg j0, Int.tmod_eq_emod_of_nonneg j0, w64 (x := j / u) (by omega) (by omega), w64 (x := j + 1) (by omega) (by omega), if_pos (by simp; omega)]
          rfl
        by_cases hb1 : b = true
        · exact ⟨true, Ev.step un2 (Ev.bind hb (Ev.congr (fun k => if_pos hb1) (Ev.now _))), fun _ => hq hb1⟩
        · obtain ⟨b', hb', hq'⟩ := ihd (j + 1) (by omega) (by omega)
          exact ⟨b', Ev.step un2 (Ev.bind hb (Ev.congr (fun k => if_neg hb1) hb')), hq'⟩
    obtain ⟨b, hb, hq⟩ := loop (ii * u).toNat 0 (Int.le_refl _) (by omega)
    exact ⟨b, Ev.step (fun k => (un k).trans (if_neg hbz)) (Ev.bind hu (by rw [w64 (by omega) (by omega)]; exact hb)), hq⟩
end

/-! ### the fixed example -/
theorem awake : Ev (fun k => jacquardlaw34_awake.f k) true := Ev.of jacquardlaw34_awake.mono (k := 80) (by decide +kernel)

theorem RefuteSound : jacquardlaw34_RefuteSound.Pure := by
  rintro ⟨n, p, lp, ar, rs, ne⟩ ii t ⟨-, -, -, ⟨-, la, -⟩, ⟨-, lr, -⟩, ⟨-, ln, -⟩⟩ hs ⟨-, lt, -⟩
  (try dsimp only at *)
  have hfew := few_ok (n := n) (p := p) (lp := lp) (ar := ar) (rs := rs) (ne := ne) (by omega) (by omega) t (by omega)
  have aw : ∀ k, jacquardlaw34_RefuteSound.f k n p lp ar rs ne ii t = (jacquardlaw34_awake.f k).bind fun t446 => (if t446 = true then ((jacquardlaw34_few.f k n p lp ar rs ne t).bind fun t447 => (if t447 = true then (if ii > 5 then (jacquardlaw34_RefuteSound.j0 k ii true n p lp ar rs ne) else ((refute_Check.f k n p lp ar rs ne ii t).bind fun t448 => (jacquardlaw34_RefuteSound.j0 k ii (!t448) n p lp ar rs ne))) else (jacquardlaw34_RefuteSound.j0 k ii true n p lp ar rs ne))) else (jacquardlaw34_RefuteSound.j0 k ii true n p lp ar rs ne)) := fun k => rfl
  have hj : Ev (fun k => jacquardlaw34_RefuteSound.j0 k ii true n p lp ar rs ne) true := by
    refine Ev.step (fun k => ?_) (Ev.bind awake (Ev.now true))
    simp only [jacquardlaw34_RefuteSound.j0]
    rw [if_pos trivial]
  suffices h : Ev (fun k => jacquardlaw34_RefuteSound.f k n p lp ar rs ne ii t) true from h.rounds
  refine Ev.congr aw (Ev.bind awake (Ev.congr (fun k => if_pos rfl) (Ev.bind hfew ?_)))
  by_cases hF : FW n p ar rs ne t = true
  case neg => exact Ev.congr (fun k => if_neg hF) hj
  refine Ev.congr (fun k => if_pos hF) ?_
  by_cases h1 : ii > 5
  · exact Ev.congr (fun k => if_pos h1) hj
  refine Ev.congr (fun k => if_neg h1) ?_
  obtain ⟨b, hb, hq⟩ := check_ok (lp := lp) t hF ii
  by_cases hb1 : b = true
  case neg =>
    rw [Bool.not_eq_true] at hb1
    exact Ev.bind hb (by rw [hb1]; exact hj)
  refine Ev.bind hb ?_
  rw [hb1]
  obtain ⟨-, F, hlp, i0, i1, no⟩ := hq hb1
  obtain ⟨ny, hny, N, n8⟩ := needy_ok (lp := lp) F
  have un_ : ∀ k, jacquardlaw34_RefuteSound.j0 (k + 1) ii (!true) n p lp ar rs ne = (jacquardref33_Needy.f k n p lp ar rs ne).bind fun t450 => (if (t450.length : Int) > 3 then (some true) else ((jacquardref33_Possible.f k n p lp ar rs ne ii ([] : List S44)).bind fun t453 => (some (!t453)))) := fun k => by
    simp only [jacquardlaw34_RefuteSound.j0]
    rw [if_neg (by simp)]
  refine Ev.step un_ (Ev.bind hny ?_)
  by_cases h3 : (ny.length : Int) > 3
  · exact Ev.congr (fun k => if_pos h3) (Ev.now _)
  obtain ⟨c, hc, hcq⟩ := possible_ok (lp := lp) F i0 i1 N n8 hny ny.length [] ⟨by simp, fun q q0 q1 => absurd q1 (by simp; omega)⟩ (by simp)
  have c0 : c = false := by
    rw [← Bool.not_eq_true]
    intro h
    obtain ⟨start, unit, T, D⟩ := hcq h
    exact no start unit T D
  rw [c0] at hc
  exact Ev.congr (fun k => if_neg h3) (Ev.bind hc (Ev.now _))

end Go.Proofs.Ytpmlbbglekaidaa.Pure
