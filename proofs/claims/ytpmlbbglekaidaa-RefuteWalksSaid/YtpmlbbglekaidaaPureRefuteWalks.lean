/- The law RefuteWalks holds: a walk adds up to what the definition says, for any slots; no condition. -/
import Derived.Test.YtpmlbbglekaidaaPureG
import Derived.Test.YtpmlbbglekaidaaF6
import Derived.Test.YtpmlbbglekaidaaF5
import Derived.Test.YtpmlbbglekaidaaF13
import Derived.Test.YtpmlbbglekaidaaF14
import Derived.Test.YtpmlbbglekaidaaQRefuteWalks
namespace Go.Proofs.Ytpmlbbglekaidaa.Pure
open Go.RowKit Go.Proofs.Ytpmlbbglekaidaa.PAll Go.Proofs.YtpmlbbglekaidaaW.PrintWords Go.Proofs.YtpmlbbglekaidaaW.PrintLast
set_option linter.unusedVariables false
set_option linter.unusedSimpArgs false

section
variable {n p : Int} {lp : Bool} {ar : List S48} {rs : List S50} {ne : List S52}
/-- The document's first loop. -/
theorem ref_arcs (h0 : 0 ≤ n) (h1 : n ≤ 4096) (h2 : 0 ≤ p) (h3 : p ≤ 4094) (hl : ar.length ≤ 1000) {r : Bool}
    (hr : Ev (fun k => if (ar.length : Int) < (wrap64 ((wrap64 (2 * (n + p + 2))) - 3)) then (some false) else (jacquardref28_Valid.l1 k (n + p + 2) (wrap64 (n + p + 2 - 1)) 0 n p lp ar rs ne)) r) (d : Nat) : ∀ i : Int, 0 ≤ i → i + d = ar.length →
    Ev (fun k => jacquardref28_Valid.l0 k (n + p + 2) (ar.length : Int) i n p lp ar rs ne) (upto (fun j => arcOk n p lp (rd_T48 ar j)) d i && r) := by
  induction d with
  | zero =>
    intro i i0 hi
    rw [upto, Bool.true_and]
    refine Ev.step (fun k => ?_) hr
    simp only [jacquardref28_Valid.l0]
    rw [if_neg (by omega)]
  | succ d ih =>
    intro i i0 hi
    have hj : ∀ k, jacquardref28_Valid.l0 (k + 1) (n + p + 2) (ar.length : Int) i n p lp ar rs ne = jacquardref28_Valid.j2 k (n + p + 2) (ar.length : Int) i (!arcOk n p lp (rd_T48 ar i)) n p lp ar rs ne := by
      intro k
      simp only [jacquardref28_Valid.l0]
      rw [if_pos (by omega), if_pos i0, if_pos (by omega), w64 (by omega) (by omega)]
      unfold arcOk
      repeat' split
      all_goals (congr 1; cases lp <;> simp at * <;> omega)
    by_cases ha : arcOk n p lp (rd_T48 ar i) = true
    · rw [upto, ha, Bool.true_and]
      refine Ev.step hj (Ev.step (fun k => ?_) (ih (i + 1) (by omega) (by omega)))
      rw [ha]
      simp only [jacquardref28_Valid.j2]
      rw [if_neg (by simp), w64 (by omega) (by omega)]
    · rw [Bool.not_eq_true] at ha
      rw [upto, ha, Bool.false_and, Bool.false_and]
      refine Ev.step hj (Ev.step (f := fun _ => some false) (fun k => ?_) (Ev.now _))
      rw [ha]
      simp only [jacquardref28_Valid.j2]
      rw [if_pos (by simp)]
end
section
variable {n p : Int} {lp : Bool} {ar : List S48} {rs : List S50} {ne : List S52}
theorem ref_fr1 (h0 : 0 ≤ n) (h1 : n ≤ 4096) (h2 : 0 ≤ p) (h3 : p ≤ 4094) (hl : ar.length ≤ 1000) (hN : n + p + 1 ≤ ar.length) {r : Bool}
    (hr : Ev (fun k => jacquardref28_Valid.l2 k (n + p + 2) (rs.length : Int) 0 n p lp ar rs ne) r) (d : Nat) : ∀ i : Int, 0 ≤ i → i + d = n + p + 1 →
    Ev (fun k => jacquardref28_Valid.l1 k (n + p + 2) (n + p + 1) i n p lp ar rs ne) (upto (fun j => fr1 ar (n + p) j) d i && r) := by
  induction d with
  | zero =>
    intro i i0 hi
    rw [upto, Bool.true_and]
    refine Ev.step (fun k => ?_) hr
    simp only [jacquardref28_Valid.l1]
    rw [if_neg (by omega)]
  | succ d ih =>
    intro i i0 hi
    have hj : ∀ k, jacquardref28_Valid.l1 (k + 1) (n + p + 2) (n + p + 1) i n p lp ar rs ne = jacquardref28_Valid.j4 k (n + p + 2) i (if i = n + p then n + p + 1 else i) (n + p + 1) i n p lp ar rs ne := by
      intro k
      simp only [jacquardref28_Valid.l1]
      rw [if_pos (by omega), rsrc h0 h1 h2 h3]
      simp only [Option.bind_some]
      by_cases e : i = n + p
      · rw [if_pos (by omega), if_pos e, w64 (by omega) (by omega), e]
      · rw [if_neg (by omega), if_neg e]
    have hc : ∀ q : Int, (!((rd_T48 ar i).f0 == n + p) || (!((rd_T48 ar i).f1 == q) || (!((rd_T48 ar i).f2 == 0) || !((rd_T48 ar i).f3 == 0)))) = !decide ((rd_T48 ar i).f0 = n + p ∧ (rd_T48 ar i).f1 = q ∧ (rd_T48 ar i).f2 = 0 ∧ (rd_T48 ar i).f3 = 0) := by
      intro q
      rw [Bool.eq_iff_iff]
      simp
    have hj1 : ∀ k, jacquardref28_Valid.j4 (k + 1) (n + p + 2) i (if i = n + p then n + p + 1 else i) (n + p + 1) i n p lp ar rs ne = if (!fr1 ar (n + p) i) = true then some false else jacquardref28_Valid.l1 k (n + p + 2) (n + p + 1) (i + 1) n p lp ar rs ne := by
      intro k
      simp only [jacquardref28_Valid.j4]
      rw [if_pos i0, if_pos (by omega), rsrc h0 h1 h2 h3]
      simp only [Option.bind_some]
      rw [hc, w64 (by omega) (by omega)]
      rfl
    by_cases ha : fr1 ar (n + p) i = true
    · rw [upto, ha, Bool.true_and]
      refine Ev.step hj (Ev.step (fun k => ?_) (ih (i + 1) (by omega) (by omega)))
      rw [hj1, ha]
      rfl
    · rw [Bool.not_eq_true] at ha
      rw [upto, ha, Bool.false_and, Bool.false_and]
      refine Ev.step hj (Ev.step (f := fun _ => some false) (fun k => ?_) (Ev.now _))
      rw [hj1, ha]
      rfl
theorem ref_res (h0 : 0 ≤ n) (h1 : n ≤ 4096) (h2 : 0 ≤ p) (h3 : p ≤ 4094) (hl : rs.length ≤ 1000) {r : Bool}
    (hr : Ev (fun k => jacquardref28_Valid.l3 k (n + p + 2) (n + p) 0 n p lp ar rs ne) r) (d : Nat) : ∀ i : Int, 0 ≤ i → i + d = rs.length →
    Ev (fun k => jacquardref28_Valid.l2 k (n + p + 2) (rs.length : Int) i n p lp ar rs ne) (upto (fun j => resOk (rd_T50 rs j)) d i && r) := by
  induction d with
  | zero =>
    intro i i0 hi
    rw [upto, Bool.true_and]
    refine Ev.step (fun k => ?_) hr
    simp only [jacquardref28_Valid.l2]
    rw [if_neg (by omega), w64 (by omega) (by omega), show n + p + 2 - 2 = n + p by omega]
  | succ d ih =>
    intro i i0 hi
    have hj : ∀ k, jacquardref28_Valid.l2 (k + 1) (n + p + 2) (rs.length : Int) i n p lp ar rs ne = jacquardref28_Valid.j6 k (n + p + 2) (rs.length : Int) i (!resOk (rd_T50 rs i)) n p lp ar rs ne := by
      intro k
      simp only [jacquardref28_Valid.l2]
      rw [if_pos (by omega), if_pos i0, if_pos (by omega)]
      unfold resOk
      repeat' split
      all_goals (congr 1; rw [Bool.eq_iff_iff]; simp <;> omega)
    by_cases ha : resOk (rd_T50 rs i) = true
    · rw [upto, ha, Bool.true_and]
      refine Ev.step hj (Ev.step (fun k => ?_) (ih (i + 1) (by omega) (by omega)))
      rw [ha]
      simp only [jacquardref28_Valid.j6]
      rw [if_neg (by simp), w64 (by omega) (by omega)]
    · rw [Bool.not_eq_true] at ha
      rw [upto, ha, Bool.false_and, Bool.false_and]
      refine Ev.step hj (Ev.step (f := fun _ => some false) (fun k => ?_) (Ev.now _))
      rw [ha]
      simp only [jacquardref28_Valid.j6]
      rw [if_pos (by simp)]
theorem ref_fr2 (h0 : 0 ≤ n) (h1 : n ≤ 4096) (h2 : 0 ≤ p) (h3 : p ≤ 4094) (hl : ar.length ≤ 1000) (hN : 2 * (n + p) + 1 ≤ ar.length) (hne : (ne.length : Int) = n) {r : Bool}
    (hr : Ev (fun k => jacquardref28_Valid.l4 k (ne.length : Int) 0 n p lp ar rs ne) r) (d : Nat) : ∀ i : Int, 0 ≤ i → i + d = n + p →
    Ev (fun k => jacquardref28_Valid.l3 k (n + p + 2) (n + p) i n p lp ar rs ne) (upto (fun j => fr2 ar ne n (n + p) j) d i && r) := by
  induction d with
  | zero =>
    intro i i0 hi
    rw [upto, Bool.true_and]
    refine Ev.step (fun k => ?_) hr
    simp only [jacquardref28_Valid.l3]
    rw [if_neg (by omega)]
  | succ d ih =>
    intro i i0 hi
    have wi : wrap64 (wrap64 (n + p + 2 - 1) + i) = n + p + 1 + i := by rw [w64 (x := n + p + 2 - 1) (by omega) (by omega), w64 (by omega) (by omega)]; omega
    have hj : ∀ k, jacquardref28_Valid.l3 (k + 1) (n + p + 2) (n + p) i n p lp ar rs ne = jacquardref28_Valid.j8 k (n + p + 2) (n + p) i (!fr2 ar ne n (n + p) i) n p lp ar rs ne := by
      intro k
      simp only [jacquardref28_Valid.l3]
      rw [if_pos (by omega), wi, if_pos (by omega), if_pos (by omega), rend h0 h1 h2 h3]
      simp only [Option.bind_some]
      unfold fr2
      by_cases a0 : (rd_T48 ar (n + p + 1 + i)).f0 = i
      · by_cases a1 : (rd_T48 ar (n + p + 1 + i)).f1 = n + p + 1
        · by_cases a2 : (rd_T48 ar (n + p + 1 + i)).f3 = 0
          · by_cases a3 : i < n
            · rw [if_pos a0, if_pos a1, if_pos a2, if_pos a3, if_pos i0, if_pos (by omega)]
              congr 1
              rw [Bool.eq_iff_iff]
              simp [a0, a1, a2, a3]
            · rw [if_pos a0, if_pos a1, if_pos a2, if_neg a3]
              simp [a0, a1, a2, a3]
          · rw [if_pos a0, if_pos a1, if_neg a2]
            simp [a2]
        · rw [if_pos a0, if_neg a1]
          simp [a1]
      · rw [if_neg a0]
        simp [a0]
    by_cases ha : fr2 ar ne n (n + p) i = true
    · rw [upto, ha, Bool.true_and]
      refine Ev.step hj (Ev.step (fun k => ?_) (ih (i + 1) (by omega) (by omega)))
      rw [ha]
      simp only [jacquardref28_Valid.j8]
      rw [if_neg (by simp), w64 (by omega) (by omega)]
    · rw [Bool.not_eq_true] at ha
      rw [upto, ha, Bool.false_and, Bool.false_and]
      refine Ev.step hj (Ev.step (f := fun _ => some false) (fun k => ?_) (Ev.now _))
      rw [ha]
      simp only [jacquardref28_Valid.j8]
      rw [if_pos (by simp)]
theorem ref_needs (hl : ne.length ≤ 1000) (d : Nat) : ∀ i : Int, 0 ≤ i → i + d = ne.length →
    Ev (fun k => jacquardref28_Valid.l4 k (ne.length : Int) i n p lp ar rs ne) (upto (fun j => needOk (rs.length : Int) (rd_T52 ne j)) d i) := by
  induction d with
  | zero =>
    intro i i0 hi
    rw [upto]
    refine Ev.step (f := fun _ => some true) (fun k => ?_) (Ev.now _)
    simp only [jacquardref28_Valid.l4]
    rw [if_neg (by omega)]
  | succ d ih =>
    intro i i0 hi
    have hj : ∀ k, jacquardref28_Valid.l4 (k + 1) (ne.length : Int) i n p lp ar rs ne = jacquardref28_Valid.j10 k (ne.length : Int) i (!needOk (rs.length : Int) (rd_T52 ne i)) n p lp ar rs ne := by
      intro k
      simp only [jacquardref28_Valid.l4]
      rw [if_pos (by omega), if_pos i0, if_pos (by omega)]
      unfold needOk
      repeat' split
      all_goals (congr 1; rw [Bool.eq_iff_iff]; simp <;> omega)
    by_cases ha : needOk (rs.length : Int) (rd_T52 ne i) = true
    · rw [upto, ha, Bool.true_and]
      refine Ev.step hj (Ev.step (fun k => ?_) (ih (i + 1) (by omega) (by omega)))
      rw [ha]
      simp only [jacquardref28_Valid.j10]
      rw [if_neg (by simp), w64 (by omega) (by omega)]
    · rw [Bool.not_eq_true] at ha
      rw [upto, ha, Bool.false_and]
      refine Ev.step hj (Ev.step (f := fun _ => some false) (fun k => ?_) (Ev.now _))
      rw [ha]
      simp only [jacquardref28_Valid.j10]
      rw [if_pos (by simp)]
end
section
variable {n p : Int} {lp : Bool} {ar : List S48} {rs : List S50} {ne : List S52}
theorem ref_valid (hl : ar.length ≤ 1000) (hl2 : rs.length ≤ 1000) (hl3 : ne.length ≤ 1000) : Ev (fun k => jacquardref28_Valid.f k n p lp ar rs ne) (VF n p lp ar rs ne) := by
  unfold VF
  by_cases hb : 0 ≤ n ∧ n ≤ 4096 ∧ 0 ≤ p ∧ p ≤ 4094 ∧ (ne.length : Int) = n
  · rw [decide_eq_true hb, Bool.true_and]
    obtain ⟨h0, h1, h2, h3, h4⟩ := hb
    have wN : wrap64 (wrap64 (2 * (n + p + 2)) - 3) = 2 * (n + p) + 1 := by rw [w64 (x := 2 * (n + p + 2)) (by omega) (by omega), w64 (by omega) (by omega)]; omega
    have hr : Ev (fun k => if (ar.length : Int) < (wrap64 ((wrap64 (2 * (n + p + 2))) - 3)) then (some false) else (jacquardref28_Valid.l1 k (n + p + 2) (wrap64 (n + p + 2 - 1)) 0 n p lp ar rs ne)) (decide (2 * (n + p) + 1 ≤ (ar.length : Int)) && (upto (fun j => fr1 ar (n + p) j) (n + p + 1).toNat 0 && (upto (fun j => resOk (rd_T50 rs j)) rs.length 0 && (upto (fun j => fr2 ar ne n (n + p) j) (n + p).toNat 0 && upto (fun j => needOk (rs.length : Int) (rd_T52 ne j)) ne.length 0)))) := by
      by_cases hN : 2 * (n + p) + 1 ≤ (ar.length : Int)
      · rw [decide_eq_true hN, Bool.true_and]
        refine Ev.congr (fun k => ?_) (ref_fr1 (lp := lp) h0 h1 h2 h3 hl (by omega) (ref_res h0 h1 h2 h3 hl2 (ref_fr2 h0 h1 h2 h3 hl hN h4 (ref_needs hl3 ne.length 0 (Int.le_refl _) (by omega)) (n + p).toNat 0 (Int.le_refl _) (by omega)) rs.length 0 (Int.le_refl _) (by omega)) (n + p + 1).toNat 0 (Int.le_refl _) (by omega))
        rw [wN, if_neg (by omega), w64 (x := n + p + 2 - 1) (by omega) (by omega), show n + p + 2 - 1 = n + p + 1 by omega]
      · rw [decide_eq_false hN, Bool.false_and]
        refine Ev.congr (fun k => ?_) (Ev.now _)
        rw [wN, if_pos (by omega)]
    have h := ref_arcs h0 h1 h2 h3 hl hr ar.length 0 (Int.le_refl _) (by omega)
    have e : ∀ a b c d e f : Bool, (a && (b && (c && (d && (e && f))))) = (a && (d && (e && (b && (f && c))))) := by decide
    rw [e]
    have hj : Ev (fun k => jacquardref28_Valid.j0 k false n p lp ar rs ne) _ := Ev.step (fun k => by simp only [jacquardref28_Valid.j0]; rw [if_neg Bool.false_ne_true, w64 (x := n + p) (by omega) (by omega), w64 (x := n + p + 2) (by omega) (by omega)]) h
    refine Ev.congr (fun k => ?_) hj
    unfold jacquardref28_Valid.f
    rw [if_neg (by omega), if_neg (by omega), if_neg (by omega), if_neg (by omega), show ((ne.length : Int) != n) = false by simp [h4]]
  · rw [decide_eq_false hb, Bool.false_and]
    have hj : Ev (fun k => jacquardref28_Valid.j0 k true n p lp ar rs ne) false := Ev.step (f := fun _ => some false) (fun k => by simp only [jacquardref28_Valid.j0]; rw [if_pos trivial]) (Ev.now _)
    refine Ev.congr (fun k => ?_) hj
    unfold jacquardref28_Valid.f
    by_cases a0 : n < 0
    · rw [if_pos a0]
    by_cases a1 : n > 4096
    · rw [if_neg a0, if_pos a1]
    by_cases a2 : p < 0
    · rw [if_neg a0, if_neg a1, if_pos a2]
    by_cases a3 : p > 4094
    · rw [if_neg a0, if_neg a1, if_neg a2, if_pos a3]
    rw [if_neg a0, if_neg a1, if_neg a2, if_neg a3, show ((ne.length : Int) != n) = true by simp; intro h; exact hb ⟨by omega, by omega, by omega, by omega, h⟩]
end

/-! ### the fixed example -/
theorem awake : Ev (fun k => jacquardlaw34_awake.f k) true := Ev.of jacquardlaw34_awake.mono (k := 80) (by decide +kernel)

/-! ### the document's walks -/
section
variable {n p : Int} {lp : Bool} {ar : List S48} {rs : List S50} {ne : List S52} {ii : Int} {l : List S44} {sl w : List Int}
def sv (n p ii : Int) (sl : List Int) (v : Int) : Int := if (slotV n p ii sl v).2 = true then (slotV n p ii sl v).1 else -1
def SlotsAre (n p : Int) (lp : Bool) (ar : List S48) (rs : List S50) (ne : List S52) (ii : Int) (l : List S44) (sl : List Int) : Prop := ∀ v : Int, 0 ≤ v → Ev (fun k => jacquardref33_slot.f k n p lp ar rs ne l v) (sv n p ii sl v)
def inR (ar : List S48) (w : List Int) (i : Int) : Prop := 0 ≤ rd w i ∧ rd w i < ar.length
theorem sv_iff (hi : 1 ≤ ii) (h2 : ii ≤ 256) (v : Int) : 0 ≤ sv n p ii sl v ↔ (slotV n p ii sl v).2 = true := by
  have := slotV_lt (n := n) (p := p) hi h2 sl v
  unfold sv
  by_cases h : (slotV n p ii sl v).2 = true
  · rw [if_pos h]; exact ⟨fun _ => h, fun _ => this.1⟩
  · rw [if_neg h]; exact ⟨fun h' => absurd h' (by omega), fun h' => absurd h' h⟩
theorem rw_sum (F : FO n p ar rs ne) (hi : 1 ≤ ii) (h2 : ii ≤ 256) (hS : SlotsAre n p lp ar rs ne ii l sl) (hw : w.length ≤ 40) (hr : ∀ i : Int, 0 ≤ i → i < w.length → inR ar w i) {first : Int} (f0 : 0 ≤ first) (f1 : first < ii) (d : Nat) : ∀ i x : Int, 0 ≤ i → i + d = w.length → -(i * 10000) ≤ x → x ≤ i * 10000 →
    Ev (fun k => jacquardref33_Walk.l2 k ii l w first x (w.length : Int) i n p lp ar rs ne) (smW n p ii ar sl w first d i x, true) := by
  induction d with
  | zero =>
    intro i x i0 hid x0 x1
    refine Ev.step (f := fun _ => some (x, true)) (fun k => ?_) (Ev.now _)
    simp only [jacquardref33_Walk.l2]
    rw [if_neg (by omega)]
  | succ d ih =>
    intro i x i0 hid x0 x1
    obtain ⟨r0, r1⟩ := hr i i0 (by omega)
    have A := F.arc _ r0 r1
    have hs := hS (rd_T48 ar (rd w i)).f1 A.2.2.1
    have sl_ := slotV_lt (n := n) (p := p) hi h2 sl (rd_T48 ar (rd w i)).f1
    have siff := sv_iff (n := n) (p := p) (sl := sl) hi h2 (rd_T48 ar (rd w i)).f1
    have mB := mulB hi h2 A.2.2.2.2.2.2.1 A.2.2.2.2.2.2.2
    have hwt := weight_ok F hi h2 r0 r1
    rw [smW]
    have hsv : sv n p ii sl (rd_T48 ar (rd w i)).f1 = if (slotV n p ii sl (rd_T48 ar (rd w i)).f1).2 = true then (slotV n p ii sl (rd_T48 ar (rd w i)).f1).1 else -1 := rfl
    generalize hSv : slotV n p ii sl (rd_T48 ar (rd w i)).f1 = S at hs sl_ hsv siff ⊢
    generalize sv n p ii sl (rd_T48 ar (rd w i)).f1 = s at hs hsv siff
    generalize hW : (rd_T48 ar (rd w i)).f2 - ii * (rd_T48 ar (rd w i)).f3 = W at hwt
    have Wb : -1536 ≤ W ∧ W ≤ 12 := by omega
    generalize hy : x + W = y
    have hj : ∀ k, jacquardref33_Walk.l2 (k + 1) ii l w first x (w.length : Int) i n p lp ar rs ne = (jacquardref33_slot.f k n p lp ar rs ne l ((rd_T48 ar (rd w i)).f1)).bind fun t291 => (if t291 ≥ 0 then ((jacquardref33_mod.f (wrap64 ((wrap64 (t291 - first)) - y)) ii).bind fun t292 => (jacquardref33_Walk.l2 k ii l w first (wrap64 (y + t292)) (w.length : Int) (i + 1) n p lp ar rs ne)) else (jacquardref33_Walk.l2 k ii l w first y (w.length : Int) (i + 1) n p lp ar rs ne)) := by
      intro k
      simp only [jacquardref33_Walk.l2]
      rw [if_pos (by omega), if_pos i0, if_pos (by omega), if_pos r0, if_pos r1, hwt]
      simp only [Option.bind_some]
      rw [w64 (x := i + 1) (by omega) (by omega), w64 (x := x + W) (by omega) (by omega), hy]
    refine Ev.step hj (Ev.bind hs ?_)
    by_cases hb2 : S.2 = true
    · rw [if_pos hb2] at hsv
      have m0 := Int.emod_nonneg (S.1 - first - y) (show ii ≠ 0 by omega)
      have m1 := Int.emod_lt_of_pos (S.1 - first - y) (show 0 < ii by omega)
      refine Ev.congr (fun k => (if_pos (show s ≥ 0 by omega)).trans ?_) (ih (i + 1) _ (by omega) (by omega) ?_ ?_)
      · rw [hsv, if_pos hb2, tmod2 (by omega), w64 (x := S.1 - first) (by omega) (by omega), w64 (x := S.1 - first - y) (by omega) (by omega), mod_ok hi h2]
        simp only [Option.bind_some]
        rw [w64 (by omega) (by omega)]
      · rw [if_pos hb2, tmod2 (by omega)]; omega
      · rw [if_pos hb2, tmod2 (by omega)]; omega
    · rw [if_neg hb2] at hsv
      refine Ev.congr (fun k => if_neg (by omega)) ?_
      rw [if_neg hb2]
      exact ih _ _ (by omega) (by omega) (by omega) (by omega)
theorem rw_chain (F : FO n p ar rs ne) (hi : 1 ≤ ii) (h2 : ii ≤ 256) (hS : SlotsAre n p lp ar rs ne ii l sl) (hw : w.length ≤ 40) (h0 : w.length ≠ 0) (hr : ∀ i : Int, 0 ≤ i → i < w.length → inR ar w i) {b : Bool} (hb : b = true ↔ upto (fun j => !fixW n p ii ar sl w j) w.length 0 = false) (d : Nat) : ∀ i : Int, 0 ≤ i → i + d = w.length → (∀ j : Int, 0 ≤ j → j < i → (rd_T48 ar (rd w j)).f1 = (rd_T48 ar (nx w j)).f0) →
    Ev (fun k => jacquardref33_Walk.l1 k ii l w b (w.length : Int) i n p lp ar rs ne) (walkV n p ii ar sl w) := by
  have nxR : ∀ i : Int, 0 ≤ i → i < w.length → 0 ≤ (i + 1).tmod w.length ∧ (i + 1).tmod w.length < w.length := fun i i0 i1 => by
    by_cases e : i + 1 = w.length
    · rw [e, Int.tmod_self]; omega
    · rw [Int.tmod_eq_of_lt (by omega) (by omega)]; omega
  have bad : ∀ i : Int, 0 ≤ i → i < w.length → (badW ar w i = false ↔ (rd_T48 ar (rd w i)).f1 = (rd_T48 ar (nx w i)).f0) := fun i i0 i1 => by
    have a := hr i i0 i1
    have b := hr _ (nxR i i0 i1).1 (nxR i i0 i1).2
    unfold inR at a b
    unfold badW
    rw [decide_eq_false_iff_not]
    have : nx w i = rd w ((i + 1).tmod w.length) := rfl
    rw [this]
    constructor
    · intro h
      exact Classical.byContradiction (fun hc => h (.inr (.inr (.inr (.inr hc)))))
    · rintro h (h' | h' | h' | h' | h')
      · omega
      · omega
      · omega
      · omega
      · exact h' h
  induction d with
  | zero =>
    intro i i0 hid hall
    have e : i = w.length := by omega
    subst e
    have ok : upto (fun j => !badW ar w j) w.length 0 = true := (upto_iff _ _ _).mpr (fun j j0 j1 => by rw [(bad j j0 (by omega)).mpr (hall j j0 (by omega))]; rfl)
    obtain ⟨r0, r1⟩ := hr 0 (Int.le_refl _) (by omega)
    have A := F.arc _ r0 r1
    have hs := hS (rd_T48 ar (rd w 0)).f0 A.1
    have sl_ := slotV_lt (n := n) (p := p) hi h2 sl (rd_T48 ar (rd w 0)).f0
    have siff := sv_iff (n := n) (p := p) (sl := sl) hi h2 (rd_T48 ar (rd w 0)).f0
    have hsv : sv n p ii sl (rd_T48 ar (rd w 0)).f0 = if (slotV n p ii sl (rd_T48 ar (rd w 0)).f0).2 = true then (slotV n p ii sl (rd_T48 ar (rd w 0)).f0).1 else -1 := rfl
    have hj : ∀ k, jacquardref33_Walk.l1 (k + 1) ii l w b (w.length : Int) (w.length : Int) n p lp ar rs ne = (jacquardref33_slot.f k n p lp ar rs ne l ((rd_T48 ar (rd w 0)).f0)).bind fun t286 => (if b = true then (jacquardref33_Walk.j3 k ii l w t286 (decide (t286 < 0)) n p lp ar rs ne) else (jacquardref33_Walk.j3 k ii l w t286 false n p lp ar rs ne)) := by
      intro k
      simp only [jacquardref33_Walk.l1]
      rw [if_neg (by omega), if_pos (by omega), if_pos r0, if_pos r1]
    unfold walkV
    rw [if_neg h0, if_neg (by rw [ok]; simp)]
    (try dsimp only)
    by_cases hc : upto (fun j => !fixW n p ii ar sl w j) w.length 0 = false ∧ (slotV n p ii sl (rd_T48 ar (rd w 0)).f0).2 = false
    · rw [if_pos hc]
      refine Ev.step hj (Ev.bind hs (Ev.congr (fun k => if_pos (hb.mpr hc.1)) ?_))
      rw [hsv, if_neg (by rw [hc.2]; simp)]
      refine Ev.step (f := fun _ => some (0, false)) (fun k => ?_) (Ev.now _)
      simp only [jacquardref33_Walk.j3]
      rw [if_pos (by decide)]
    · rw [if_neg hc]
      -- the first slot, or any number if no slot is asked for
      by_cases hb1 : b = true
      · have h3 : (slotV n p ii sl (rd_T48 ar (rd w 0)).f0).2 = true := by
          rw [← Bool.not_eq_false]; exact fun h => hc ⟨hb.mp hb1, h⟩
        refine Ev.step hj (Ev.bind hs (Ev.congr (fun k => if_pos hb1) ?_))
        rw [hsv, if_pos h3]
        refine Ev.step (fun k => ?_) (rw_sum (lp := lp) F hi h2 hS hw hr sl_.1 sl_.2 w.length 0 0 (Int.le_refl _) (by omega) (by omega) (by omega))
        simp only [jacquardref33_Walk.j3]
        rw [if_neg (by simp; omega)]
      · -- no node of the walk has a slot: the sum does not read the first one
        have hno : ∀ j : Int, 0 ≤ j → j < w.length → (slotV n p ii sl (rd_T48 ar (rd w j)).f0).2 = false := by
          intro j j0 j1
          have := (upto_iff _ _ _).mp (by rw [← Bool.not_eq_false]; exact fun h => hb1 (hb.mpr h) : upto (fun j => !fixW n p ii ar sl w j) w.length 0 = true) j j0 (by omega)
          unfold fixW at this
          simpa using this
        have hto : ∀ j : Int, 0 ≤ j → j < w.length → (slotV n p ii sl (rd_T48 ar (rd w j)).f1).2 = false := by
          intro j j0 j1
          rw [hall j j0 j1]
          exact hno _ (nxR j j0 j1).1 (nxR j j0 j1).2
        have hfr : ∀ (d : Nat) (i x f f' : Int), 0 ≤ i → i + d = w.length → smW n p ii ar sl w f d i x = smW n p ii ar sl w f' d i x := by
          intro d
          induction d with
          | zero => intro i x f f' _ _; rfl
          | succ d ih =>
            intro i x f f' i0 hd
            rw [smW, smW]
            (try dsimp only)
            rw [hto i i0 (by omega)]
            exact ih _ _ f f' (by omega) (by omega)
        have hsm : ∀ (d : Nat) (i x f : Int), 0 ≤ i → i + d = w.length → -(i * 10000) ≤ x → x ≤ i * 10000 → Ev (fun k => jacquardref33_Walk.l2 k ii l w f x (w.length : Int) i n p lp ar rs ne) (smW n p ii ar sl w f d i x, true) := by
          intro d
          induction d with
          | zero =>
            intro i x f i0 hid x0 x1
            refine Ev.step (f := fun _ => some (x, true)) (fun k => ?_) (Ev.now _)
            simp only [jacquardref33_Walk.l2]
            rw [if_neg (by omega)]
          | succ d ih =>
            intro i x f i0 hid x0 x1
            obtain ⟨r0, r1⟩ := hr i i0 (by omega)
            have A := F.arc _ r0 r1
            have mB := mulB hi h2 A.2.2.2.2.2.2.1 A.2.2.2.2.2.2.2
            have hz := hto i i0 (by omega)
            have hs := hS (rd_T48 ar (rd w i)).f1 A.2.2.1
            have hsv : sv n p ii sl (rd_T48 ar (rd w i)).f1 = -1 := by unfold sv; rw [hz, if_neg Bool.false_ne_true]
            rw [hsv] at hs
            rw [smW]
            (try dsimp only)
            rw [hz, if_neg Bool.false_ne_true]
            refine Ev.step (f := fun k => (jacquardref33_slot.f k n p lp ar rs ne l ((rd_T48 ar (rd w i)).f1)).bind fun t291 => (if t291 ≥ 0 then ((jacquardref33_mod.f (wrap64 ((wrap64 (t291 - f)) - (x + ((rd_T48 ar (rd w i)).f2 - ii * (rd_T48 ar (rd w i)).f3)))) ii).bind fun t292 => (jacquardref33_Walk.l2 k ii l w f (wrap64 ((x + ((rd_T48 ar (rd w i)).f2 - ii * (rd_T48 ar (rd w i)).f3)) + t292)) (w.length : Int) (i + 1) n p lp ar rs ne)) else (jacquardref33_Walk.l2 k ii l w f (x + ((rd_T48 ar (rd w i)).f2 - ii * (rd_T48 ar (rd w i)).f3)) (w.length : Int) (i + 1) n p lp ar rs ne))) (fun k => ?_) (Ev.bind hs (Ev.congr (fun k => if_neg (by decide)) (ih _ _ _ (by omega) (by omega) (by omega) (by omega))))
            simp only [jacquardref33_Walk.l2]
            rw [if_pos (by omega), if_pos i0, if_pos (by omega), if_pos r0, if_pos r1, weight_ok F hi h2 r0 r1]
            simp only [Option.bind_some]
            rw [w64 (x := i + 1) (by omega) (by omega), w64 (x := x + ((rd_T48 ar (rd w i)).f2 - ii * (rd_T48 ar (rd w i)).f3)) (by omega) (by omega)]
        rw [hfr w.length 0 0 _ (sv n p ii sl (rd_T48 ar (rd w 0)).f0) (Int.le_refl _) (by omega)]
        refine Ev.step hj (Ev.bind hs (Ev.congr (fun k => if_neg hb1) (Ev.step (fun k => ?_) (hsm w.length 0 0 _ (Int.le_refl _) (by omega) (by omega) (by omega)))))
        simp only [jacquardref33_Walk.j3]
        rw [if_neg Bool.false_ne_true]
  | succ d ih =>
    intro i i0 hid hall
    obtain ⟨r0, r1⟩ := hr i i0 (by omega)
    have t := nxR i i0 (by omega)
    obtain ⟨q0, q1⟩ := hr _ t.1 t.2
    have hj : ∀ k, jacquardref33_Walk.l1 (k + 1) ii l w b (w.length : Int) i n p lp ar rs ne = if (rd_T48 ar (rd w i)).f1 = (rd_T48 ar (nx w i)).f0 then jacquardref33_Walk.l1 k ii l w b (w.length : Int) (i + 1) n p lp ar rs ne else some (0, false) := by
      intro k
      simp only [jacquardref33_Walk.l1]
      rw [if_pos (by omega), if_pos i0, if_pos (by omega), if_pos r0, if_pos r1, if_neg (by omega), w64 (x := i + 1) (by omega) (by omega), if_pos t.1, if_pos t.2, if_pos q0, if_pos q1]
      rfl
    by_cases h : (rd_T48 ar (rd w i)).f1 = (rd_T48 ar (nx w i)).f0
    · refine Ev.step (fun k => (hj k).trans (if_pos h)) (ih (i + 1) (by omega) (by omega) (fun j j0 j1 => ?_))
      by_cases e : j = i
      · rw [e]; exact h
      · exact hall j j0 (by omega)
    · have hz : walkV n p ii ar sl w = (0, false) := by
        unfold walkV
        rw [if_neg h0, if_pos]
        rw [← Bool.not_eq_true, upto_iff]
        intro hh
        have := hh i i0 (by omega)
        rw [Bool.not_eq_true'] at this
        exact h ((bad i i0 (by omega)).mp this)
      rw [hz]
      exact Ev.step (fun k => (hj k).trans (if_neg h)) (Ev.now _)
theorem rwalk_ok (F : FO n p ar rs ne) (hi : 1 ≤ ii) (h2 : ii ≤ 256) (hS : SlotsAre n p lp ar rs ne ii l sl) (hw : w.length ≤ 40) : Ev (fun k => jacquardref33_Walk.f k n p lp ar rs ne ii l w) (walkV n p ii ar sl w) := by
  by_cases h0 : w.length = 0
  · refine Ev.congr (fun k => ?_) (Ev.now _)
    unfold jacquardref33_Walk.f walkV
    rw [if_pos (by omega), if_pos h0]
  have loop : ∀ (d : Nat) (i : Int) (b : Bool), 0 ≤ i → i + d = w.length → (∀ j : Int, 0 ≤ j → j < i → inR ar w j) → (b = true ↔ upto (fun j => !fixW n p ii ar sl w j) i.toNat 0 = false) → Ev (fun k => jacquardref33_Walk.l0 k ii l w b (w.length : Int) i n p lp ar rs ne) (walkV n p ii ar sl w) := by
    intro d
    induction d with
    | zero =>
      intro i b i0 hd hr hb
      have e : i = w.length := by omega
      rw [e] at hr hb ⊢
      rw [Int.toNat_natCast] at hb
      refine Ev.step (fun k => ?_) (rw_chain (lp := lp) F hi h2 hS hw h0 hr hb w.length 0 (Int.le_refl _) (by omega) (fun j j0 j1 => absurd j1 (by omega)))
      simp only [jacquardref33_Walk.l0]
      rw [if_neg (by omega)]
    | succ d ih =>
      intro i b i0 hd hr hb
      have up : ∀ (q : Int → Bool), upto q (i + 1).toNat 0 = (upto q i.toNat 0 && q i) := by
        intro q
        rw [Bool.eq_iff_iff, Bool.and_eq_true, upto_iff, upto_iff]
        constructor
        · intro h
          exact ⟨fun j j0 j1 => h j j0 (by omega), h i i0 (by omega)⟩
        · rintro ⟨h, h'⟩ j j0 j1
          by_cases e : j = i
          · rw [e]; exact h'
          · exact h j j0 (by omega)
      have hj : ∀ k, jacquardref33_Walk.l0 (k + 1) ii l w b (w.length : Int) i n p lp ar rs ne = jacquardref33_Walk.j1 k ii l w b i (w.length : Int) i (!decide (0 ≤ rd w i ∧ rd w i < ar.length)) n p lp ar rs ne := by
        intro k
        simp only [jacquardref33_Walk.l0]
        rw [if_pos (by omega), if_pos i0, if_pos (by omega)]
        repeat' split
        all_goals (congr 1; rw [Bool.eq_iff_iff]; simp <;> omega)
      by_cases hin : 0 ≤ rd w i ∧ rd w i < ar.length
      · have hs := hS (rd_T48 ar (rd w i)).f0 (F.arc _ hin.1 hin.2).1
        have siff := sv_iff (n := n) (p := p) (sl := sl) hi h2 (rd_T48 ar (rd w i)).f0
        have hfx : fixW n p ii ar sl w i = (slotV n p ii sl (rd_T48 ar (rd w i)).f0).2 := rfl
        have hr' : ∀ j : Int, 0 ≤ j → j < i + 1 → inR ar w j := fun j j0 j1 => by
          by_cases e : j = i
          · rw [e]; exact hin
          · exact hr j j0 (by omega)
        by_cases hb1 : b = true
        · refine Ev.step hj (Ev.step (fun k => ?_) (ih (i + 1) true (by omega) (by omega) hr' (by rw [up, hb.mp hb1]; simp)))
          simp only [jacquardref33_Walk.j1]
          rw [if_neg (by simp [hin]), if_pos hb1, w64 (by omega) (by omega)]
        · have h1 : upto (fun j => !fixW n p ii ar sl w j) i.toNat 0 = true := by
            rw [← Bool.not_eq_false]; exact fun h => hb1 (hb.mpr h)
          refine Ev.step hj (Ev.step (f := fun k => (jacquardref33_slot.f k n p lp ar rs ne l ((rd_T48 ar (rd w i)).f0)).bind fun t279 => (jacquardref33_Walk.l0 k ii l w (decide (t279 ≥ 0)) (w.length : Int) (i + 1) n p lp ar rs ne)) (fun k => ?_) (Ev.bind hs (ih (i + 1) _ (by omega) (by omega) hr' ?_)))
          · simp only [jacquardref33_Walk.j1]
            rw [if_neg (by simp [hin]), if_neg hb1, if_pos i0, if_pos (by omega), if_pos hin.1, if_pos hin.2, w64 (by omega) (by omega)]
          · rw [up, h1, Bool.true_and, Bool.not_eq_false', hfx, decide_eq_true_eq]
            exact siff
      · have hz : walkV n p ii ar sl w = (0, false) := by
          unfold walkV
          rw [if_neg h0, if_pos]
          rw [← Bool.not_eq_true, upto_iff]
          intro hh
          have := hh i i0 (by omega)
          simp only [badW, Bool.not_eq_true', decide_eq_false_iff_not] at this
          omega
        rw [hz]
        refine Ev.step hj (Ev.step (f := fun _ => some (0, false)) (fun k => ?_) (Ev.now _))
        simp only [jacquardref33_Walk.j1]
        rw [if_pos (by simp; omega)]
  refine Ev.congr (fun k => ?_) (loop w.length 0 false (Int.le_refl _) (by omega) (fun j j0 j1 => absurd j1 (by omega)) (by simp [upto]))
  unfold jacquardref33_Walk.f
  rw [if_neg (by omega)]
end

section
variable {n p : Int} {lp : Bool} {ar : List S48} {rs : List S50} {ne : List S52} {ii : Int}
theorem loop_ok' {t : List S54} (h' : FW n p ar rs ne t = true) (ii : Int) : Ev (fun k => refute_loop.f k n p lp ar rs ne ii) (VF n p lp ar rs ne && (lp && decide (1 ≤ ii ∧ ii ≤ 256))) := by
  simp only [FW, Bool.and_eq_true, decide_eq_true_eq, upto_iff] at h'
  obtain ⟨e, ⟨⟨e2, e3, f1, f2, f3, f4⟩, f5⟩, g1, g2⟩ := h'
  refine Ev.congr (f := fun k => (dataflow_Valid.f k n p lp ar rs ne).bind fun t132 => (if t132 = true then (if lp = true then (if ii ≥ 1 then (some (decide (ii ≤ 256))) else (some false)) else (some false)) else (some false))) (fun k => rfl) (Ev.bind (prog_valid (by omega) (by omega) (by omega)) ?_)
  refine Ev.congr (fun k => ?_) (Ev.now _)
  cases VF n p lp ar rs ne
  · simp
  · cases lp
    · simp
    · by_cases a : ii ≥ 1
      · simp [a]
      · simp [a]
theorem rd44_snoc' (l : List S44) (x : S44) (q : Int) (q0 : 0 ≤ q) (q1 : q < l.length + 1) : rd_T44 (l ++ [x]) q = if q < l.length then rd_T44 l q else x := by
  unfold rd_T44
  rw [List.getD_eq_getElem?_getD, List.getD_eq_getElem?_getD]
  by_cases h : q < l.length
  · rw [if_pos h, List.getElem?_append_left (by omega)]
  · rw [if_neg h, List.getElem?_append_right (by omega), show q.toNat - l.length = 0 by omega]; rfl
end
theorem fixes_ok {n p : Int} {lp : Bool} {ar : List S48} {rs : List S50} {ne : List S52} {ii : Int} {sl w : List Int} (F : FO n p ar rs ne) (hi : 1 ≤ ii) (h2 : ii ≤ 256) (hl : sl.length ≤ 20) (hw : w.length ≤ 40) (x : Int) (b : Bool) (d : Nat) : ∀ (i : Int) (l : List S44), 0 ≤ i → i + d = sl.length → (l.length : Int) ≤ i →
    (∀ q : Int, 0 ≤ q → q < l.length → 0 ≤ (rd_T44 l q).f0 ∧ (rd_T44 l q).f0 < i ∧ (rd_T44 l q).f0 < n ∧ 0 ≤ rd sl (rd_T44 l q).f0 ∧ (rd_T44 l q).f1 = (rd sl (rd_T44 l q).f0).tmod ii) → (∀ v : Int, 0 ≤ v → v < i → v < n → 0 ≤ rd sl v → ∃ q : Int, 0 ≤ q ∧ q < l.length ∧ (rd_T44 l q).f0 = v) →
    x = (walkV n p ii ar sl w).1 → b = (walkV n p ii ar sl w).2 → Ev (fun k => jacquardlaw34_RefuteWalks.l0 k ii x b l (sl.length : Int) i n p lp ar rs ne sl w) true := by
  have n0 := F.n0; have p0 := F.p0
  induction d with
  | zero =>
    intro i l i0 hd hll hv hall hx hb
    have hS : SlotsAre n p lp ar rs ne ii l sl := by
      intro v v0
      obtain ⟨s, hs, hp⟩ := rslot_ok (lp := lp) F l (by omega) v
      have e : s = sv n p ii sl v := by
        unfold sv slotV
        rcases hp with ⟨rfl, rfl⟩ | ⟨hne, ⟨rfl, hno⟩ | ⟨q, q0, q1, q2, q3, -⟩⟩
        · rw [if_pos rfl]; rfl
        · rw [if_neg hne]
          by_cases h : v < n ∧ v < sl.length ∧ 0 ≤ rd sl v
          · obtain ⟨q, q0, q1, q2⟩ := hall v v0 (by omega) h.1 h.2.2
            exact absurd q2 (hno q q0 q1)
          · rw [if_neg h]; rfl
        · have := hv q q0 q1
          rw [q2] at this
          have hC : v < n ∧ v < sl.length ∧ 0 ≤ rd sl v := ⟨this.2.2.1, by omega, this.2.2.2.1⟩
          rw [if_neg hne, if_pos hC]
          show s = (rd sl v).tmod ii
          omega
      rw [← e]
      exact hs
    refine Ev.step (fun k => ?_) (Ev.bind (f := fun _ bt306 => if x = bt306.1 then some (b == bt306.2) else some false) (rwalk_ok (lp := lp) F hi h2 hS hw) (Ev.congr (f := fun _ => some true) (fun k => ?_) (Ev.now true)))
    · simp only [jacquardlaw34_RefuteWalks.l0]
      rw [if_neg (by omega)]
    · rw [hx, hb]; simp
  | succ d ih =>
    intro i l i0 hd hll hv hall hx hb
    have hj : ∀ k, jacquardlaw34_RefuteWalks.l0 (k + 1) ii x b l (sl.length : Int) i n p lp ar rs ne sl w = jacquardlaw34_RefuteWalks.j3 k ii x b l i (sl.length : Int) i (decide (i < n ∧ 0 ≤ rd sl i)) n p lp ar rs ne sl w := by
      intro k
      simp only [jacquardlaw34_RefuteWalks.l0]
      rw [if_pos (by omega)]
      by_cases h : i < n
      · rw [if_pos h, if_pos i0, if_pos (by omega)]; simp [h]
      · rw [if_neg h]; simp [h]
    by_cases h : i < n ∧ 0 ≤ rd sl i
    · refine Ev.step hj (Ev.step (fun k => ?_) (ih (i + 1) (l ++ [(⟨i, (rd sl i).tmod ii, 0⟩ : S44)]) (by omega) (by omega) (by rw [List.length_append, List.length_singleton]; omega) (fun q q0 q1 => ?_) (fun v v0 v1 v2 v3 => ?_) hx hb))
      · simp only [jacquardlaw34_RefuteWalks.j3]
        rw [if_pos (by simp [h]), if_pos i0, if_pos (by omega), if_neg (by omega), if_pos (by omega), w64 (by omega) (by omega)]
      · rw [List.length_append, List.length_singleton] at q1
        rw [rd44_snoc' l _ q q0 (by omega)]
        by_cases e : q < l.length
        · rw [if_pos e]; have := hv q q0 e; exact ⟨this.1, by omega, this.2.2⟩
        · rw [if_neg e]; exact ⟨i0, by show i < i + 1; omega, h.1, h.2, rfl⟩
      · by_cases e : v = i
        · exact ⟨l.length, by omega, by rw [List.length_append, List.length_singleton]; omega, by rw [rd44_snoc' _ _ _ (by omega) (by omega), if_neg (by omega)]; exact e.symm⟩
        · obtain ⟨q, q0, q1, q2⟩ := hall v v0 (by omega) v2 v3
          exact ⟨q, q0, by rw [List.length_append, List.length_singleton]; omega, by rw [rd44_snoc' _ _ _ q0 (by omega), if_pos q1]; exact q2⟩
    · refine Ev.step hj (Ev.step (fun k => ?_) (ih (i + 1) l (by omega) (by omega) (by omega) (fun q q0 q1 => (by have := hv q q0 q1; exact ⟨this.1, by omega, this.2.2⟩)) (fun v v0 v1 v2 v3 => ?_) hx hb))
      · simp only [jacquardlaw34_RefuteWalks.j3]
        rw [if_neg (by simp; omega), w64 (by omega) (by omega)]
      · by_cases e : v = i
        · rw [e] at v2 v3; exact absurd ⟨v2, v3⟩ h
        · exact hall v v0 (by omega) v2 v3
theorem RefuteWalks : jacquardlaw34_RefuteWalks.Pure := by
  rintro ⟨n, p, lp, ar, rs, ne⟩ ii ⟨sl, w⟩ ⟨-, -, -, ⟨-, la, -⟩, ⟨-, lr, -⟩, ⟨-, ln, -⟩⟩ hs -
  (try dsimp only at *)
  have hfew := few_ok (n := n) (p := p) (lp := lp) (ar := ar) (rs := rs) (ne := ne) (by omega) (by omega) [] (by simp)
  have hj : Ev (fun k => jacquardlaw34_RefuteWalks.j0 k ii true n p lp ar rs ne sl w) true := by
    refine Ev.step (fun k => ?_) (Ev.bind awake (Ev.now true))
    simp only [jacquardlaw34_RefuteWalks.j0]
    rw [if_pos trivial]
  suffices h : Ev (fun k => jacquardlaw34_RefuteWalks.f k n p lp ar rs ne ii sl w) true from h.rounds
  refine Ev.congr (fun k => rfl) (Ev.bind awake (Ev.congr (fun k => if_pos rfl) (Ev.bind hfew ?_)))
  by_cases hF : FW n p ar rs ne [] = true
  case neg => exact Ev.congr (fun k => if_neg hF) hj
  refine Ev.congr (fun k => if_pos hF) ?_
  by_cases h1 : (sl.length : Int) > 20
  · exact Ev.congr (fun k => if_pos h1) hj
  refine Ev.congr (fun k => if_neg h1) ?_
  by_cases h3 : (w.length : Int) > 20
  · rw [decide_eq_true h3]; exact hj
  rw [decide_eq_false h3]
  have hl := loop_ok' (lp := lp) hF ii
  have hF' := hF
  simp only [FW, Bool.and_eq_true, decide_eq_true_eq] at hF'
  obtain ⟨-, ⟨⟨-, -, f1, f2, f3, f4⟩, f5⟩, -⟩ := hF'
  have hv := ref_valid (n := n) (p := p) (lp := lp) (ar := ar) (rs := rs) (ne := ne) (by omega) (by omega) (by omega)
  by_cases hV : (VF n p lp ar rs ne && (lp && decide (1 ≤ ii ∧ ii ≤ 256))) = true
  · rw [hV] at hl
    simp only [Bool.and_eq_true, decide_eq_true_eq] at hV
    obtain ⟨hV, hlp, hii, hi⟩ := hV
    have F := FO.of hV hF
    have hwalk := walk_ok (lp := lp) F hii hi sl w (by omega)
    rw [hV] at hv
    have hW : Ev (fun k => refute_Walk.f k n p lp ar rs ne ii sl w) (walkV n p ii ar sl w) := by
      refine Ev.congr (fun k => rfl) (Ev.bind hl (Ev.congr (fun k => if_pos rfl) (Ev.bind hwalk (Ev.now _))))
    refine Ev.step (f := fun k => (refute_Walk.f k n p lp ar rs ne ii sl w).bind fun bt298 => ((jacquardref28_Valid.f k n p lp ar rs ne).bind fun t300 => (if t300 = true then (if lp = true then (if ii < 1 then (jacquardlaw34_RefuteWalks.j1 k ii bt298.1 bt298.2 true n p lp ar rs ne sl w) else (jacquardlaw34_RefuteWalks.j1 k ii bt298.1 bt298.2 (decide (ii > 256)) n p lp ar rs ne sl w)) else (jacquardlaw34_RefuteWalks.j1 k ii bt298.1 bt298.2 true n p lp ar rs ne sl w)) else (jacquardlaw34_RefuteWalks.j1 k ii bt298.1 bt298.2 true n p lp ar rs ne sl w)))) (fun k => ?_) (Ev.bind hW (Ev.bind hv (Ev.congr (fun k => (if_pos rfl).trans ((if_pos hlp).trans ((if_neg (by omega)).trans (by rw [decide_eq_false (show ¬ ii > 256 by omega)])))) (Ev.step (fun k => ?_) (fixes_ok (lp := lp) (sl := sl) (w := w) F hii hi (by omega) (by omega) _ _ sl.length 0 [] (Int.le_refl _) (by omega) (by simp) (fun q q0 q1 => absurd q1 (by simp; omega)) (fun v v0 v1 => absurd v1 (by omega)) rfl rfl)))))
    · simp only [jacquardlaw34_RefuteWalks.j0]
      rw [if_neg Bool.false_ne_true]
    · simp only [jacquardlaw34_RefuteWalks.j1]
      rw [if_neg Bool.false_ne_true]
  · rw [Bool.not_eq_true] at hV
    rw [hV] at hl
    have hW : Ev (fun k => refute_Walk.f k n p lp ar rs ne ii sl w) (0, false) := by
      refine Ev.congr (fun k => rfl) (Ev.bind hl (Ev.congr (fun k => if_neg Bool.false_ne_true) (Ev.now _)))
    have hj1 : Ev (fun k => jacquardlaw34_RefuteWalks.j1 k ii 0 false true n p lp ar rs ne sl w) true := by
      refine Ev.step (f := fun _ => some true) (fun k => ?_) (Ev.now _)
      simp only [jacquardlaw34_RefuteWalks.j1]
      rw [if_pos trivial, if_neg Bool.false_ne_true]
      rfl
    refine Ev.step (f := fun k => (refute_Walk.f k n p lp ar rs ne ii sl w).bind fun bt298 => ((jacquardref28_Valid.f k n p lp ar rs ne).bind fun t300 => (if t300 = true then (if lp = true then (if ii < 1 then (jacquardlaw34_RefuteWalks.j1 k ii bt298.1 bt298.2 true n p lp ar rs ne sl w) else (jacquardlaw34_RefuteWalks.j1 k ii bt298.1 bt298.2 (decide (ii > 256)) n p lp ar rs ne sl w)) else (jacquardlaw34_RefuteWalks.j1 k ii bt298.1 bt298.2 true n p lp ar rs ne sl w)) else (jacquardlaw34_RefuteWalks.j1 k ii bt298.1 bt298.2 true n p lp ar rs ne sl w)))) (fun k => ?_) (Ev.bind hW (Ev.bind hv (Ev.congr (fun k => ?_) hj1)))
    · simp only [jacquardlaw34_RefuteWalks.j0]
      rw [if_neg Bool.false_ne_true]
    · (try dsimp only)
      by_cases a1 : VF n p lp ar rs ne = true
      · rw [if_pos a1]
        by_cases a2 : lp = true
        · rw [if_pos a2]
          by_cases a3 : ii < 1
          · rw [if_pos a3]
          · rw [if_neg a3, show decide (ii > 256) = true from ?_]
            rw [decide_eq_true_eq]
            rw [a1, a2] at hV
            simp only [Bool.true_and, decide_eq_false_iff_not] at hV
            omega
        · rw [if_neg a2]
      · rw [if_neg a1]

end Go.Proofs.Ytpmlbbglekaidaa.Pure
