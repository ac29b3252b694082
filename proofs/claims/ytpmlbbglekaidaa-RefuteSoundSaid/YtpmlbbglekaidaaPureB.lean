/- What an accepted refutation tree shows. -/
import Derived.Test.YtpmlbbglekaidaaPureA
import Derived.Test.YtpmlbbglekaidaaF34
import Derived.Test.YtpmlbbglekaidaaF36
import Derived.Test.YtpmlbbglekaidaaF37
import Derived.Test.YtpmlbbglekaidaaF19
import Derived.Test.YtpmlbbglekaidaaF18
import Derived.Test.YtpmlbbglekaidaaF20
import Derived.Test.YtpmlbbglekaidaaF8
namespace Go.Proofs.Ytpmlbbglekaidaa.Pure
open Go.RowKit Go.Proofs.Ytpmlbbglekaidaa.PAll Go.Proofs.YtpmlbbglekaidaaW.PrintWords Go.Proofs.YtpmlbbglekaidaaW.PrintLast
set_option linter.unusedVariables false
set_option linter.unusedSimpArgs false

/-! ### refutation trees are sound: without Go -/
/-- As many numbers below C as there are different ones. -/
theorem php : ∀ (C m : Nat) (f : Nat → Nat), (∀ i, i ≤ m → f i < C) → (∀ i j, i ≤ m → j ≤ m → f i = f j → i = j) → m + 1 ≤ C
  | 0, _, f, h, _ => absurd (h 0 (by omega)) (by omega)
  | C + 1, 0, _, _, _ => by omega
  | C + 1, m + 1, f, h, hi => by
    have ne : ∀ i, i ≤ m → f i ≠ f (m + 1) := fun i him e => by have := hi i (m + 1) (by omega) (by omega) e; omega
    have k := php C m (fun i => if f i > f (m + 1) then f i - 1 else f i)
      (fun i him => by
        have a := h i (by omega)
        have b := h (m + 1) (by omega)
        have c := ne i him
        (try dsimp only)
        split <;> omega)
      (fun i j hii hjj e => by
        have a := ne i hii
        have b := ne j hjj
        refine hi i j (by omega) (by omega) ?_
        (try dsimp only at e)
        split at e <;> split at e <;> omega)
    omega
/-- A schedule as far as units are concerned: instructions 0 .. I - 1 with resources, starts and units; no two clash. -/
structure Model (I : Nat) (res busy count : Int → Int) (ii : Int) (start unit : Int → Int) : Prop where
  hii : 0 < ii
  un : ∀ i : Int, 0 ≤ i → i < (I : Int) → 0 ≤ res i → 0 ≤ unit i ∧ unit i < count (res i)
  st : ∀ i : Int, 0 ≤ i → i < (I : Int) → 0 ≤ start i
  long : ∀ i : Int, 0 ≤ i → i < (I : Int) → 0 ≤ res i → busy i ≤ ii
  apart : ∀ i k : Int, 0 ≤ i → i < (I : Int) → 0 ≤ k → k < (I : Int) → i ≠ k → 0 ≤ res i → res i = res k → unit i = unit k → ∀ a b : Int, 0 ≤ a → a < busy i → 0 ≤ b → b < busy k → (start i + a) % ii ≠ (start k + b) % ii
/-- The fixed instructions (their slots are not negative) are the schedule's, but for the units' names. -/
structure Fits (I : Nat) (res : Int → Int) (ii : Int) (start unit sl un : Int → Int) : Prop where
  rs : ∀ i : Int, 0 ≤ i → i < (I : Int) → 0 ≤ sl i → 0 ≤ res i
  slot : ∀ i : Int, 0 ≤ i → i < (I : Int) → 0 ≤ sl i → sl i = start i % ii
  pos : ∀ i : Int, 0 ≤ i → i < (I : Int) → 0 ≤ sl i → 0 ≤ un i
  same : ∀ i k : Int, 0 ≤ i → i < (I : Int) → 0 ≤ k → k < (I : Int) → 0 ≤ sl i → 0 ≤ sl k → res i = res k → (un i = un k ↔ unit i = unit k)
  all : ∀ i : Int, 0 ≤ i → i < (I : Int) → 0 ≤ sl i → ∀ v : Int, 0 ≤ v → v < un i → ∃ k : Int, 0 ≤ k ∧ k < (I : Int) ∧ 0 ≤ sl k ∧ res k = res i ∧ un k = v
section
variable {I : Nat} {res busy count : Int → Int} {ii : Int} {start unit sl un : Int → Int}
theorem Fits.none (h : ∀ i : Int, 0 ≤ i → i < (I : Int) → sl i < 0) : Fits I res ii start unit sl un :=
  ⟨fun i a b c => absurd c (by have := h i a b; omega), fun i a b c => absurd c (by have := h i a b; omega), fun i a b c => absurd c (by have := h i a b; omega), fun i k a b _ _ c => absurd c (by have := h i a b; omega), fun i a b c => absurd c (by have := h i a b; omega)⟩
/-- Units 0 .. v of a resource are in use: then it has more than v. -/
theorem Fits.room (M : Model I res busy count ii start unit) (F : Fits I res ii start unit sl un) {r : Int} (hr : 0 ≤ r) {v : Nat} (hv : ∀ u : Nat, u ≤ v → ∃ k : Int, 0 ≤ k ∧ k < (I : Int) ∧ 0 ≤ sl k ∧ res k = r ∧ un k = (u : Int))
    (more : Option Int) (hm : ∀ i, more = some i → 0 ≤ i ∧ i < (I : Int) ∧ res i = r ∧ ∀ k : Int, 0 ≤ k → k < (I : Int) → 0 ≤ sl k → res k = r → unit k ≠ unit i) : (v : Int) + (if more.isSome then 2 else 1) ≤ count r := by
  let g : Nat → Int := fun u => if h : u ≤ v then unit (hv u h).choose else (more.map unit).getD 0
  have g1 : ∀ u (h : u ≤ v), g u = unit (hv u h).choose := fun u h => dif_pos h
  have spec := fun u h => (hv u h).choose_spec
  have inj : ∀ a b, a ≤ v → b ≤ v → g a = g b → a = b := fun a b ha hb e => by
    rw [g1 a ha, g1 b hb] at e
    obtain ⟨a0, a1, a2, a3, a4⟩ := spec a ha
    obtain ⟨b0, b1, b2, b3, b4⟩ := spec b hb
    have := (F.same _ _ a0 a1 b0 b1 a2 b2 (a3.trans b3.symm)).mpr e
    omega
  have rng : ∀ u, u ≤ v → 0 ≤ g u ∧ g u < count r := fun u h => by
    rw [g1 u h]
    obtain ⟨a0, a1, a2, a3, a4⟩ := spec u h
    have := M.un _ a0 a1 (by omega)
    rw [a3] at this
    exact this
  have c0 : 0 ≤ count r := by have := rng 0 (by omega); omega
  cases more with
  | none =>
    have := php (count r).toNat v (fun u => (g u).toNat) (fun u h => by have := rng u h; omega) (fun a b ha hb e => inj a b ha hb (by have := rng a ha; have := rng b hb; (try dsimp only at e); omega))
    simp only [Option.isSome_none]
    rw [if_neg Bool.false_ne_true]
    omega
  | some i =>
    obtain ⟨i0, i1, i2, i3⟩ := hm i rfl
    have gi : g (v + 1) = unit i := dif_neg (by omega)
    have ri := M.un i i0 i1 (by omega)
    rw [i2] at ri
    have new : ∀ u, u ≤ v → g u ≠ g (v + 1) := fun u h => by
      rw [g1 u h, gi]
      obtain ⟨a0, a1, a2, a3, a4⟩ := spec u h
      exact i3 _ a0 a1 a2 a3
    have rng2 : ∀ u, u ≤ v + 1 → 0 ≤ g u ∧ g u < count r := fun u h => by
      by_cases e : u ≤ v
      · exact rng u e
      · rw [show u = v + 1 by omega, gi]; exact ri
    have := php (count r).toNat (v + 1) (fun u => (g u).toNat) (fun u h => by have := rng2 u h; omega) (fun a b ha hb e => by
      have ra := rng2 a ha
      have rb := rng2 b hb
      (try dsimp only at e)
      have e' : g a = g b := by omega
      by_cases ea : a ≤ v
      · by_cases eb : b ≤ v
        · exact inj a b ea eb e'
        · rw [show b = v + 1 by omega] at e'; exact absurd e' (new a ea)
      · by_cases eb : b ≤ v
        · rw [show a = v + 1 by omega] at e'; exact absurd e'.symm (new b eb)
        · omega)
    simp only [Option.isSome_some, if_true]
    omega
/-- A split: one of its kids fits the schedule. used: the least number above all units in use. -/
theorem Fits.split (M : Model I res busy count ii start unit) (F : Fits I res ii start unit sl un) {x : Int} (x0 : 0 ≤ x) (x1 : x < (I : Int)) (hx : 0 ≤ res x) (hs : sl x < 0) {used : Int} (u0 : 0 ≤ used)
    (hu : ∀ k : Int, 0 ≤ k → k < (I : Int) → 0 ≤ sl k → res k = res x → un k < used) (hw : used = 0 ∨ ∃ k : Int, 0 ≤ k ∧ k < (I : Int) ∧ 0 ≤ sl k ∧ res k = res x ∧ un k + 1 = used) :
    ∃ w : Int, 0 ≤ w ∧ w < (if used + 1 < count (res x) then used + 1 else count (res x)) ∧ Fits I res ii start unit (fun i => if i = x then start x % ii else sl i) (fun i => if i = x then w else un i) := by
  have all : ∀ v : Nat, (v : Int) < used → ∀ u : Nat, u ≤ v → ∃ k : Int, 0 ≤ k ∧ k < (I : Int) ∧ 0 ≤ sl k ∧ res k = res x ∧ un k = (u : Int) := fun v hv u huv => by
    rcases hw with hw | ⟨k, k0, k1, k2, k3, k4⟩
    · omega
    · by_cases e : (u : Int) = un k
      · exact ⟨k, k0, k1, k2, k3, e.symm⟩
      · obtain ⟨q, q0, q1, q2, q3, q4⟩ := F.all k k0 k1 k2 u (by omega) (by omega)
        exact ⟨q, q0, q1, q2, q3.trans k3, q4⟩
  have sx := M.st x x0 x1
  have mod0 := Int.emod_nonneg (start x) (show ii ≠ 0 by have := M.hii; omega)
  have cx := M.un x x0 x1 hx
  have mk : ∀ w : Int, 0 ≤ w → (∀ k : Int, 0 ≤ k → k < (I : Int) → 0 ≤ sl k → res k = res x → (un k = w ↔ unit k = unit x)) → (∀ v : Int, 0 ≤ v → v < w → ∃ k : Int, 0 ≤ k ∧ k < (I : Int) ∧ 0 ≤ sl k ∧ res k = res x ∧ un k = v) →
      Fits I res ii start unit (fun i => if i = x then start x % ii else sl i) (fun i => if i = x then w else un i) := fun w w0 hsame hall => by
    have old : ∀ i, i ≠ x → (if i = x then start x % ii else sl i) = sl i := fun i h => if_neg h
    have oldu : ∀ i, i ≠ x → (if i = x then w else un i) = un i := fun i h => if_neg h
    have keep : ∀ k : Int, 0 ≤ sl k → k ≠ x := fun k h e => by subst e; omega
    refine ⟨fun i a b c => ?_, fun i a b c => ?_, fun i a b c => ?_, fun i k a b a' b' c c' e => ?_, fun i a b c v v0 v1 => ?_⟩
    · by_cases h : i = x
      · subst h; exact hx
      · rw [old i h] at c; exact F.rs i a b c
    · by_cases h : i = x
      · subst h; exact if_pos rfl
      · rw [old i h] at c ⊢; exact F.slot i a b c
    · by_cases h : i = x
      · subst h; (try dsimp only); rw [if_pos rfl]; exact w0
      · rw [old i h] at c; rw [oldu i h]; exact F.pos i a b c
    · by_cases h : i = x
      · by_cases h' : k = x
        · subst h h'; simp
        · rw [old k h'] at c'; rw [oldu k h', h, if_pos rfl]; rw [h] at e
          have := hsame k a' b' c' e.symm
          constructor
          · intro q; exact (this.mp q.symm).symm
          · intro q; exact (this.mpr q.symm).symm
      · by_cases h' : k = x
        · rw [old i h] at c; rw [oldu i h, h', if_pos rfl]; rw [h'] at e
          exact hsame i a b c e
        · rw [old i h] at c; rw [old k h'] at c'; rw [oldu i h, oldu k h']; exact F.same i k a b a' b' c c' e
    · have fin : ∀ q : Int, 0 ≤ q → q < (I : Int) → 0 ≤ sl q → res q = res i → un q = v → ∃ k : Int, 0 ≤ k ∧ k < (I : Int) ∧ 0 ≤ (fun i => if i = x then start x % ii else sl i) k ∧ res k = res i ∧ (fun i => if i = x then w else un i) k = v := fun q q0 q1 q2 q3 q4 =>
        ⟨q, q0, q1, by (try dsimp only); rw [old q (keep q q2)]; exact q2, q3, by (try dsimp only); rw [oldu q (keep q q2)]; exact q4⟩
      by_cases h : i = x
      · subst h
        (try dsimp only at v1)
        rw [if_pos rfl] at v1
        obtain ⟨q, q0, q1, q2, q3, q4⟩ := hall v v0 v1
        exact fin q q0 q1 q2 q3 q4
      · rw [old i h] at c
        rw [oldu i h] at v1
        obtain ⟨q, q0, q1, q2, q3, q4⟩ := F.all i a b c v v0 v1
        exact fin q q0 q1 q2 q3 q4
  by_cases hex : ∃ k : Int, 0 ≤ k ∧ k < (I : Int) ∧ 0 ≤ sl k ∧ res k = res x ∧ unit k = unit x
  · obtain ⟨k, k0, k1, k2, k3, k4⟩ := hex
    have p := F.pos k k0 k1 k2
    have lt := hu k k0 k1 k2 k3
    have room := F.room M (r := res x) hx (v := (un k).toNat) (fun u hu' => all (un k).toNat (by omega) u hu') Option.none (fun i h => by simp at h)
    simp only [Option.isSome_none] at room
    rw [if_neg Bool.false_ne_true] at room
    refine ⟨un k, p, by split <;> omega, mk _ p (fun q q0 q1 q2 q3 => ?_) (fun v v0 v1 => ?_)⟩
    · rw [F.same q k q0 q1 k0 k1 q2 k2 (q3.trans k3.symm), k4]
    · obtain ⟨q, q0, q1, q2, q3, q4⟩ := F.all k k0 k1 k2 v v0 v1
      exact ⟨q, q0, q1, q2, q3.trans k3, q4⟩
  · have lt : used < count (res x) := by
      rcases hw with hw | ⟨k, k0, k1, k2, k3, k4⟩
      · omega
      · have p := F.pos k k0 k1 k2
        have room := F.room M (r := res x) hx (v := (un k).toNat) (fun u hu' => all (un k).toNat (by omega) u hu') (some x) (fun i h => by
          injection h with h
          subst h
          exact ⟨x0, x1, rfl, fun q q0 q1 q2 q3 q4 => hex ⟨q, q0, q1, q2, q3, q4⟩⟩)
        simp only [Option.isSome_some, if_true] at room
        omega
    refine ⟨used, u0, by split <;> omega, mk _ u0 (fun q q0 q1 q2 q3 => ?_) (fun v v0 v1 => ?_)⟩
    · have := hu q q0 q1 q2 q3
      constructor
      · intro e; omega
      · intro e; exact absurd ⟨q, q0, q1, q2, q3, e⟩ hex
    · obtain ⟨q, q0, q1, q2, q3, q4⟩ := all v.toNat (by omega) v.toNat (Nat.le_refl _)
      exact ⟨q, q0, q1, q2, q3, by omega⟩
/-- Two fixed instructions in one unit and cycle. -/
theorem Fits.full (M : Model I res busy count ii start unit) (F : Fits I res ii start unit sl un) {i k : Int} (i0 : 0 ≤ i) (i1 : i < (I : Int)) (k0 : 0 ≤ k) (k1 : k < (I : Int)) (si : 0 ≤ sl i) (sk : 0 ≤ sl k) (hr : res i = res k) (hu : un i = un k)
    {a b : Int} (a0 : 0 ≤ a) (a1 : a < busy i) (b0 : 0 ≤ b) (b1 : b < busy k) (hc : (sl i + a) % ii = (sl k + b) % ii) (hne : i ≠ k ∨ a ≠ b) : False := by
  have hi := M.hii
  have ri := F.rs i i0 i1 si
  rw [F.slot i i0 i1 si, F.slot k k0 k1 sk, Int.emod_add_emod, Int.emod_add_emod] at hc
  by_cases e : i = k
  · subst e
    have hl := M.long i i0 i1 ri
    have hab : a ≠ b := hne.resolve_left (fun h => h rfl)
    have d : ii ∣ (start i + a) - (start i + b) := Int.dvd_of_emod_eq_zero (Int.emod_eq_emod_iff_emod_sub_eq_zero.mp hc)
    obtain ⟨q, hq⟩ := d
    have h1 : a - b = ii * q := by omega
    have q0 : q ≠ 0 := fun h => by rw [h, Int.mul_zero] at h1; omega
    rcases Int.lt_or_gt_of_ne q0 with h | h
    · have : ii * q ≤ ii * (-1) := Int.mul_le_mul_of_nonneg_left (by omega) (by omega)
      omega
    · have : ii * 1 ≤ ii * q := Int.mul_le_mul_of_nonneg_left (by omega) (by omega)
      omega
  · exact M.apart i k i0 i1 k0 k1 e ri hr ((F.same i k i0 i1 k0 k1 si sk hr).mp hu) a b a0 a1 b0 b1 hc
end

/-! ### refute.Check: what an accepted tree shows -/
/-- Times and units of a schedule, as far as they matter. -/
structure MD (n p ii : Int) (ar : List S48) (rs : List S50) (ne : List S52) (start unit T : Int → Int) : Prop where
  M : Model n.toNat (fun i => (rd_T52 ne i).f0) (fun i => (rd_T52 ne i).f1) (fun r => (rd_T50 rs r).f3) ii start unit
  st : ∀ v : Int, 0 ≤ v → v < n → T v = start v
  src : T (n + p) = 0
  arc : ∀ j : Int, 0 ≤ j → j < ar.length → (rd_T48 ar j).f2 - ii * (rd_T48 ar j).f3 ≤ T (rd_T48 ar j).f1 - T (rd_T48 ar j).f0
/-- A state: slots and units of the fixed instructions. -/
structure ST (n ii : Int) (ne : List S52) (sl un : List Int) : Prop where
  l1 : (sl.length : Int) = n
  l2 : (un.length : Int) = n
  v : ∀ i : Int, 0 ≤ i → i < n → rd sl i = -1 ∨ 0 ≤ rd sl i ∧ rd sl i < ii ∧ 0 ≤ rd un i ∧ rd un i < 1024 ∧ 0 ≤ (rd_T52 ne i).f0
abbrev FT (n ii : Int) (ne : List S52) (start unit : Int → Int) (sl un : List Int) : Prop := Fits n.toNat (fun i => (rd_T52 ne i).f0) ii start unit (fun i => rd sl i) (fun i => rd un i)
theorem Fits.congr {I : Nat} {res : Int → Int} {ii : Int} {start unit sl un sl' un' : Int → Int} (F : Fits I res ii start unit sl un) (h : ∀ i : Int, 0 ≤ i → i < (I : Int) → sl' i = sl i ∧ un' i = un i) : Fits I res ii start unit sl' un' := by
  refine ⟨fun i a b c => ?_, fun i a b c => ?_, fun i a b c => ?_, fun i k a b a' b' c c' e => ?_, fun i a b c v v0 v1 => ?_⟩
  · rw [(h i a b).1] at c; exact F.rs i a b c
  · rw [(h i a b).1] at c ⊢; exact F.slot i a b c
  · rw [(h i a b).1] at c; rw [(h i a b).2]; exact F.pos i a b c
  · rw [(h i a b).1] at c; rw [(h k a' b').1] at c'; rw [(h i a b).2, (h k a' b').2]; exact F.same i k a b a' b' c c' e
  · rw [(h i a b).1] at c; rw [(h i a b).2] at v1
    obtain ⟨k, k0, k1, k2, k3, k4⟩ := F.all i a b c v v0 v1
    exact ⟨k, k0, k1, by rw [(h k k0 k1).1]; exact k2, k3, by rw [(h k k0 k1).2]; exact k4⟩
theorem rd_set (l : List Int) (x : Int) (x0 : 0 ≤ x) (x1 : x < l.length) (v i : Int) (i0 : 0 ≤ i) : rd (l.set x.toNat v) i = if i = x then v else rd l i := by
  unfold rd
  rw [List.getD_eq_getElem?_getD, List.getD_eq_getElem?_getD, List.getElem?_set]
  by_cases e : i = x
  · rw [if_pos e, if_pos (by omega), if_pos (by omega)]; rfl
  · rw [if_neg e, if_neg (by omega)]
section
variable {n p : Int} {lp : Bool} {ar : List S48} {rs : List S50} {ne : List S52} {ii : Int} {sl un : List Int} {start unit T : Int → Int}
/-! #### walks -/
theorem slotV_T (F : FO n p ar rs ne) (hii : 1 ≤ ii) (S : ST n ii ne sl un) (D : MD n p ii ar rs ne start unit T) (H : FT n ii ne start unit sl un) {v : Int} (v0 : 0 ≤ v) (h : (slotV n p ii sl v).2 = true) : (slotV n p ii sl v).1 = T v % ii := by
  unfold slotV at h ⊢
  by_cases e : v = n + p
  · rw [if_pos e]; show 0 = T v % ii; rw [e, D.src, Int.zero_emod]
  · rw [if_neg e] at h ⊢
    by_cases a : v < n ∧ v < sl.length ∧ 0 ≤ rd sl v
    · rw [if_pos a]
      show (rd sl v).tmod ii = T v % ii
      have hs := H.slot v v0 (by have := F.n0; omega) a.2.2
      have := S.v v v0 a.1
      rw [D.st v v0 a.1, ← hs, Int.tmod_eq_of_lt a.2.2 (by omega)]
    · rw [if_neg a] at h; exact absurd h (by simp)
theorem smW_le (hii : 1 ≤ ii) {w : List Int} {first v0 : Int} {c : Int → Int} (hc0 : c w.length = v0) (ha : ∀ i : Int, 0 ≤ i → i < w.length → (rd_T48 ar (rd w i)).f0 = c i ∧ (rd_T48 ar (rd w i)).f1 = c (i + 1) ∧ (rd_T48 ar (rd w i)).f2 - ii * (rd_T48 ar (rd w i)).f3 ≤ T (rd_T48 ar (rd w i)).f1 - T (rd_T48 ar (rd w i)).f0 ∧ ((slotV n p ii sl (rd_T48 ar (rd w i)).f1).2 = true → (slotV n p ii sl (rd_T48 ar (rd w i)).f1).1 = T (rd_T48 ar (rd w i)).f1 % ii ∧ first = T v0 % ii)) (d : Nat) : ∀ i x : Int, 0 ≤ i → i + d = w.length → x ≤ T (c i) - T v0 → smW n p ii ar sl w first d i x ≤ 0 := by
  induction d with
  | zero =>
    intro i x i0 hd hx
    have e : i = w.length := by omega
    rw [e, hc0] at hx
    rw [smW]
    omega
  | succ d ih =>
    intro i x i0 hd hx
    obtain ⟨a0, a1, a2, a3⟩ := ha i i0 (by omega)
    rw [smW]
    refine ih (i + 1) _ (by omega) (by omega) ?_
    rw [a1, a0] at a2
    by_cases hs : (slotV n p ii sl (rd_T48 ar (rd w i)).f1).2 = true
    · rw [if_pos hs]
      obtain ⟨s1, s2⟩ := a3 hs
      rw [tmod2 (by omega), s1, s2, a1]
      generalize hy : x + ((rd_T48 ar (rd w i)).f2 - ii * (rd_T48 ar (rd w i)).f3) = y
      have hyT : y ≤ T (c (i + 1)) - T v0 := by omega
      generalize T (c (i + 1)) = A at hyT
      generalize T v0 = B at hyT
      have cong : (A % ii - B % ii - y) % ii = (A - B - y) % ii := by
        have a := Int.emod_add_mul_ediv A ii
        have b := Int.emod_add_mul_ediv B ii
        have : A % ii - B % ii - y = (A - B - y) + ii * (B / ii - A / ii) := by rw [Int.mul_sub]; omega
        rw [this, Int.add_mul_emod_self_left]
      rw [cong]
      have h1 := Int.emod_add_mul_ediv (A - B - y) ii
      have h2 := Int.mul_nonneg (show 0 ≤ ii by omega) (Int.ediv_nonneg (show 0 ≤ A - B - y by omega) (show 0 ≤ ii by omega))
      omega
    · rw [if_neg hs]
      omega
theorem walk_sound (F : FO n p ar rs ne) (hii : 1 ≤ ii) {w : List Int} (S : ST n ii ne sl un) (D : MD n p ii ar rs ne start unit T) (H : FT n ii ne start unit sl un) (h : (walkV n p ii ar sl w).2 = true) : (walkV n p ii ar sl w).1 ≤ 0 := by
  unfold walkV at h ⊢
  by_cases h0 : w.length = 0
  · rw [if_pos h0] at h; exact absurd h (by simp)
  rw [if_neg h0] at h ⊢
  by_cases hb : upto (fun i => !badW ar w i) w.length 0 = false
  · rw [if_pos hb] at h; exact absurd h (by simp)
  rw [if_neg hb] at h ⊢
  (try dsimp only at h ⊢)
  by_cases hs : upto (fun i => !fixW n p ii ar sl w i) w.length 0 = false ∧ (slotV n p ii sl (rd_T48 ar (rd w 0)).f0).2 = false
  · rw [if_pos hs] at h; exact absurd h (by simp)
  rw [if_neg hs] at h ⊢
  show smW _ _ _ _ _ _ _ _ _ _ ≤ 0
  rw [Bool.not_eq_false, upto_iff] at hb
  have hbi : ∀ i : Int, 0 ≤ i → i < w.length → 0 ≤ rd w i ∧ rd w i < ar.length ∧ (rd_T48 ar (rd w i)).f1 = (rd_T48 ar (nx w i)).f0 := by
    intro i i0 i1
    have := hb i i0 (by omega)
    simp only [badW, Bool.not_eq_true', decide_eq_false_iff_not] at this
    omega
  have nxv : ∀ i : Int, 0 ≤ i → i < w.length → nx w i = if i + 1 = w.length then rd w 0 else rd w (i + 1) := by
    intro i i0 i1
    unfold nx
    by_cases e : i + 1 = w.length
    · rw [if_pos e, e, Int.tmod_self]
    · rw [if_neg e, Int.tmod_eq_of_lt (by omega) (by omega)]
  refine smW_le (T := T) (v0 := (rd_T48 ar (rd w 0)).f0) (c := fun i => if i = w.length then (rd_T48 ar (rd w 0)).f0 else (rd_T48 ar (rd w i)).f0) hii (if_pos rfl) (fun i i0 i1 => ?_) w.length 0 0 (Int.le_refl _) (by omega) ?_
  · obtain ⟨b0, b1, b2⟩ := hbi i i0 i1
    have A := F.arc _ b0 b1
    have hnext : (rd_T48 ar (rd w i)).f1 = if i + 1 = w.length then (rd_T48 ar (rd w 0)).f0 else (rd_T48 ar (rd w (i + 1))).f0 := by
      rw [b2, nxv i i0 i1]
      split <;> rfl
    refine ⟨(if_neg (by omega)).symm, hnext, D.arc _ b0 b1, fun hf => ⟨slotV_T F hii S D H A.2.2.1 hf, ?_⟩⟩
    refine slotV_T F hii S D H (F.arc _ (hbi 0 (Int.le_refl _) (by omega)).1 (hbi 0 (Int.le_refl _) (by omega)).2.1).1 ?_
    rw [← Bool.not_eq_false]
    intro hz
    refine hs ⟨?_, hz⟩
    rw [← Bool.not_eq_true, upto_iff]
    intro hall
    rw [hnext] at hf
    by_cases e : i + 1 = w.length
    · rw [if_pos e, hz] at hf; exact absurd hf (by simp)
    · rw [if_neg e] at hf
      have := hall (i + 1) (by omega) (by omega)
      unfold fixW at this
      rw [hf] at this
      exact absurd this (by simp)
  · have e : ¬ ((0 : Int) = w.length) := by omega
    (try dsimp only)
    rw [if_neg e]
    omega
/-! #### a unit occupied twice -/
def Hit (n ii : Int) (ne : List S52) (sl un : List Int) (R U C i b : Int) : Prop := 0 ≤ i ∧ i < n ∧ 0 ≤ b ∧ b < (rd_T52 ne i).f1 ∧ (rd_T52 ne i).f0 = R ∧ 0 ≤ rd sl i ∧ rd un i = U ∧ (rd sl i + b) % ii = C
structure Hits (n ii : Int) (ne : List S52) (sl un : List Int) (R U C i b c : Int) : Prop where
  c0 : 0 ≤ c
  c1 : c ≤ 100 * i + b
  one : 1 ≤ c → ∃ i1 b1, Hit n ii ne sl un R U C i1 b1 ∧ (i1 < i ∨ i1 = i ∧ b1 < b)
  two : 2 ≤ c → ∃ i1 b1 i2 b2, Hit n ii ne sl un R U C i1 b1 ∧ Hit n ii ne sl un R U C i2 b2 ∧ (i1 ≠ i2 ∨ b1 ≠ b2)
theorem Hits.next {R U C i b c i' b' : Int} (h : Hits n ii ne sl un R U C i b c) (hl : i < i' ∨ i = i' ∧ b ≤ b') (hc : 100 * i + b ≤ 100 * i' + b') : Hits n ii ne sl un R U C i' b' c :=
  ⟨h.c0, Int.le_trans h.c1 hc, fun hc => (by obtain ⟨i1, b1, h1, h2⟩ := h.one hc; exact ⟨i1, b1, h1, by omega⟩), h.two⟩
theorem Hits.hit {R U C i b c : Int} (h : Hits n ii ne sl un R U C i b c) (hh : Hit n ii ne sl un R U C i b) : Hits n ii ne sl un R U C i (b + 1) (c + 1) := by
  have a := h.c0
  refine ⟨by omega, by have := h.c1; omega, fun _ => ⟨i, b, hh, by omega⟩, fun hc => ?_⟩
  obtain ⟨i1, b1, h1, h2⟩ := h.one (by omega)
  exact ⟨i1, b1, i, b, h1, hh, by omega⟩
theorem full_ok (F : FO n p ar rs ne) (hii : 1 ≤ ii) (hi : ii ≤ 256) (S : ST n ii ne sl un) (t : S54) :
    ∃ b, Ev (fun k => refute_full.f k n p lp ar rs ne ii sl un t.f0 t.f1 t.f2 t.f3 t.f4 t.f5 t.f6) b ∧ (b = true → ∃ i1 b1 i2 b2, Hit n ii ne sl un t.f4 t.f5 t.f6 i1 b1 ∧ Hit n ii ne sl un t.f4 t.f5 t.f6 i2 b2 ∧ (i1 ≠ i2 ∨ b1 ≠ b2)) := by
  have n8 := F.n8
  have ln := F.ln
  have l1 := S.l1
  have l2 := S.l2
  have outer : ∀ (d : Nat) (i c : Int), 0 ≤ i → i + d = n → Hits n ii ne sl un t.f4 t.f5 t.f6 i 0 c → ∃ b, Ev (fun k => refute_full.l0 k ii c ne (ne.length : Int) i sl un t.f0 t.f1 t.f2 t.f3 t.f4 t.f5 t.f6) b ∧ (b = true → ∃ i1 b1 i2 b2, Hit n ii ne sl un t.f4 t.f5 t.f6 i1 b1 ∧ Hit n ii ne sl un t.f4 t.f5 t.f6 i2 b2 ∧ (i1 ≠ i2 ∨ b1 ≠ b2)) := by
    intro d
    induction d with
    | zero =>
      intro i c i0 hd hH
      refine ⟨decide (c ≥ 2), Ev.step (f := fun _ => some (decide (c ≥ 2))) (fun k => ?_) (Ev.now _), fun h => hH.two (of_decide_eq_true h)⟩
      simp only [refute_full.l0]
      rw [if_neg (by omega)]
    | succ d ih =>
      intro i c i0 hd hH
      have hn := F.need i i0 (by omega)
      have hv := S.v i i0 (by omega)
      have inner : ∀ (e : Nat) (b c : Int), 0 ≤ b → b + e = (rd_T52 ne i).f1 → 0 ≤ rd sl i → (rd_T52 ne i).f0 = t.f4 → rd un i = t.f5 → Hits n ii ne sl un t.f4 t.f5 t.f6 i b c → ∃ b', Ev (fun k => refute_full.l1 k ii c i ne (ne.length : Int) i (rd_T52 ne i).f1 b sl un t.f0 t.f1 t.f2 t.f3 t.f4 t.f5 t.f6) b' ∧ (b' = true → ∃ i1 b1 i2 b2, Hit n ii ne sl un t.f4 t.f5 t.f6 i1 b1 ∧ Hit n ii ne sl un t.f4 t.f5 t.f6 i2 b2 ∧ (i1 ≠ i2 ∨ b1 ≠ b2)) := by
        intro e
        induction e with
        | zero =>
          intro b c b0 he s0 r0 u0 hc
          obtain ⟨r, hr, hq⟩ := ih (i + 1) c (by omega) (by omega) (hc.next (.inl (by omega)) (by omega))
          refine ⟨r, Ev.step (fun k => ?_) hr, hq⟩
          simp only [refute_full.l1]
          rw [if_neg (by omega), w64 (by omega) (by omega)]
        | succ e ihe =>
          intro b c b0 he s0 r0 u0 hc
          have cb := hc.c1
          have cb0 := hc.c0
          have tm : (rd sl i + b).tmod ii = (rd sl i + b) % ii := Int.tmod_eq_emod_of_nonneg (by omega)
          have hj : ∀ k, refute_full.l1 (k + 1) ii c i ne (ne.length : Int) i (rd_T52 ne i).f1 b sl un t.f0 t.f1 t.f2 t.f3 t.f4 t.f5 t.f6 = if (rd sl i + b) % ii = t.f6 then refute_full.l1 k ii (c + 1) i ne (ne.length : Int) i (rd_T52 ne i).f1 (b + 1) sl un t.f0 t.f1 t.f2 t.f3 t.f4 t.f5 t.f6 else refute_full.l1 k ii c i ne (ne.length : Int) i (rd_T52 ne i).f1 (b + 1) sl un t.f0 t.f1 t.f2 t.f3 t.f4 t.f5 t.f6 := by
            intro k
            simp only [refute_full.l1]
            rw [if_pos (by omega), if_pos i0, if_pos (by omega), if_neg (by omega), w64 (x := rd sl i + b) (by omega) (by omega), tm, w64 (x := c + 1) (by omega) (by omega), w64 (x := b + 1) (by omega) (by omega)]
          by_cases hh : (rd sl i + b) % ii = t.f6
          · obtain ⟨r, hr, hq⟩ := ihe (b + 1) (c + 1) (by omega) (by omega) s0 r0 u0 (hc.hit ⟨i0, by omega, b0, by omega, r0, s0, u0, hh⟩)
            exact ⟨r, Ev.step (fun k => (hj k).trans (if_pos hh)) hr, hq⟩
          · obtain ⟨r, hr, hq⟩ := ihe (b + 1) c (by omega) (by omega) s0 r0 u0 (hc.next (.inr ⟨rfl, by omega⟩) (by omega))
            exact ⟨r, Ev.step (fun k => (hj k).trans (if_neg hh)) hr, hq⟩
      have hj : ∀ k, refute_full.l0 (k + 1) ii c ne (ne.length : Int) i sl un t.f0 t.f1 t.f2 t.f3 t.f4 t.f5 t.f6 = refute_full.j2 k ii c i ne (ne.length : Int) i (!decide ((rd_T52 ne i).f0 = t.f4 ∧ 0 ≤ rd sl i ∧ rd un i = t.f5)) sl un t.f0 t.f1 t.f2 t.f3 t.f4 t.f5 t.f6 (rd_T52 ne i).f0 (rd_T52 ne i).f1 := by
        intro k
        simp only [refute_full.l0]
        rw [if_pos (by omega), if_pos i0, if_pos (by omega)]
        by_cases h1 : (rd_T52 ne i).f0 = t.f4
        · rw [if_pos h1, if_pos (by omega)]
          by_cases h2 : rd sl i < 0
          · rw [if_pos h2, show (!decide ((rd_T52 ne i).f0 = t.f4 ∧ 0 ≤ rd sl i ∧ rd un i = t.f5)) = true by simp; omega]
          · rw [if_neg h2, if_pos (by omega)]
            congr 1
            rw [Bool.eq_iff_iff]
            simp [h1]
            omega
        · rw [if_neg h1, show (!decide ((rd_T52 ne i).f0 = t.f4 ∧ 0 ≤ rd sl i ∧ rd un i = t.f5)) = true by simp; omega]
      by_cases hh : (rd_T52 ne i).f0 = t.f4 ∧ 0 ≤ rd sl i ∧ rd un i = t.f5
      · obtain ⟨r, hr, hq⟩ := inner (rd_T52 ne i).f1.toNat 0 c (Int.le_refl _) (by omega) hh.2.1 hh.1 hh.2.2 hH
        refine ⟨r, Ev.step hj (Ev.step (fun k => ?_) hr), hq⟩
        simp only [refute_full.j2]
        rw [if_neg (by simp [hh])]
      · obtain ⟨r, hr, hq⟩ := ih (i + 1) c (by omega) (by omega) (hH.next (.inl (by omega)) (by omega))
        refine ⟨r, Ev.step hj (Ev.step (fun k => ?_) hr), hq⟩
        simp only [refute_full.j2]
        rw [if_pos (by simp; omega), w64 (by omega) (by omega)]
  have start : ∀ x : Bool, ∃ b, Ev (fun k => refute_full.j0 k ii x n p lp ar rs ne sl un t.f0 t.f1 t.f2 t.f3 t.f4 t.f5 t.f6) b ∧ (b = true → ∃ i1 b1 i2 b2, Hit n ii ne sl un t.f4 t.f5 t.f6 i1 b1 ∧ Hit n ii ne sl un t.f4 t.f5 t.f6 i2 b2 ∧ (i1 ≠ i2 ∨ b1 ≠ b2)) := by
    intro x
    by_cases hx : x = true
    · refine ⟨false, Ev.step (f := fun _ => some false) (fun k => ?_) (Ev.now _), fun h => absurd h (by simp)⟩
      simp only [refute_full.j0]
      rw [if_pos hx]
    · obtain ⟨r, hr, hq⟩ := outer n.toNat 0 0 (Int.le_refl _) (by have := F.n0; omega) ⟨by omega, by omega, fun h => absurd h (by omega), fun h => absurd h (by omega)⟩
      refine ⟨r, Ev.step (fun k => ?_) hr, hq⟩
      simp only [refute_full.j0]
      rw [if_neg hx]
  by_cases a1 : t.f4 < 0
  · obtain ⟨r, hr, hq⟩ := start true
    exact ⟨r, Ev.congr (fun k => by unfold refute_full.f; rw [if_pos a1]) hr, hq⟩
  by_cases a2 : t.f4 ≥ rs.length
  · obtain ⟨r, hr, hq⟩ := start true
    exact ⟨r, Ev.congr (fun k => by unfold refute_full.f; rw [if_neg a1, if_pos a2]) hr, hq⟩
  by_cases a3 : t.f6 < 0
  · obtain ⟨r, hr, hq⟩ := start true
    exact ⟨r, Ev.congr (fun k => by unfold refute_full.f; rw [if_neg a1, if_neg a2, if_pos a3]) hr, hq⟩
  · obtain ⟨r, hr, hq⟩ := start (decide (t.f6 ≥ ii))
    exact ⟨r, Ev.congr (fun k => by unfold refute_full.f; rw [if_neg a1, if_neg a2, if_neg a3]) hr, hq⟩
/-! #### contradictions -/
theorem needs_ok (F : FO n p ar rs ne) (x : Int) : refute_needs.f n p lp ar rs ne x = some (decide (0 ≤ x ∧ x < n ∧ 0 ≤ (rd_T52 ne x).f0)) := by
  have := F.ln
  unfold refute_needs.f
  by_cases a : x ≥ 0
  · by_cases b : x < n
    · rw [if_pos a, if_pos b, if_pos a, if_pos (by omega)]
      congr 1
      rw [Bool.eq_iff_iff]
      simp
      omega
    · rw [if_pos a, if_neg b]; simp; omega
  · rw [if_neg a]; simp; omega
theorem contra_ok (F : FO n p ar rs ne) (hii : 1 ≤ ii) (hi : ii ≤ 256) (S : ST n ii ne sl un) (t : S54) (hw : t.f3.length ≤ 40) :
    ∃ b, Ev (fun k => refute_contradicts.f k n p lp ar rs ne ii sl un t.f0 t.f1 t.f2 t.f3 t.f4 t.f5 t.f6) b ∧ (b = true → ∀ start unit T, MD n p ii ar rs ne start unit T → FT n ii ne start unit sl un → False) := by
  by_cases h4 : t.f0 = 4
  · by_cases hn : 0 ≤ t.f1 ∧ t.f1 < n ∧ 0 ≤ (rd_T52 ne t.f1).f0
    · refine ⟨decide ((rd_T52 ne t.f1).f1 > ii), Ev.congr (fun k => ?_) (Ev.now _), fun h start unit T D H => ?_⟩
      · unfold refute_contradicts.f
        rw [if_pos h4, needs_ok F, decide_eq_true hn]
        simp only [Option.bind_some]
        rw [if_pos trivial, if_pos hn.1, if_pos (by have := F.ln; omega)]
      · have := D.M.long t.f1 hn.1 (by omega) hn.2.2
        (try dsimp only at this)
        have := of_decide_eq_true h
        omega
    · refine ⟨false, Ev.congr (fun k => ?_) (Ev.now _), fun h => absurd h (by simp)⟩
      unfold refute_contradicts.f
      rw [if_pos h4, needs_ok F, decide_eq_false hn]
      simp only [Option.bind_some]
      rw [if_neg Bool.false_ne_true]
  by_cases h3 : t.f0 = 3
  · obtain ⟨r, hr, hq⟩ := full_ok (lp := lp) F hii hi S t
    refine ⟨r, Ev.congr (fun k => ?_) (Ev.bind hr (Ev.now r)), fun h start unit T D H => ?_⟩
    · unfold refute_contradicts.f
      rw [if_neg h4, if_pos h3]
    · obtain ⟨i1, b1, i2, b2, ⟨x0, x1, x2, x3, x4, x5, x6, x7⟩, ⟨y0, y1, y2, y3, y4, y5, y6, y7⟩, hne⟩ := hq h
      exact Fits.full D.M H x0 (by omega) y0 (by omega) x5 y5 (x4.trans y4.symm) (x6.trans y6.symm) x2 x3 y2 y3 (x7.trans y7.symm) hne
  by_cases h2 : t.f0 = 2
  · have hr := walk_ok (lp := lp) F hii hi sl t.f3 hw
    refine ⟨(walkV n p ii ar sl t.f3).2 && decide ((walkV n p ii ar sl t.f3).1 > 0), Ev.congr (fun k => ?_) (Ev.bind (f := fun _ bt => if bt.2 = true then some (decide (bt.1 > 0)) else some false) hr ?_), fun h start unit T D H => ?_⟩
    · unfold refute_contradicts.f
      rw [if_neg h4, if_neg h3, if_pos h2]
    · refine Ev.congr (fun k => ?_) (Ev.now _)
      cases (walkV n p ii ar sl t.f3).2 <;> simp
    · rw [Bool.and_eq_true, decide_eq_true_eq] at h
      have := walk_sound F hii S D H h.1
      omega
  · refine ⟨false, Ev.congr (fun k => ?_) (Ev.now _), fun h => absurd h (by simp)⟩
    unfold refute_contradicts.f
    rw [if_neg h4, if_neg h3, if_neg h2]
/-! #### the units of a split -/
theorem choices_ok (F : FO n p ar rs ne) (S : ST n ii ne sl un) {x : Int} (x0 : 0 ≤ x) (x1 : x < n) (hx : 0 ≤ (rd_T52 ne x).f0) :
    ∃ used : Int, Ev (fun k => refute_choices.f k n p lp ar rs ne sl un x) (if used + 1 < (rd_T50 rs (rd_T52 ne x).f0).f3 then used + 1 else (rd_T50 rs (rd_T52 ne x).f0).f3) ∧ 0 ≤ used ∧ used ≤ 1024 ∧
      (∀ k : Int, 0 ≤ k → k < n → 0 ≤ rd sl k → (rd_T52 ne k).f0 = (rd_T52 ne x).f0 → rd un k < used) ∧ (used = 0 ∨ ∃ k : Int, 0 ≤ k ∧ k < n ∧ 0 ≤ rd sl k ∧ (rd_T52 ne k).f0 = (rd_T52 ne x).f0 ∧ rd un k + 1 = used) := by
  have n8 := F.n8
  have ln := F.ln
  have l1 := S.l1
  have l2 := S.l2
  have hR := F.need x x0 x1
  have hC := F.res _ hx (by omega)
  have loop : ∀ (d : Nat) (i u : Int), 0 ≤ i → i + d = n → 0 ≤ u → u ≤ 1024 → (∀ k : Int, 0 ≤ k → k < i → 0 ≤ rd sl k → (rd_T52 ne k).f0 = (rd_T52 ne x).f0 → rd un k < u) → (u = 0 ∨ ∃ k : Int, 0 ≤ k ∧ k < n ∧ 0 ≤ rd sl k ∧ (rd_T52 ne k).f0 = (rd_T52 ne x).f0 ∧ rd un k + 1 = u) →
      ∃ used : Int, Ev (fun k => refute_choices.l0 k (rd_T52 ne x).f0 u ne (ne.length : Int) i n p lp ar rs ne sl un) (if used + 1 < (rd_T50 rs (rd_T52 ne x).f0).f3 then used + 1 else (rd_T50 rs (rd_T52 ne x).f0).f3) ∧ 0 ≤ used ∧ used ≤ 1024 ∧
      (∀ k : Int, 0 ≤ k → k < n → 0 ≤ rd sl k → (rd_T52 ne k).f0 = (rd_T52 ne x).f0 → rd un k < used) ∧ (used = 0 ∨ ∃ k : Int, 0 ≤ k ∧ k < n ∧ 0 ≤ rd sl k ∧ (rd_T52 ne k).f0 = (rd_T52 ne x).f0 ∧ rd un k + 1 = used) := by
    intro d
    induction d with
    | zero =>
      intro i u i0 hd u0 u1 hall hex
      refine ⟨u, Ev.step (f := fun _ => some (if u + 1 < (rd_T50 rs (rd_T52 ne x).f0).f3 then u + 1 else (rd_T50 rs (rd_T52 ne x).f0).f3)) (fun k => ?_) (Ev.now _), u0, u1, fun k k0 k1 => hall k k0 (by omega), hex⟩
      simp only [refute_choices.l0]
      rw [if_neg (by omega), if_pos hx, if_pos (by omega), w64 (by omega) (by omega)]
      rfl
    | succ d ih =>
      intro i u i0 hd u0 u1 hall hex
      have hv := S.v i i0 (by omega)
      have hj : ∀ k, refute_choices.l0 (k + 1) (rd_T52 ne x).f0 u ne (ne.length : Int) i n p lp ar rs ne sl un = refute_choices.j1 k (rd_T52 ne x).f0 u i ne (ne.length : Int) i (decide ((rd_T52 ne i).f0 = (rd_T52 ne x).f0 ∧ 0 ≤ rd sl i)) n p lp ar rs ne sl un := by
        intro k
        simp only [refute_choices.l0]
        rw [if_pos (by omega), if_pos i0, if_pos (by omega)]
        by_cases h1 : (rd_T52 ne i).f0 = (rd_T52 ne x).f0
        · rw [if_pos h1, if_pos (by omega)]; simp [h1]
        · rw [if_neg h1]; simp [h1]
      by_cases hh : (rd_T52 ne i).f0 = (rd_T52 ne x).f0 ∧ 0 ≤ rd sl i
      · have hmx : mx u (rd un i + 1) = if u < rd un i + 1 then rd un i + 1 else u := rfl
        obtain ⟨r, hr, hq⟩ := ih (i + 1) (mx u (rd un i + 1)) (by omega) (by omega) (by rw [hmx]; split <;> omega) (by rw [hmx]; split <;> omega) (fun k k0 k1 k2 k3 => (by
          by_cases e : k = i
          · rw [e, hmx]; split <;> omega
          · have := hall k k0 (by omega) k2 k3
            rw [hmx]; split <;> omega)) (by
          rw [hmx]
          by_cases e : u < rd un i + 1
          · rw [if_pos e]; exact .inr ⟨i, i0, by omega, hh.2, hh.1, rfl⟩
          · rw [if_neg e]; exact hex)
        refine ⟨r, Ev.step hj (Ev.step (fun k => ?_) hr), hq⟩
        simp only [refute_choices.j1]
        rw [if_pos (by simp [hh]), if_pos i0, if_pos (by omega), w64 (x := rd un i + 1) (by omega) (by omega), w64 (x := i + 1) (by omega) (by omega)]
      · obtain ⟨r, hr, hq⟩ := ih (i + 1) u (by omega) (by omega) u0 u1 (fun k k0 k1 k2 k3 => (by
          by_cases e : k = i
          · rw [e] at k2 k3; exact absurd ⟨k3, k2⟩ hh
          · exact hall k k0 (by omega) k2 k3)) hex
        refine ⟨r, Ev.step hj (Ev.step (fun k => ?_) hr), hq⟩
        simp only [refute_choices.j1]
        rw [if_neg (by simp; omega), w64 (x := i + 1) (by omega) (by omega)]
  obtain ⟨r, hr, hq⟩ := loop n.toNat 0 0 (Int.le_refl _) (by have := F.n0; omega) (Int.le_refl _) (by omega) (fun k k0 k1 => absurd k1 (by omega)) (.inl rfl)
  refine ⟨r, Ev.congr (fun k => ?_) hr, hq⟩
  unfold refute_choices.f
  rw [if_pos x0, if_pos (by omega)]
end

/-! ### refute.Check: trees -/
section
variable {n p : Int} {lp : Bool} {ar : List S48} {rs : List S50} {ne : List S52} {ii : Int} {sl un : List Int}
/-- What a tree must be that is looked at. -/
def TR (t : List S54) : Prop := t.length ≤ 300 ∧ ∀ i : Int, 0 ≤ i → i < t.length → (rd_T54 t i).f2.length ≤ 100 ∧ (rd_T54 t i).f3.length ≤ 40
theorem TR.of {t : List S54} (h' : FW n p ar rs ne t = true) : TR t := by
  simp only [FW, Bool.and_eq_true, decide_eq_true_eq, upto_iff] at h'
  obtain ⟨e, ⟨⟨e2, e3, f1, f2, f3, f4⟩, f5⟩, g1, g2⟩ := h'
  refine ⟨by omega, fun i i0 i1 => ?_⟩
  have := g1 i i0 (by omega)
  simp only [fwT, decide_eq_true_eq] at this
  exact this
theorem conn_ok (t : List S54) (H : TR t) : ∃ b, Ev (fun k => refute_connected.f k t) b ∧ (b = true → ∀ i j : Int, 0 ≤ i → i < t.length → 0 ≤ j → j < (rd_T54 t i).f2.length → rd (rd_T54 t i).f2 j < t.length) := by
  have ht := H.1
  have outer : ∀ (d : Nat) (i c : Int) (seen : List Bool), 0 ≤ i → i + d = t.length → seen.length = t.length → 0 ≤ c → c ≤ 100 * i →
      ∃ b, Ev (fun k => refute_connected.l0 k t seen c t (t.length : Int) i) b ∧ (b = true → ∀ i' j : Int, i ≤ i' → i' < t.length → 0 ≤ j → j < (rd_T54 t i').f2.length → rd (rd_T54 t i').f2 j < t.length) := by
    intro d
    induction d with
    | zero =>
      intro i c seen i0 hd hs c0 c1
      refine ⟨_, Ev.step (f := fun _ => some (c == (wrap64 ((t.length : Int) - 1)))) (fun k => ?_) (Ev.now _), fun _ i' j h1 h2 => absurd h2 (by omega)⟩
      simp only [refute_connected.l0]
      rw [if_neg (by omega)]
    | succ d ih =>
      intro i c seen i0 hd hs c0 c1
      have hk := (H.2 i i0 (by omega)).1
      have inner : ∀ (e : Nat) (j c : Int) (seen : List Bool), 0 ≤ j → j + e = (rd_T54 t i).f2.length → seen.length = t.length → 0 ≤ c → c ≤ 100 * i + j →
          ∃ b, Ev (fun k => refute_connected.l1 k t seen c i t (t.length : Int) i (rd_T54 t i).f2 ((rd_T54 t i).f2.length : Int) j) b ∧ (b = true → (∀ j' : Int, j ≤ j' → j' < (rd_T54 t i).f2.length → rd (rd_T54 t i).f2 j' < t.length) ∧ ∀ i' j : Int, i + 1 ≤ i' → i' < t.length → 0 ≤ j → j < (rd_T54 t i').f2.length → rd (rd_T54 t i').f2 j < t.length) := by
        intro e
        induction e with
        | zero =>
          intro j c seen j0 he hs c0 c1
          obtain ⟨b, hb, hq⟩ := ih (i + 1) c seen (by omega) (by omega) hs c0 (by omega)
          refine ⟨b, Ev.step (fun k => ?_) hb, fun h => ⟨fun j' h1 h2 => absurd h2 (by omega), hq h⟩⟩
          simp only [refute_connected.l1]
          rw [if_neg (by omega), w64 (by omega) (by omega)]
        | succ e ihe =>
          intro j c seen j0 he hs c0 c1
          have hj : ∃ x : Bool, (x = false → i < rd (rd_T54 t i).f2 j ∧ rd (rd_T54 t i).f2 j < t.length) ∧ ∀ k, refute_connected.l1 (k + 1) t seen c i t (t.length : Int) i (rd_T54 t i).f2 ((rd_T54 t i).f2.length : Int) j = refute_connected.j2 k t seen c i (rd (rd_T54 t i).f2 j) t (t.length : Int) i (rd_T54 t i).f2 ((rd_T54 t i).f2.length : Int) j x := by
            by_cases a : rd (rd_T54 t i).f2 j ≤ i
            · refine ⟨true, fun h => absurd h (by simp), fun k => ?_⟩
              simp only [refute_connected.l1]
              rw [if_pos (by omega), if_pos j0, if_pos (by omega), if_pos a]
            · by_cases b : rd (rd_T54 t i).f2 j ≥ t.length
              · refine ⟨true, fun h => absurd h (by simp), fun k => ?_⟩
                simp only [refute_connected.l1]
                rw [if_pos (by omega), if_pos j0, if_pos (by omega), if_neg a, if_pos b]
              · refine ⟨rdOf false seen (rd (rd_T54 t i).f2 j), fun _ => by omega, fun k => ?_⟩
                simp only [refute_connected.l1]
                rw [if_pos (by omega), if_pos j0, if_pos (by omega), if_neg a, if_neg b, if_pos (by omega), if_pos (by omega)]
          obtain ⟨x, hx, hj⟩ := hj
          by_cases hx1 : x = true
          · refine ⟨false, Ev.step hj (Ev.step (f := fun _ => some false) (fun k => ?_) (Ev.now _)), fun h => absurd h (by simp)⟩
            simp only [refute_connected.j2]
            rw [if_pos hx1]
          · rw [Bool.not_eq_true] at hx1
            have hx2 := hx hx1
            obtain ⟨b, hb, hq⟩ := ihe (j + 1) (c + 1) (seen.set (rd (rd_T54 t i).f2 j).toNat true) (by omega) (by omega) (by rw [List.length_set]; exact hs) (by omega) (by omega)
            refine ⟨b, Ev.step hj (Ev.step (fun k => ?_) hb), fun h => ⟨fun j' h1 h2 => ?_, (hq h).2⟩⟩
            · simp only [refute_connected.j2]
              rw [hx1, if_neg Bool.false_ne_true, if_pos (by omega), if_pos (by omega), w64 (x := c + 1) (by omega) (by omega), w64 (x := j + 1) (by omega) (by omega)]
            · by_cases ej : j' = j
              · rw [ej]; exact hx2.2
              · exact (hq h).1 j' (by omega) h2
      obtain ⟨b, hb, hq⟩ := inner (rd_T54 t i).f2.length 0 c seen (Int.le_refl _) (by omega) hs c0 (by omega)
      refine ⟨b, Ev.step (fun k => ?_) hb, fun h i' j h1 h2 h3 h4 => ?_⟩
      · simp only [refute_connected.l0]
        rw [if_pos (by omega), if_pos i0, if_pos (by omega)]
      · by_cases ei : i' = i
        · subst ei; exact (hq h).1 j h3 h4
        · exact (hq h).2 i' j (by omega) h2 h3 h4
  obtain ⟨b, hb, hq⟩ := outer t.length 0 0 (List.replicate ((t.length : Int) : Int).toNat false) (Int.le_refl _) (by omega) (by simp) (Int.le_refl _) (by omega)
  refine ⟨b, Ev.congr (fun k => ?_) hb, hq⟩
  unfold refute_connected.f
  rw [if_pos (by omega), if_pos (by omega)]
/-- A node of a tree: its answer, and what it shows. -/
def AccOk (n p : Int) (lp : Bool) (ar : List S48) (rs : List S50) (ne : List S52) (ii : Int) (t : List S54) (at_ : Int) (sl un : List Int) : Prop :=
  ∃ b, Ev (fun k => refute_accepted.f k n p lp ar rs ne ii t at_ sl un) b ∧ (b = true → ∀ start unit T, MD n p ii ar rs ne start unit T → FT n ii ne start unit sl un → False)
theorem acc_ok (F : FO n p ar rs ne) (hii : 1 ≤ ii) (hi : ii ≤ 256) (t : List S54) (H : TR t) (hc : ∀ i j : Int, 0 ≤ i → i < t.length → 0 ≤ j → j < (rd_T54 t i).f2.length → rd (rd_T54 t i).f2 j < t.length) (m : Nat) :
    ∀ (at_ : Int) (sl un : List Int), 0 ≤ at_ → at_ < t.length → t.length ≤ at_ + m → ST n ii ne sl un → AccOk n p lp ar rs ne ii t at_ sl un := by
  induction m with
  | zero => intro at_ sl un a0 a1 a2; omega
  | succ m ih =>
    intro at_ sl un a0 a1 a2 S
    have n8 := F.n8
    have ln := F.ln
    have l1 := S.l1
    have l2 := S.l2
    have hT := H.2 at_ a0 a1
    by_cases hk : (rd_T54 t at_).f0 = 1
    · by_cases hn : 0 ≤ (rd_T54 t at_).f1 ∧ (rd_T54 t at_).f1 < n ∧ 0 ≤ (rd_T52 ne (rd_T54 t at_).f1).f0
      · have hR := F.need _ hn.1 hn.2.1
        have hC := F.res _ hn.2.2 (by omega)
        by_cases hf : rd sl (rd_T54 t at_).f1 ≥ 0
        · refine ⟨false, Ev.step (f := fun k => refute_accepted.j0 k ii t at_ true n p lp ar rs ne sl un (rd_T54 t at_).f0 (rd_T54 t at_).f1 (rd_T54 t at_).f2 (rd_T54 t at_).f3 (rd_T54 t at_).f4 (rd_T54 t at_).f5 (rd_T54 t at_).f6) (fun k => ?_) (Ev.step (f := fun _ => some false) (fun k => ?_) (Ev.now _)), fun h => absurd h (by simp)⟩
          · simp only [refute_accepted.f]
            rw [if_pos a0, if_pos a1, if_pos hk, needs_ok F, decide_eq_true hn]
            simp only [Option.bind_some]
            rw [if_pos trivial, if_pos hn.1, if_pos (by omega), decide_eq_true hf]
          · simp only [refute_accepted.j0]
            rw [if_pos trivial]
        · obtain ⟨used, hu, u0, u1, hall, hex⟩ := choices_ok (p := p) (ar := ar) (rs := rs) (lp := lp) F S hn.1 hn.2.1 hn.2.2
          generalize hU : (if used + 1 < (rd_T50 rs (rd_T52 ne (rd_T54 t at_).f1).f0).f3 then used + 1 else (rd_T50 rs (rd_T52 ne (rd_T54 t at_).f1).f0).f3) = U at hu
          have U1 : 1 ≤ U := by rw [← hU]; split <;> omega
          have U2 : U ≤ 1024 := by rw [← hU]; split <;> omega
          have iU : ii * U ≤ 262144 := Int.le_trans (Int.mul_le_mul hi U2 (by omega) (by omega)) (by omega)
          have iU0 : 0 ≤ ii * U := Int.mul_nonneg (by omega) (by omega)
          have hfe : Ev (fun k => refute_accepted.f k n p lp ar rs ne ii t at_ sl un) = Ev (fun k => refute_accepted.f k n p lp ar rs ne ii t at_ sl un) := rfl
          have hstart : ∀ k, refute_accepted.f (k + 1) n p lp ar rs ne ii t at_ sl un = refute_accepted.j0 k ii t at_ false n p lp ar rs ne sl un (rd_T54 t at_).f0 (rd_T54 t at_).f1 (rd_T54 t at_).f2 (rd_T54 t at_).f3 (rd_T54 t at_).f4 (rd_T54 t at_).f5 (rd_T54 t at_).f6 := by
            intro k
            simp only [refute_accepted.f]
            rw [if_pos a0, if_pos a1, if_pos hk, needs_ok F, decide_eq_true hn]
            simp only [Option.bind_some]
            rw [if_pos trivial, if_pos hn.1, if_pos (by omega), decide_eq_false hf]
          by_cases hlen : ((rd_T54 t at_).f2.length : Int) = ii * U
          · have loop : ∀ (d : Nat) (j : Int), 0 ≤ j → j + d = (rd_T54 t at_).f2.length →
                ∃ b, Ev (fun k => refute_accepted.l0 k ii t at_ U (rd_T54 t at_).f2 ((rd_T54 t at_).f2.length : Int) j n p lp ar rs ne sl un (rd_T54 t at_).f0 (rd_T54 t at_).f1 (rd_T54 t at_).f2 (rd_T54 t at_).f3 (rd_T54 t at_).f4 (rd_T54 t at_).f5 (rd_T54 t at_).f6) b ∧ (b = true → ∀ j' : Int, j ≤ j' → j' < (rd_T54 t at_).f2.length → ∀ start unit T, MD n p ii ar rs ne start unit T → FT n ii ne start unit (sl.set (rd_T54 t at_).f1.toNat (j' / U)) (un.set (rd_T54 t at_).f1.toNat (j' % U)) → False) := by
              intro d
              induction d with
              | zero =>
                intro j j0 hd
                refine ⟨true, Ev.step (f := fun _ => some true) (fun k => ?_) (Ev.now _), fun _ j' h1 h2 => absurd h2 (by omega)⟩
                simp only [refute_accepted.l0]
                rw [if_neg (by omega)]
              | succ d ihd =>
                intro j j0 hd
                by_cases hkid : rd (rd_T54 t at_).f2 j ≤ at_
                · refine ⟨false, Ev.step (f := fun k => refute_accepted.j2 k ii t at_ U (rd_T54 t at_).f2 ((rd_T54 t at_).f2.length : Int) j true n p lp ar rs ne sl un (rd_T54 t at_).f0 (rd_T54 t at_).f1 (rd_T54 t at_).f2 (rd_T54 t at_).f3 (rd_T54 t at_).f4 (rd_T54 t at_).f5 (rd_T54 t at_).f6) (fun k => ?_) (Ev.step (f := fun _ => some false) (fun k => ?_) (Ev.now _)), fun h => absurd h (by simp)⟩
                  · simp only [refute_accepted.l0]
                    rw [if_pos (by omega), if_pos j0, if_pos (by omega), if_pos hkid]
                  · simp only [refute_accepted.j2]
                    rw [if_pos trivial]
                · have hkl := hc at_ j a0 a1 j0 (by omega)
                  have q0 : 0 ≤ j / U := Int.ediv_nonneg j0 (by omega)
                  have q1 : j / U < ii := Int.ediv_lt_of_lt_mul (by omega) (by omega)
                  have q2 : 0 ≤ j % U := Int.emod_nonneg _ (by omega)
                  have q3 : j % U < U := Int.emod_lt_of_pos _ (by omega)
                  have S' : ST n ii ne (sl.set (rd_T54 t at_).f1.toNat (j / U)) (un.set (rd_T54 t at_).f1.toNat (j % U)) := by
                    refine ⟨by rw [List.length_set]; exact l1, by rw [List.length_set]; exact l2, fun i i0 i1 => ?_⟩
                    rw [rd_set _ _ hn.1 (by omega) _ _ i0, rd_set _ _ hn.1 (by omega) _ _ i0]
                    by_cases e : i = (rd_T54 t at_).f1
                    · rw [if_pos e, if_pos e, e]; right; omega
                    · rw [if_neg e, if_neg e]; exact S.v i i0 i1
                  obtain ⟨b, hb, hq⟩ := ih (rd (rd_T54 t at_).f2 j) _ _ (by omega) hkl (by omega) S'
                  have hl0 : ∀ k, refute_accepted.l0 (k + 1) ii t at_ U (rd_T54 t at_).f2 ((rd_T54 t at_).f2.length : Int) j n p lp ar rs ne sl un (rd_T54 t at_).f0 (rd_T54 t at_).f1 (rd_T54 t at_).f2 (rd_T54 t at_).f3 (rd_T54 t at_).f4 (rd_T54 t at_).f5 (rd_T54 t at_).f6 = (refute_accepted.f k n p lp ar rs ne ii t (rd (rd_T54 t at_).f2 j) (sl.set (rd_T54 t at_).f1.toNat (j / U)) (un.set (rd_T54 t at_).f1.toNat (j % U))).bind fun t204 => refute_accepted.j2 k ii t at_ U (rd_T54 t at_).f2 ((rd_T54 t at_).f2.length : Int) j (!t204) n p lp ar rs ne sl un (rd_T54 t at_).f0 (rd_T54 t at_).f1 (rd_T54 t at_).f2 (rd_T54 t at_).f3 (rd_T54 t at_).f4 (rd_T54 t at_).f5 (rd_T54 t at_).f6 := by
                    intro k
                    simp only [refute_accepted.l0]
                    rw [if_pos (by omega), if_pos j0, if_pos (by omega), if_neg hkid, if_neg (by omega), Int.tdiv_eq_ediv_of_nonneg j0, Int.tmod_eq_emod_of_nonneg j0, w64 (x := j / U) (by omega) (by omega), show refute_state_with.f sl un (rd_T54 t at_).f1 (j / U) (j % U) = some (sl.set (rd_T54 t at_).f1.toNat (j / U), un.set (rd_T54 t at_).f1.toNat (j % U)) from if_pos ⟨by omega, by omega, hn.1, by omega, by omega⟩]
                    rfl
                  by_cases hb1 : b = true
                  · obtain ⟨b', hb', hq'⟩ := ihd (j + 1) (by omega) (by omega)
                    refine ⟨b', Ev.step hl0 (Ev.bind hb (Ev.step (fun k => ?_) hb')), fun h j' h1 h2 => ?_⟩
                    · rw [hb1]
                      simp only [refute_accepted.j2]
                      rw [if_neg (by simp), w64 (x := j + 1) (by omega) (by omega)]
                    · by_cases e : j' = j
                      · rw [e]; exact hq hb1
                      · exact hq' h j' (by omega) h2
                  · rw [Bool.not_eq_true] at hb1
                    refine ⟨false, Ev.step hl0 (Ev.bind hb (Ev.step (f := fun _ => some false) (fun k => ?_) (Ev.now _))), fun h => absurd h (by simp)⟩
                    rw [hb1]
                    simp only [refute_accepted.j2]
                    rw [if_pos (by simp)]
            obtain ⟨b, hb, hq⟩ := loop (rd_T54 t at_).f2.length 0 (Int.le_refl _) (by omega)
            refine ⟨b, Ev.step hstart (Ev.step (f := fun k => (refute_choices.f k n p lp ar rs ne sl un (rd_T54 t at_).f1).bind fun t196 => (if ((rd_T54 t at_).f2.length : Int) = (wrap64 (ii * t196)) then (refute_accepted.l0 k ii t at_ t196 (rd_T54 t at_).f2 ((rd_T54 t at_).f2.length : Int) 0 n p lp ar rs ne sl un (rd_T54 t at_).f0 (rd_T54 t at_).f1 (rd_T54 t at_).f2 (rd_T54 t at_).f3 (rd_T54 t at_).f4 (rd_T54 t at_).f5 (rd_T54 t at_).f6) else (some false))) (fun k => ?_) (Ev.bind hu (Ev.congr (fun k => if_pos ?_) hb))), fun h start unit T D Hs => ?_⟩
            · simp only [refute_accepted.j0]
              rw [if_neg Bool.false_ne_true]
            · rw [w64 (by omega) (by omega)]; exact hlen
            · obtain ⟨w, w0, w1, Fs⟩ := Fits.split D.M Hs hn.1 (by omega) hn.2.2 (by omega) u0 (fun k k0 k1 => hall k k0 (by omega)) (by
                rcases hex with h | ⟨k, k0, k1, k2, k3, k4⟩
                · exact .inl h
                · exact .inr ⟨k, k0, by omega, k2, k3, k4⟩)
              have w1' : w < U := by rw [← hU]; exact w1
              have s0 := Int.emod_nonneg (start (rd_T54 t at_).f1) (show ii ≠ 0 by omega)
              have s1 := Int.emod_lt_of_pos (start (rd_T54 t at_).f1) (show 0 < ii by omega)
              generalize hs : start (rd_T54 t at_).f1 % ii = s at Fs s0 s1
              have jn : 0 ≤ s * U := Int.mul_nonneg s0 (by omega)
              have jl : s * U + w < ii * U := by
                have : (s + 1) * U ≤ ii * U := Int.mul_le_mul_of_nonneg_right (by omega) (by omega)
                rw [Int.add_mul, Int.one_mul] at this
                omega
              have jd : (s * U + w) / U = s := by rw [Int.add_comm, Int.add_mul_ediv_right _ _ (by omega), Int.ediv_eq_zero_of_lt w0 w1']; omega
              have jm : (s * U + w) % U = w := by rw [Int.add_comm, Int.add_mul_emod_self_right, Int.emod_eq_of_lt w0 w1']
              refine hq h (s * U + w) (by omega) (by omega) start unit T D ?_
              rw [jd, jm]
              refine Fs.congr (fun i i0 i1 => ?_)
              (try dsimp only)
              rw [rd_set _ _ hn.1 (by omega) _ _ i0, rd_set _ _ hn.1 (by omega) _ _ i0]
              exact ⟨rfl, rfl⟩
          · refine ⟨false, Ev.step hstart (Ev.step (f := fun k => (refute_choices.f k n p lp ar rs ne sl un (rd_T54 t at_).f1).bind fun t196 => (if ((rd_T54 t at_).f2.length : Int) = (wrap64 (ii * t196)) then (refute_accepted.l0 k ii t at_ t196 (rd_T54 t at_).f2 ((rd_T54 t at_).f2.length : Int) 0 n p lp ar rs ne sl un (rd_T54 t at_).f0 (rd_T54 t at_).f1 (rd_T54 t at_).f2 (rd_T54 t at_).f3 (rd_T54 t at_).f4 (rd_T54 t at_).f5 (rd_T54 t at_).f6) else (some false))) (fun k => ?_) (Ev.bind hu (Ev.congr (fun k => if_neg ?_) (Ev.now _)))), fun h => absurd h (by simp)⟩
            · simp only [refute_accepted.j0]
              rw [if_neg Bool.false_ne_true]
            · rw [w64 (by omega) (by omega)]; exact hlen
      · refine ⟨false, Ev.step (f := fun k => refute_accepted.j0 k ii t at_ true n p lp ar rs ne sl un (rd_T54 t at_).f0 (rd_T54 t at_).f1 (rd_T54 t at_).f2 (rd_T54 t at_).f3 (rd_T54 t at_).f4 (rd_T54 t at_).f5 (rd_T54 t at_).f6) (fun k => ?_) (Ev.step (f := fun _ => some false) (fun k => ?_) (Ev.now _)), fun h => absurd h (by simp)⟩
        · simp only [refute_accepted.f]
          rw [if_pos a0, if_pos a1, if_pos hk, needs_ok F, decide_eq_false hn]
          simp only [Option.bind_some]
          rw [if_neg Bool.false_ne_true]
        · simp only [refute_accepted.j0]
          rw [if_pos trivial]
    · by_cases hz : ((rd_T54 t at_).f2.length : Int) = 0
      · obtain ⟨b, hb, hq⟩ := contra_ok (lp := lp) F hii hi S (rd_T54 t at_) hT.2
        refine ⟨b, Ev.step (fun k => ?_) (Ev.bind hb (Ev.now b)), hq⟩
        simp only [refute_accepted.f]
        rw [if_pos a0, if_pos a1, if_neg hk, if_pos hz]
      · refine ⟨false, Ev.step (f := fun _ => some false) (fun k => ?_) (Ev.now _), fun h => absurd h (by simp)⟩
        simp only [refute_accepted.f]
        rw [if_pos a0, if_pos a1, if_neg hk, if_neg hz]
theorem loop_ok {t : List S54} (h' : FW n p ar rs ne t = true) (ii : Int) : Ev (fun k => refute_loop.f k n p lp ar rs ne ii) (VF n p lp ar rs ne && (lp && decide (1 ≤ ii ∧ ii ≤ 256))) := by
  simp only [FW, Bool.and_eq_true, decide_eq_true_eq, upto_iff] at h'
  obtain ⟨e, ⟨⟨e2, e3, f1, f2, f3, f4⟩, f5⟩, g1, g2⟩ := h'
  refine Ev.congr (f := fun k => (dataflow_Valid.f k n p lp ar rs ne).bind fun t132 => (if t132 = true then (if lp = true then (if ii ≥ 1 then (some (decide (ii ≤ 256))) else (some false)) else (some false)) else (some false))) (fun k => rfl) (Ev.bind (prog_valid (by omega) (by omega) (by omega)) ?_)
  refine Ev.congr (fun k => ?_) (Ev.now _)
  cases VF n p lp ar rs ne
  · simp
  · cases lp
    · simp
    · by_cases a : ii ≥ 1
      · simp [a]
      · simp [a]
theorem check_ok (t : List S54) (h' : FW n p ar rs ne t = true) (ii : Int) :
    ∃ b, Ev (fun k => refute_Check.f k n p lp ar rs ne ii t) b ∧ (b = true → VF n p lp ar rs ne = true ∧ FO n p ar rs ne ∧ lp = true ∧ 1 ≤ ii ∧ ii ≤ 256 ∧ ∀ start unit T, MD n p ii ar rs ne start unit T → False) := by
  have H := TR.of h'
  have hl := loop_ok (lp := lp) h' ii
  have un : ∀ k, refute_Check.f k n p lp ar rs ne ii t = (refute_loop.f k n p lp ar rs ne ii).bind fun t208 => (if t208 = true then (if (t.length : Int) ≥ 1 then (if (t.length : Int) ≤ 65536 then ((refute_connected.f k t).bind fun t209 => (if t209 = true then ((refute_none.f n p lp ar rs ne).bind fun bt210 => ((refute_accepted.f k n p lp ar rs ne ii t 0 bt210.1 bt210.2).bind fun t216 => (some t216))) else (some false))) else (some false)) else (some false)) else (some false)) := fun k => rfl
  by_cases hv : (VF n p lp ar rs ne && (lp && decide (1 ≤ ii ∧ ii ≤ 256))) = true
  · rw [hv] at hl
    simp only [Bool.and_eq_true, decide_eq_true_eq] at hv
    obtain ⟨hV, hlp, hii, hi⟩ := hv
    have F := FO.of hV h'
    by_cases h1 : (t.length : Int) ≥ 1
    · obtain ⟨c, hc, hcq⟩ := conn_ok t H
      by_cases hc1 : c = true
      · have rep : slices_Repeat_int_int.f [-1] n = some (List.replicate n.toNat (-1)) := if_pos ⟨rfl, F.n0, by have := F.n8; omega⟩
        have rdr : ∀ i : Int, 0 ≤ i → i < n → rd (List.replicate n.toNat (-1)) i = -1 := fun i i0 i1 => by
          unfold rd
          rw [List.getD_eq_getElem?_getD, List.getElem?_replicate, if_pos (by omega)]
          rfl
        have S : ST n ii ne (List.replicate n.toNat (-1)) (List.replicate n.toNat (-1)) := ⟨by rw [List.length_replicate]; have := F.n0; omega, by rw [List.length_replicate]; have := F.n0; omega, fun i i0 i1 => .inl (rdr i i0 i1)⟩
        obtain ⟨b, hb, hq⟩ := acc_ok (lp := lp) F hii hi t H (hcq hc1) t.length 0 _ _ (Int.le_refl _) (by omega) (by omega) S
        refine ⟨b, Ev.congr un (Ev.bind hl (Ev.congr (f := fun k => (refute_connected.f k t).bind fun t209 => (if t209 = true then ((refute_accepted.f k n p lp ar rs ne ii t 0 (List.replicate n.toNat (-1)) (List.replicate n.toNat (-1))).bind fun t216 => (some t216)) else (some false))) (fun k => ?_) (Ev.bind hc (Ev.congr (fun k => if_pos hc1) (Ev.bind hb (Ev.now b)))))), fun h => ⟨hV, F, hlp, hii, hi, fun start unit T D => hq h start unit T D ?_⟩⟩
        · rw [if_pos rfl, if_pos h1, if_pos (by have := H.1; omega)]
          unfold refute_none.f
          rw [rep]
          rfl
        · exact Fits.none (fun i i0 i1 => by
            (try dsimp only)
            rw [rdr i i0 (by have := F.n0; omega)]
            omega)
      · refine ⟨false, Ev.congr un (Ev.bind hl (Ev.congr (f := fun k => (refute_connected.f k t).bind fun t209 => (if t209 = true then ((refute_none.f n p lp ar rs ne).bind fun bt210 => ((refute_accepted.f k n p lp ar rs ne ii t 0 bt210.1 bt210.2).bind fun t216 => (some t216))) else (some false))) (fun k => ?_) (Ev.bind hc (Ev.congr (fun k => if_neg hc1) (Ev.now _))))), fun h => absurd h (by simp)⟩
        rw [if_pos rfl, if_pos h1, if_pos (by have := H.1; omega)]
    · refine ⟨false, Ev.congr un (Ev.bind hl (Ev.congr (fun k => ?_) (Ev.now _))), fun h => absurd h (by simp)⟩
      rw [if_pos rfl, if_neg h1]
  · rw [Bool.not_eq_true] at hv
    rw [hv] at hl
    refine ⟨false, Ev.congr un (Ev.bind hl (Ev.congr (fun k => ?_) (Ev.now _))), fun h => absurd h (by simp)⟩
    rw [if_neg Bool.false_ne_true]
end

end Go.Proofs.Ytpmlbbglekaidaa.Pure
