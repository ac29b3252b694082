/- Legal schedules. -/
import Derived.Test.YtpmlbbglekaidaaPureG
import Derived.Test.YtpmlbbglekaidaaPureB
import Derived.Test.YtpmlbbglekaidaaF11
namespace Go.Proofs.Ytpmlbbglekaidaa.Pure
open Go.RowKit Go.Proofs.Ytpmlbbglekaidaa.PAll Go.Proofs.YtpmlbbglekaidaaW.PrintWords Go.Proofs.YtpmlbbglekaidaaW.PrintLast
set_option linter.unusedVariables false
set_option linter.unusedSimpArgs false

/-! ### legal schedules -/
section
variable {n p : Int} {lp : Bool} {ar : List S48} {rs : List S50} {ne : List S52} {ii de : Int} {st pa un : List Int}
/-- A schedule that fits. -/
structure FI (n p : Int) (rs : List S50) (ne : List S52) (ii de : Int) (st pa un : List Int) : Prop where
  l1 : (st.length : Int) = n
  l2 : (un.length : Int) = n
  l3 : (pa.length : Int) = p
  i0 : 0 ≤ ii
  i1 : ii ≤ 256
  d0 : 1 ≤ de
  d1 : de ≤ 4096
  s : ∀ i : Int, 0 ≤ i → i < n → 0 ≤ rd st i ∧ rd st i ≤ 4096
  u : ∀ i : Int, 0 ≤ i → i < n → 0 ≤ (rd_T52 ne i).f0 → 0 ≤ rd un i ∧ rd un i < (rd_T50 rs (rd_T52 ne i).f0).f3
  p : ∀ i : Int, 0 ≤ i → i < p → 0 ≤ rd pa i ∧ rd pa i ≤ 4096
theorem fits_params (l3 : (pa.length : Int) = p) (hp : p ≤ 4) (d : Nat) : ∀ i : Int, 0 ≤ i → i + d = p → ∃ b, Ev (fun k => jacquardref28_Fits.l1 k (pa.length : Int) i ii de st pa un) b ∧ (b = true → ∀ j : Int, i ≤ j → j < p → 0 ≤ rd pa j ∧ rd pa j ≤ 4096) := by
  induction d with
  | zero =>
    intro i i0 hd
    refine ⟨true, Ev.step (f := fun _ => some true) (fun k => ?_) (Ev.now _), fun _ j h1 h2 => absurd h2 (by omega)⟩
    simp only [jacquardref28_Fits.l1]
    rw [if_neg (by omega)]
  | succ d ih =>
    intro i i0 hd
    have hj : ∀ k, jacquardref28_Fits.l1 (k + 1) (pa.length : Int) i ii de st pa un = jacquardref28_Fits.j4 k (pa.length : Int) i (!decide (0 ≤ rd pa i ∧ rd pa i ≤ 4096)) ii de st pa un := by
      intro k
      simp only [jacquardref28_Fits.l1]
      rw [if_pos (by omega), if_pos i0, if_pos (by omega)]
      repeat' split
      all_goals (congr 1; rw [Bool.eq_iff_iff]; simp <;> omega)
    by_cases ha : 0 ≤ rd pa i ∧ rd pa i ≤ 4096
    · obtain ⟨b, hb, hq⟩ := ih (i + 1) (by omega) (by omega)
      refine ⟨b, Ev.step hj (Ev.step (fun k => ?_) hb), fun h j h1 h2 => ?_⟩
      · simp only [jacquardref28_Fits.j4]
        rw [if_neg (by simp [ha]), w64 (by omega) (by omega)]
      · by_cases e : j = i
        · rw [e]; exact ha
        · exact hq h j (by omega) h2
    · refine ⟨false, Ev.step hj (Ev.step (f := fun _ => some false) (fun k => ?_) (Ev.now _)), fun h => absurd h (by simp)⟩
      simp only [jacquardref28_Fits.j4]
      rw [if_pos (by simp; omega)]
def startOk (rs : List S50) (x : S52) (s u : Int) : Bool := decide (0 ≤ s ∧ s ≤ 4096 ∧ (x.f0 < 0 → u = -1) ∧ (0 ≤ x.f0 → 0 ≤ u ∧ u < (rd_T50 rs x.f0).f3))
theorem fits_starts (F : FO n p ar rs ne) (l1 : (st.length : Int) = n) (l2 : (un.length : Int) = n) (l3 : (pa.length : Int) = p) (d : Nat) : ∀ i : Int, 0 ≤ i → i + d = n → ∃ b, Ev (fun k => jacquardref28_Fits.l0 k (st.length : Int) i n p lp ar rs ne ii de st pa un) b ∧ (b = true → (∀ j : Int, i ≤ j → j < n → startOk rs (rd_T52 ne j) (rd st j) (rd un j) = true) ∧ ∀ j : Int, 0 ≤ j → j < p → 0 ≤ rd pa j ∧ rd pa j ≤ 4096) := by
  have n8 := F.n8
  have ln := F.ln
  induction d with
  | zero =>
    intro i i0 hd
    obtain ⟨b, hb, hq⟩ := fits_params (ii := ii) (de := de) (st := st) (un := un) l3 F.p4 p.toNat 0 (Int.le_refl _) (by have := F.p0; omega)
    refine ⟨b, Ev.step (fun k => ?_) hb, fun h => ⟨fun j h1 h2 => absurd h2 (by omega), hq h⟩⟩
    simp only [jacquardref28_Fits.l0]
    rw [if_neg (by omega)]
  | succ d ih =>
    intro i i0 hd
    have hn := F.need i i0 (by omega)
    have hj : ∀ k, jacquardref28_Fits.l0 (k + 1) (st.length : Int) i n p lp ar rs ne ii de st pa un = jacquardref28_Fits.j2 k (st.length : Int) i (!startOk rs (rd_T52 ne i) (rd st i) (rd un i)) n p lp ar rs ne ii de st pa un := by
      intro k
      simp only [jacquardref28_Fits.l0]
      rw [if_pos (by omega), if_pos i0, if_pos (by omega), if_pos (by omega)]
      unfold startOk
      repeat' split
      all_goals first | omega | (congr 1; rw [Bool.eq_iff_iff]; simp <;> omega)
    by_cases ha : startOk rs (rd_T52 ne i) (rd st i) (rd un i) = true
    · obtain ⟨b, hb, hq⟩ := ih (i + 1) (by omega) (by omega)
      refine ⟨b, Ev.step hj (Ev.step (fun k => ?_) hb), fun h => ⟨fun j h1 h2 => ?_, (hq h).2⟩⟩
      · simp only [jacquardref28_Fits.j2]
        rw [if_neg (by simp [ha]), w64 (by omega) (by omega)]
      · by_cases e : j = i
        · rw [e]; exact ha
        · exact (hq h).1 j (by omega) h2
    · refine ⟨false, Ev.step hj (Ev.step (f := fun _ => some false) (fun k => ?_) (Ev.now _)), fun h => absurd h (by simp)⟩
      simp only [jacquardref28_Fits.j2]
      rw [if_pos (by simpa using ha)]
theorem fits_ok (F : FO n p ar rs ne) : ∃ b, Ev (fun k => jacquardref28_Fits.f k n p lp ar rs ne ii de st pa un) b ∧ (b = true → FI n p rs ne ii de st pa un ∧ (lp = true → 1 ≤ ii)) := by
  have hf : Ev (fun k => jacquardref28_Fits.j0 k true n p lp ar rs ne ii de st pa un) false := Ev.step (f := fun _ => some false) (fun k => by simp only [jacquardref28_Fits.j0]; rw [if_pos trivial]) (Ev.now _)
  by_cases l1 : (st.length : Int) = n
  case neg => exact ⟨false, Ev.congr (fun k => by unfold jacquardref28_Fits.f; rw [if_neg l1]) hf, fun h => absurd h (by simp)⟩
  by_cases l2 : (un.length : Int) = n
  case neg => exact ⟨false, Ev.congr (fun k => by unfold jacquardref28_Fits.f; rw [if_pos l1, if_neg l2]) hf, fun h => absurd h (by simp)⟩
  by_cases l3 : (pa.length : Int) = p
  case neg => exact ⟨false, Ev.congr (fun k => by unfold jacquardref28_Fits.f; rw [if_pos l1, if_pos l2, if_neg l3]) hf, fun h => absurd h (by simp)⟩
  by_cases a1 : ii < 0
  · exact ⟨false, Ev.congr (fun k => by unfold jacquardref28_Fits.f; rw [if_pos l1, if_pos l2, if_pos l3, if_pos a1]) hf, fun h => absurd h (by simp)⟩
  by_cases a2 : ii > 256
  · exact ⟨false, Ev.congr (fun k => by unfold jacquardref28_Fits.f; rw [if_pos l1, if_pos l2, if_pos l3, if_neg a1, if_pos a2]) hf, fun h => absurd h (by simp)⟩
  by_cases a3 : ((decide (ii > 0)) != lp) = true
  · exact ⟨false, Ev.congr (fun k => by unfold jacquardref28_Fits.f; rw [if_pos l1, if_pos l2, if_pos l3, if_neg a1, if_neg a2, if_pos a3]) hf, fun h => absurd h (by simp)⟩
  by_cases a4 : de < 1
  · exact ⟨false, Ev.congr (fun k => by unfold jacquardref28_Fits.f; rw [if_pos l1, if_pos l2, if_pos l3, if_neg a1, if_neg a2, if_neg a3, if_pos a4]) hf, fun h => absurd h (by simp)⟩
  have un_ : ∀ k, jacquardref28_Fits.f k n p lp ar rs ne ii de st pa un = jacquardref28_Fits.j0 k (decide (de > 4096)) n p lp ar rs ne ii de st pa un := fun k => by unfold jacquardref28_Fits.f; rw [if_pos l1, if_pos l2, if_pos l3, if_neg a1, if_neg a2, if_neg a3, if_neg a4]
  by_cases a5 : de > 4096
  · exact ⟨false, Ev.congr (fun k => by rw [un_, decide_eq_true a5]) hf, fun h => absurd h (by simp)⟩
  · obtain ⟨b, hb, hq⟩ := fits_starts (lp := lp) (ii := ii) (de := de) F l1 l2 l3 n.toNat 0 (Int.le_refl _) (by have := F.n0; omega)
    refine ⟨b, Ev.congr un_ (Ev.step (fun k => ?_) hb), fun h => ⟨⟨l1, l2, l3, by omega, by omega, by omega, by omega, fun i i0 i1 => ?_, fun i i0 i1 hx => ?_, (hq h).2⟩, fun hl => ?_⟩⟩
    · simp only [jacquardref28_Fits.j0]
      rw [if_neg (by simp; omega)]
    · have := (hq h).1 i i0 i1
      simp only [startOk, decide_eq_true_eq] at this
      exact ⟨this.1, this.2.1⟩
    · have := (hq h).1 i i0 i1
      simp only [startOk, decide_eq_true_eq] at this
      exact this.2.2.2 hx
    · rw [hl] at a3
      by_cases e : ii > 0
      · omega
      · rw [decide_eq_false e] at a3; exact absurd a3 (by simp)
def timeV (n p de : Int) (st pa : List Int) (v : Int) : Int := if v < n then rd st v else if v < n + p then rd pa (v - n) else if v = n + p then 0 else de
theorem time_ok (F : FO n p ar rs ne) (S : FI n p rs ne ii de st pa un) {v : Int} (v0 : 0 ≤ v) : jacquardref28_Time.f n p lp ar rs ne ii de st pa un v = some (timeV n p de st pa v) := by
  have := F.n0; have := F.n8; have := F.p0; have := F.p4; have := S.l1; have := S.l3
  unfold jacquardref28_Time.f timeV
  by_cases a : v < n
  · rw [if_pos a, if_pos v0, if_pos (by omega), if_pos a]
  rw [if_neg a, if_neg a, F.rsrc]
  simp only [Option.bind_some]
  by_cases b : v < n + p
  · rw [if_pos b, if_pos b, w64 (by omega) (by omega), if_pos (by omega), if_pos (by omega)]
  rw [if_neg b, if_neg b]
  by_cases c : v = n + p
  · rw [if_pos c, if_pos c]
  · rw [if_neg c, if_neg c]
theorem timeB (F : FO n p ar rs ne) (S : FI n p rs ne ii de st pa un) {v : Int} (v0 : 0 ≤ v) : 0 ≤ timeV n p de st pa v ∧ timeV n p de st pa v ≤ 4096 := by
  unfold timeV
  by_cases a : v < n
  · rw [if_pos a]; exact S.s v v0 a
  rw [if_neg a]
  by_cases b : v < n + p
  · rw [if_pos b]; exact S.p (v - n) (by omega) (by omega)
  rw [if_neg b]
  by_cases c : v = n + p
  · rw [if_pos c]; omega
  · rw [if_neg c]; have := S.d0; have := S.d1; omega
theorem late_ok (F : FO n p ar rs ne) (S : FI n p rs ne ii de st pa un) (i1 : 1 ≤ ii) : ∃ l, Ev (fun k => jacquardref28_Late.f k n p lp ar rs ne ii de st pa un) l ∧ (l.length = 0 → ∀ j : Int, 0 ≤ j → j < ar.length → (rd_T48 ar j).f2 - ii * (rd_T48 ar j).f3 ≤ timeV n p de st pa (rd_T48 ar j).f1 - timeV n p de st pa (rd_T48 ar j).f0) := by
  have la := F.la
  have loop : ∀ (d : Nat) (i : Int) (l : List Int), 0 ≤ i → i + d = ar.length → (l.length : Int) ≤ i → ∃ l', Ev (fun k => jacquardref28_Late.l0 k l (ar.length : Int) i n p lp ar rs ne ii de st pa un) l' ∧ l.length ≤ l'.length ∧ (l'.length = 0 → ∀ j : Int, i ≤ j → j < ar.length → (rd_T48 ar j).f2 - ii * (rd_T48 ar j).f3 ≤ timeV n p de st pa (rd_T48 ar j).f1 - timeV n p de st pa (rd_T48 ar j).f0) := by
    intro d
    induction d with
    | zero =>
      intro i l i0 hd hl
      refine ⟨l, Ev.step (f := fun _ => some l) (fun k => ?_) (Ev.now _), Nat.le_refl _, fun _ j h1 h2 => absurd h2 (by omega)⟩
      simp only [jacquardref28_Late.l0]
      rw [if_neg (by omega)]
    | succ d ih =>
      intro i l i0 hd hl
      have A := F.arc i i0 (by omega)
      have t1 := timeB F S A.2.2.1
      have t0 := timeB F S A.1
      have hj : ∀ k, jacquardref28_Late.l0 (k + 1) l (ar.length : Int) i n p lp ar rs ne ii de st pa un = if timeV n p de st pa (rd_T48 ar i).f1 - timeV n p de st pa (rd_T48 ar i).f0 < (rd_T48 ar i).f2 - ii * (rd_T48 ar i).f3 then jacquardref28_Late.l0 k (l ++ [i]) (ar.length : Int) (i + 1) n p lp ar rs ne ii de st pa un else jacquardref28_Late.l0 k l (ar.length : Int) (i + 1) n p lp ar rs ne ii de st pa un := by
        intro k
        simp only [jacquardref28_Late.l0]
        rw [if_pos (by omega), if_pos i0, if_pos (by omega), time_ok F S A.2.2.1, time_ok F S A.1, weight_ok F i1 S.i1 i0 (by omega)]
        simp only [Option.bind_some]
        rw [w64 (by omega) (by omega), w64 (x := i + 1) (by omega) (by omega), if_pos (show l.length < 17592186044416 by omega)]
      by_cases hh : timeV n p de st pa (rd_T48 ar i).f1 - timeV n p de st pa (rd_T48 ar i).f0 < (rd_T48 ar i).f2 - ii * (rd_T48 ar i).f3
      · obtain ⟨l', hl', hq1, hq⟩ := ih (i + 1) (l ++ [i]) (by omega) (by omega) (by rw [List.length_append, List.length_singleton]; omega)
        rw [List.length_append, List.length_singleton] at hq1
        exact ⟨l', Ev.step (fun k => (hj k).trans (if_pos hh)) hl', by omega, fun h => absurd h (by omega)⟩
      · obtain ⟨l', hl', hq1, hq⟩ := ih (i + 1) l (by omega) (by omega) (by omega)
        refine ⟨l', Ev.step (fun k => (hj k).trans (if_neg hh)) hl', hq1, fun h j h1 h2 => ?_⟩
        by_cases e : j = i
        · rw [e]; omega
        · exact hq h j (by omega) h2
  obtain ⟨l, hl, _, hq⟩ := loop ar.length 0 [] (Int.le_refl _) (by omega) (by simp)
  exact ⟨l, hl, hq⟩
def occ (ne : List S52) (ii : Int) (st : List Int) (i c : Int) : Bool := decide ((c - rd st i) % ii < (rd_T52 ne i).f1)
theorem occ_ok (F : FO n p ar rs ne) (S : FI n p rs ne ii de st pa un) (hi : 1 ≤ ii) {i c : Int} (i0 : 0 ≤ i) (i1 : i < n) (c0 : 0 ≤ c) (c1 : c < ii) : jacquardref28_Occupies.f n p lp ar rs ne ii de st pa un i c = some (occ ne ii st i c) := by
  have := S.l1; have := F.ln; have := S.i1
  have hs := S.s i i0 i1
  have tb := tmodB (x := c - rd st i) hi
  have te : (c - rd st i) % ii = if (c - rd st i).tmod ii < 0 then (c - rd st i).tmod ii + ii else (c - rd st i).tmod ii := by
    have e : (c - rd st i) % ii = ((c - rd st i).tmod ii + ii).tmod ii := (tmod2 (by omega) _).symm
    rw [e]
    by_cases h : (c - rd st i).tmod ii < 0
    · rw [if_pos h, Int.tmod_eq_of_lt (by omega) (by omega)]
    · rw [if_neg h, Int.tmod_eq_emod_of_nonneg (by omega), Int.add_emod_right, Int.emod_eq_of_lt (by omega) (by omega)]
  unfold jacquardref28_Occupies.f occ
  rw [if_pos i0, if_pos (by omega), if_pos (by omega), if_neg (by omega), w64 (x := c - rd st i) (by omega) (by omega), te]
  by_cases h : (c - rd st i).tmod ii < 0
  · rw [if_pos h, if_pos h, w64 (x := (c - rd st i).tmod ii + ii) (by omega) (by omega), if_pos (by omega), if_pos (by omega)]
  · rw [if_neg h, if_neg h, if_pos (by omega), if_pos (by omega)]
def noClash (ne : List S52) (ii : Int) (st un : List Int) (i k : Int) : Prop := 0 ≤ (rd_T52 ne i).f0 → (rd_T52 ne i).f0 = (rd_T52 ne k).f0 → rd un i = rd un k → (i = k → (rd_T52 ne i).f1 ≤ ii) ∧ (i ≠ k → ∀ c : Int, 0 ≤ c → c < ii → ¬ (occ ne ii st i c = true ∧ occ ne ii st k c = true))
theorem clash_ok (F : FO n p ar rs ne) (S : FI n p rs ne ii de st pa un) (hi : 1 ≤ ii) {i k : Int} (i0 : 0 ≤ i) (i1 : i < n) (k0 : 0 ≤ k) (k1 : k < n) : ∃ b, Ev (fun m => jacquardref28_Clash.f m n p lp ar rs ne ii de st pa un i k) b ∧ (b = false → noClash ne ii st un i k) := by
  have := S.l1; have := S.l2; have := F.ln; have := S.i1
  have hf : Ev (fun m => jacquardref28_Clash.j0 m i k true n p lp ar rs ne ii de st pa un) false := Ev.step (f := fun _ => some false) (fun k => by simp only [jacquardref28_Clash.j0]; rw [if_pos trivial]) (Ev.now _)
  by_cases a1 : (rd_T52 ne i).f0 < 0
  · exact ⟨false, Ev.congr (fun m => by unfold jacquardref28_Clash.f; rw [if_pos i0, if_pos (by omega), if_pos a1]) hf, fun _ h => absurd h (by omega)⟩
  by_cases a2 : (rd_T52 ne i).f0 = (rd_T52 ne k).f0
  case neg => exact ⟨false, Ev.congr (fun m => by unfold jacquardref28_Clash.f; rw [if_pos i0, if_pos (by omega), if_neg a1, if_pos k0, if_pos (by omega), if_neg a2]) hf, fun _ _ h => absurd h a2⟩
  have un_ : ∀ m, jacquardref28_Clash.f m n p lp ar rs ne ii de st pa un i k = jacquardref28_Clash.j0 m i k (rd un i != rd un k) n p lp ar rs ne ii de st pa un := fun m => by unfold jacquardref28_Clash.f; rw [if_pos i0, if_pos (by omega), if_neg a1, if_pos k0, if_pos (by omega), if_pos a2, if_pos (by omega), if_pos (by omega)]
  by_cases a3 : rd un i = rd un k
  case neg => exact ⟨false, Ev.congr (fun m => by rw [un_, bne_iff_ne.mpr a3]) hf, fun _ _ _ h => absurd h a3⟩
  have e3 : (rd un i != rd un k) = false := bne_eq_false_iff_eq.mpr a3
  by_cases a4 : i = k
  · refine ⟨decide ((rd_T52 ne i).f1 > ii), Ev.congr un_ (Ev.step (f := fun _ => some (decide ((rd_T52 ne i).f1 > ii))) (fun m => ?_) (Ev.now _)), fun h _ _ _ => ⟨fun _ => by have := of_decide_eq_false h; omega, fun h => absurd a4 h⟩⟩
    rw [e3]
    simp only [jacquardref28_Clash.j0]
    rw [if_neg Bool.false_ne_true, if_pos a4, if_pos (by omega), if_pos i0, if_pos (by omega)]
  have loop : ∀ (d : Nat) (c : Int), 0 ≤ c → c + d = ii → ∃ b, Ev (fun m => jacquardref28_Clash.l0 m i k (ii - 1) c n p lp ar rs ne ii de st pa un) b ∧ (b = false → ∀ c' : Int, c ≤ c' → c' < ii → ¬ (occ ne ii st i c' = true ∧ occ ne ii st k c' = true)) := by
    intro d
    induction d with
    | zero =>
      intro c c0 hd
      refine ⟨false, Ev.step (f := fun _ => some false) (fun m => ?_) (Ev.now _), fun _ c' h1 h2 => absurd h2 (by omega)⟩
      simp only [jacquardref28_Clash.l0]
      rw [if_neg (by omega)]
    | succ d ih =>
      intro c c0 hd
      have hj : ∀ m, jacquardref28_Clash.l0 (m + 1) i k (ii - 1) c n p lp ar rs ne ii de st pa un = jacquardref28_Clash.j3 m i k (ii - 1) c (occ ne ii st i c && occ ne ii st k c) n p lp ar rs ne ii de st pa un := by
        intro m
        simp only [jacquardref28_Clash.l0]
        rw [if_pos (by omega), occ_ok F S hi i0 i1 c0 (by omega), occ_ok F S hi k0 k1 c0 (by omega)]
        simp only [Option.bind_some]
        cases occ ne ii st i c <;> simp
      by_cases hh : (occ ne ii st i c && occ ne ii st k c) = true
      · refine ⟨true, Ev.step hj (Ev.step (f := fun _ => some true) (fun m => ?_) (Ev.now _)), fun h => absurd h (by simp)⟩
        simp only [jacquardref28_Clash.j3]
        rw [if_pos hh]
      · obtain ⟨b, hb, hq⟩ := ih (c + 1) (by omega) (by omega)
        refine ⟨b, Ev.step hj (Ev.step (fun m => ?_) hb), fun h c' h1 h2 => ?_⟩
        · simp only [jacquardref28_Clash.j3]
          rw [if_neg hh, w64 (by omega) (by omega)]
        · by_cases e : c' = c
          · rw [e]; rw [Bool.and_eq_true] at hh; exact hh
          · exact hq h c' (by omega) h2
  obtain ⟨b, hb, hq⟩ := loop ii.toNat 0 (Int.le_refl _) (by omega)
  refine ⟨b, Ev.congr un_ (Ev.step (f := fun m => jacquardref28_Clash.j1 m i k 0 (ii - 1) n p lp ar rs ne ii de st pa un) (fun m => ?_) (Ev.step (fun m => ?_) hb)), fun h _ _ _ => ⟨fun h' => absurd h' a4, fun _ => hq h⟩⟩
  · rw [e3]
    simp only [jacquardref28_Clash.j0]
    rw [if_neg Bool.false_ne_true, if_neg a4, if_pos i0, if_pos (by omega), if_pos k0, if_pos (by omega), if_pos (by omega), w64 (by omega) (by omega)]
  · simp only [jacquardref28_Clash.j1]
theorem clashes_ok (F : FO n p ar rs ne) (S : FI n p rs ne ii de st pa un) (hi : 1 ≤ ii) : ∃ l, Ev (fun m => jacquardref28_Clashes.f m n p lp ar rs ne ii de st pa un) l ∧ (l.length = 0 → ∀ i k : Int, 0 ≤ i → i ≤ k → k < n → noClash ne ii st un i k) := by
  have n8 := F.n8
  have outer : ∀ (d : Nat) (i : Int) (l : List S78), 0 ≤ i → i + d = n → (l.length : Int) ≤ 10 * i → ∃ l', Ev (fun m => jacquardref28_Clashes.l0 m l n i n p lp ar rs ne ii de st pa un) l' ∧ l.length ≤ l'.length ∧ (l'.length = 0 → ∀ i' k : Int, i ≤ i' → i' ≤ k → k < n → noClash ne ii st un i' k) := by
    intro d
    induction d with
    | zero =>
      intro i l i0 hd hl
      refine ⟨l, Ev.step (f := fun _ => some l) (fun m => ?_) (Ev.now _), Nat.le_refl _, fun _ i' k h1 h2 h3 => absurd h3 (by omega)⟩
      simp only [jacquardref28_Clashes.l0]
      rw [if_neg (by omega)]
    | succ d ih =>
      intro i l i0 hd hl
      have inner : ∀ (e : Nat) (k : Int) (l : List S78), i ≤ k → k + e = n → (l.length : Int) ≤ 10 * i + k → ∃ l', Ev (fun m => jacquardref28_Clashes.l1 m l i k n i n p lp ar rs ne ii de st pa un) l' ∧ l.length ≤ l'.length ∧ (l'.length = 0 → (∀ k' : Int, k ≤ k' → k' < n → noClash ne ii st un i k') ∧ ∀ i' k : Int, i + 1 ≤ i' → i' ≤ k → k < n → noClash ne ii st un i' k) := by
        intro e
        induction e with
        | zero =>
          intro k l hk he hl
          obtain ⟨l', h1, h2, h3⟩ := ih (i + 1) l (by omega) (by omega) (by omega)
          refine ⟨l', Ev.step (fun m => ?_) h1, h2, fun h => ⟨fun k' g1 g2 => absurd g2 (by omega), h3 h⟩⟩
          simp only [jacquardref28_Clashes.l1]
          rw [if_neg (by omega), w64 (by omega) (by omega)]
        | succ e ihe =>
          intro k l hk he hl
          obtain ⟨b, hb, hbq⟩ := clash_ok (lp := lp) F S hi i0 (by omega : i < n) (by omega : 0 ≤ k) (by omega : k < n)
          have hj : ∀ m, jacquardref28_Clashes.l1 (m + 1) l i k n i n p lp ar rs ne ii de st pa un = (jacquardref28_Clash.f m n p lp ar rs ne ii de st pa un i k).bind fun t361 => if t361 = true then jacquardref28_Clashes.l1 m (l ++ [(⟨i, k⟩ : S78)]) i (k + 1) n i n p lp ar rs ne ii de st pa un else jacquardref28_Clashes.l1 m l i (k + 1) n i n p lp ar rs ne ii de st pa un := by
            intro m
            simp only [jacquardref28_Clashes.l1]
            rw [if_pos (by omega), w64 (x := k + 1) (by omega) (by omega)]
            simp only [if_pos (show l.length < 8796093022208 by omega)]
          by_cases hb1 : b = true
          · obtain ⟨l', h1, h2, h3⟩ := ihe (k + 1) (l ++ [(⟨i, k⟩ : S78)]) (by omega) (by omega) (by rw [List.length_append, List.length_singleton]; omega)
            rw [List.length_append, List.length_singleton] at h2
            exact ⟨l', Ev.step hj (Ev.bind hb (Ev.congr (fun m => if_pos hb1) h1)), by omega, fun h => absurd h (by omega)⟩
          · obtain ⟨l', h1, h2, h3⟩ := ihe (k + 1) l (by omega) (by omega) (by omega)
            refine ⟨l', Ev.step hj (Ev.bind hb (Ev.congr (fun m => if_neg hb1) h1)), h2, fun h => ⟨fun k' g1 g2 => ?_, (h3 h).2⟩⟩
            by_cases e : k' = k
            · rw [e]; exact hbq (by simpa using hb1)
            · exact (h3 h).1 k' (by omega) g2
      obtain ⟨l', h1, h2, h3⟩ := inner (d + 1) i l (Int.le_refl _) (by omega) (by omega)
      refine ⟨l', Ev.step (fun m => ?_) h1, h2, fun h i' k g1 g2 g3 => ?_⟩
      · simp only [jacquardref28_Clashes.l0]
        rw [if_pos (by omega)]
      · by_cases e : i' = i
        · subst e; exact (h3 h).1 k g2 g3
        · exact (h3 h).2 i' k (by omega) g2 g3
  obtain ⟨l, hl, _, hq⟩ := outer n.toNat 0 [] (Int.le_refl _) (by have := F.n0; omega) (by simp)
  exact ⟨l, hl, hq⟩
theorem apart_of (F : FO n p ar rs ne) (hi : 1 ≤ ii) {st un : List Int} (hs : ∀ i : Int, 0 ≤ i → i < n → 0 ≤ rd st i) (hn : ∀ i k : Int, 0 ≤ i → i ≤ k → k < n → noClash ne ii st un i k) :
    ∀ i k : Int, 0 ≤ i → i < n → 0 ≤ k → k < n → i ≠ k → 0 ≤ (rd_T52 ne i).f0 → (rd_T52 ne i).f0 = (rd_T52 ne k).f0 → rd un i = rd un k → ∀ a b : Int, 0 ≤ a → a < (rd_T52 ne i).f1 → 0 ≤ b → b < (rd_T52 ne k).f1 → (rd st i + a) % ii ≠ (rd st k + b) % ii := by
  intro i k i0 i1 k0 k1 hne hr he hu a b a0 a1 b0 b1 h
  have oc : ∀ (x c e : Int), 0 ≤ x → x < n → 0 ≤ (rd_T52 ne x).f0 → 0 ≤ e → e < (rd_T52 ne x).f1 → (rd st x + e) % ii = c → occ ne ii st x c = true := by
    intro x c e x0 x1 hx e0 e1 hc
    have hl := (hn x x x0 (Int.le_refl _) x1 hx rfl rfl).1 rfl
    unfold occ
    rw [decide_eq_true_eq, ← hc, Int.emod_sub_emod, show rd st x + e - rd st x = e by omega, Int.emod_eq_of_lt e0 (by omega)]
    exact e1
  have c0 := Int.emod_nonneg (rd st i + a) (show ii ≠ 0 by omega)
  have c1 := Int.emod_lt_of_pos (rd st i + a) (show 0 < ii by omega)
  have o1 := oc i _ a i0 i1 hr a0 a1 rfl
  have o2 := oc k _ b k0 k1 (by omega) b0 b1 h.symm
  by_cases hik : i ≤ k
  · exact (hn i k i0 hik k1 hr he hu).2 hne _ c0 c1 ⟨o1, o2⟩
  · exact (hn k i k0 (by omega) i1 (by omega) he.symm hu.symm).2 (fun e => hne e.symm) _ c0 c1 ⟨o2, o1⟩
theorem legal_ok (F : FO n p ar rs ne) (hl : lp = true) : ∃ b, Ev (fun k => jacquardref28_Legal.f k n p lp ar rs ne ii de st pa un) b ∧ (b = true → 1 ≤ ii ∧ ∃ start unit T, MD n p ii ar rs ne start unit T) := by
  obtain ⟨b, hb, hq⟩ := fits_ok (lp := lp) (ii := ii) (de := de) (st := st) (pa := pa) (un := un) F
  have un_ : ∀ k, jacquardref28_Legal.f k n p lp ar rs ne ii de st pa un = (jacquardref28_Fits.f k n p lp ar rs ne ii de st pa un).bind fun t367 => (if t367 = true then (jacquardref28_Legal.j0 k (decide (de < ii)) n p lp ar rs ne ii de st pa un) else (jacquardref28_Legal.j0 k true n p lp ar rs ne ii de st pa un)) := fun k => rfl
  have hf : Ev (fun m => jacquardref28_Legal.j0 m true n p lp ar rs ne ii de st pa un) false := Ev.step (f := fun _ => some false) (fun k => by simp only [jacquardref28_Legal.j0]; rw [if_pos trivial]) (Ev.now _)
  by_cases hb1 : b = true
  case neg => exact ⟨false, Ev.congr un_ (Ev.bind hb (Ev.congr (fun k => if_neg hb1) hf)), fun h => absurd h (by simp)⟩
  obtain ⟨S, hi⟩ := hq hb1
  have hi := hi hl
  by_cases hd : de < ii
  · exact ⟨false, Ev.congr un_ (Ev.bind hb (Ev.congr (fun k => (if_pos hb1).trans (by rw [decide_eq_true hd])) hf)), fun h => absurd h (by simp)⟩
  obtain ⟨l, hlate, hlq⟩ := late_ok (lp := lp) F S hi
  obtain ⟨cl, hcl, hcq⟩ := clashes_ok (lp := lp) F S hi
  have last : Ev (fun k => (jacquardref28_Late.f k n p lp ar rs ne ii de st pa un).bind fun t369 => (if (t369.length : Int) = 0 then ((jacquardref28_Clashes.f k n p lp ar rs ne ii de st pa un).bind fun t372 => (some ((t372.length : Int) == 0))) else (some false))) (decide (l.length = 0) && ((cl.length : Int) == 0)) := by
    refine Ev.bind hlate ?_
    by_cases h0 : l.length = 0
    · rw [decide_eq_true h0, Bool.true_and]
      exact Ev.congr (fun k => if_pos (by omega)) (Ev.bind hcl (Ev.now _))
    · rw [decide_eq_false h0, Bool.false_and]
      exact Ev.congr (fun k => if_neg (by omega)) (Ev.now _)
  have loop : ∀ (d : Nat) (i : Int), 0 ≤ i → i + d = pa.length → Ev (fun k => jacquardref28_Legal.l0 k (pa.length : Int) i n p lp ar rs ne ii de st pa un) (decide (l.length = 0) && ((cl.length : Int) == 0)) := by
    have l3 := S.l3
    have p4 := F.p4
    intro d
    induction d with
    | zero =>
      intro i i0 hd
      refine Ev.step (fun k => ?_) last
      simp only [jacquardref28_Legal.l0]
      rw [if_neg (by omega)]
    | succ d ih =>
      intro i i0 hd
      refine Ev.step (f := fun k => jacquardref28_Legal.j2 k (pa.length : Int) i false n p lp ar rs ne ii de st pa un) (fun k => ?_) (Ev.step (fun k => ?_) (ih (i + 1) (by omega) (by omega)))
      · simp only [jacquardref28_Legal.l0]
        rw [if_pos (by omega), if_pos hl]
      · simp only [jacquardref28_Legal.j2]
        rw [if_neg Bool.false_ne_true, w64 (by omega) (by omega)]
  refine ⟨_, Ev.congr un_ (Ev.bind hb (Ev.congr (fun k => if_pos hb1) (Ev.step (fun k => ?_) (loop pa.length 0 (Int.le_refl _) (by omega))))), fun h => ⟨hi, fun i => rd st i, fun i => rd un i, timeV n p de st pa, ?_⟩⟩
  · simp only [jacquardref28_Legal.j0]
    rw [if_neg (by simp; omega)]
  · rw [Bool.and_eq_true, decide_eq_true_eq, beq_iff_eq] at h
    have hc := hcq (by omega)
    have n0 := F.n0
    refine ⟨⟨by omega, fun i i0 i1 hx => S.u i i0 (by omega) hx, fun i i0 i1 => (S.s i i0 (by omega)).1, fun i i0 i1 hx => (hc i i i0 (Int.le_refl _) (by omega) hx rfl rfl).1 rfl, fun i k i0 i1 k0 k1 => apart_of F hi (fun i i0 i1 => (S.s i i0 i1).1) hc i k i0 (by omega) k0 (by omega)⟩, fun v v0 v1 => if_pos v1, ?_, hlq h.1⟩
    unfold timeV
    rw [if_neg (by have := F.p0; omega), if_neg (by omega), if_pos rfl]
end

end Go.Proofs.Ytpmlbbglekaidaa.Pure
