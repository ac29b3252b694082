/- The law LibraryGrows holds: delays, latencies and areas do not fall as the width grows, for any operator and any two widths; no condition. -/
import Derived.Test.YtmacdopdogodoaaPAllx5
import Derived.Test.YtmacdopdogodoaaPureC
namespace Go.Proofs.Ytmacdopdogodoaa.Pure
open Go.RowKit Go.Proofs.Ytmacdopdogodoaa.PAll Go.Proofs.YtmacdopdogodoaaW.PrintWords Go.Proofs.YtmacdopdogodoaaW.PrintLast
def upto (u v : Int × Int × Int × Int × Int × Int × Int) : Prop := u.1 = v.1 ∧ u.2.2.1 ≤ v.2.2.1 ∧ u.2.2.2.1 ≤ v.2.2.2.1 ∧ u.2.2.2.2.1 ≤ v.2.2.2.2.1 ∧ u.2.2.2.2.2.1 ≤ v.2.2.2.2.2.1
instance (u v : Int × Int × Int × Int × Int × Int × Int) : Decidable (upto u v) := by unfold upto; infer_instance
def good (u : Int × Int × Int × Int × Int × Int × Int) : Prop := u.2.2.2.2.2.2 = 0 ∧ ((u.2.2.2.1 == 0) == (u.1 == 0)) = true ∧ u.2.2.2.2.1 ≤ u.2.2.2.1
instance (u : Int × Int × Int × Int × Int × Int × Int) : Decidable (good u) := by unfold good; infer_instance
def at12 (n w : Nat) : Int × Int × Int × Int × Int × Int × Int := (library_Of.f 12 (n : Int) (w : Int)).getD (0, 0, 0, 0, 0, 0, 99)
set_option maxRecDepth 100000 in
theorem steps : ∀ i : Fin 23, ∀ j : Fin 64, (library_Of.f 12 ((i.val + 2 : Nat) : Int) ((j.val + 1 : Nat) : Int)).isSome = true ∧ good (at12 (i.val + 2) (j.val + 1)) ∧ (j.val < 63 → upto (at12 (i.val + 2) (j.val + 1)) (at12 (i.val + 2) (j.val + 2))) := by decide +kernel
theorem upto_trans {u v z : Int × Int × Int × Int × Int × Int × Int} (h : upto u v) (h' : upto v z) : upto u z := by
  obtain ⟨a, b, c, d, e⟩ := h
  obtain ⟨a', b', c', d', e'⟩ := h'
  exact ⟨a.trans a', Int.le_trans b b', Int.le_trans c c', Int.le_trans d d', Int.le_trans e e'⟩
theorem upto_all (i : Fin 23) (w : Nat) (h0 : 1 ≤ w) (d : Nat) : w + d ≤ 64 → upto (at12 (i.val + 2) w) (at12 (i.val + 2) (w + d)) := by
  induction d with
  | zero => intro _; exact ⟨rfl, Int.le_refl _, Int.le_refl _, Int.le_refl _, Int.le_refl _⟩
  | succ d ih =>
    intro h
    have h1 := (steps i ⟨w + d - 1, by omega⟩).2.2 (by show w + d - 1 < 63; omega)
    have e1 : (⟨w + d - 1, by omega⟩ : Fin 64).val + 1 = w + d := by show w + d - 1 + 1 = w + d; omega
    have e2 : (⟨w + d - 1, by omega⟩ : Fin 64).val + 2 = w + (d + 1) := by show w + d - 1 + 2 = w + (d + 1); omega
    rw [e1, e2] at h1
    exact upto_trans (ih (by omega)) h1
theorem ev_at (i : Fin 23) (w : Nat) (h0 : 1 ≤ w) (h1 : w ≤ 64) : Ev (fun k => library_Of.f k ((i.val + 2 : Nat) : Int) (w : Int)) (at12 (i.val + 2) w) ∧ good (at12 (i.val + 2) w) := by
  obtain ⟨a, b, _⟩ := steps i ⟨w - 1, by omega⟩
  have e1 : (⟨w - 1, by omega⟩ : Fin 64).val + 1 = w := by show w - 1 + 1 = w; omega
  rw [e1] at a b
  refine ⟨Ev.of (fun k => library_Of.mono _ _ k) (k := 12) ?_, b⟩
  unfold at12
  obtain ⟨u, hu⟩ := Option.isSome_iff_exists.1 a
  rw [hu]
  rfl
theorem tail (n x y : Int) (u v : Int × Int × Int × Int × Int × Int × Int) (hu : Ev (fun k => library_Of.f k n x) u) (hv : Ev (fun k => library_Of.f k n y) v) (he : u.2.2.2.2.2.2 = v.2.2.2.2.2.2) (h : upto u v) (hg : ((u.2.2.2.1 == 0) == (u.1 == 0)) = true ∧ u.2.2.2.2.1 ≤ u.2.2.2.1) :
    Ev (fun k => (library_Of.f k n x).bind fun bt122 => (library_Of.f k n y).bind fun bt130 => (if bt122.2.2.2.2.2.2 = bt130.2.2.2.2.2.2 then (if bt122.1 = bt130.1 then (if bt122.2.2.1 ≤ bt130.2.2.1 then (if bt122.2.2.2.1 ≤ bt130.2.2.2.1 then (if bt122.2.2.2.2.1 ≤ bt130.2.2.2.2.1 then (if bt122.2.2.2.2.2.1 ≤ bt130.2.2.2.2.2.1 then (if ((bt122.2.2.2.1 == 0) == (bt122.1 == 0)) = true then (some (decide (bt122.2.2.2.2.1 ≤ bt122.2.2.2.1))) else (some false)) else (some false)) else (some false)) else (some false)) else (some false)) else (some false)) else (some false))) true := by
  refine Ev.bind hu (Ev.bind hv ?_)
  obtain ⟨a, b, c, d, e⟩ := h
  rw [if_pos he, if_pos a, if_pos b, if_pos c, if_pos d, if_pos e, if_pos hg.1, decide_eq_true hg.2]
  exact Ev.now _
theorem u8b {x : Int} (h : (Lit.int .u8 x).wf = true) : 0 ≤ x ∧ x ≤ 255 := by
  simp [Lit.wf, IntKind.min, IntKind.max, IntKind.signed, IntKind.bits] at h
  omega
theorem LibraryGrows : jacquardlaw27_LibraryGrows.Pure := by
  intro n a b hn ha hb
  obtain ⟨a0, a1⟩ := u8b ha
  obtain ⟨b0, b1⟩ := u8b hb
  refine Ev.rounds (g := fun k => jacquardlaw27_LibraryGrows.f k n a b) ?_
  have ea : wrap64 (1 + Int.tmod (wrap64 a) 64) = 1 + a % 64 := by rw [w64 (x := a) (by omega) (by omega), Int.tmod_eq_emod_of_nonneg a0, w64 (by omega) (by omega)]
  have eb : wrap64 (1 + Int.tmod (wrap64 b) 64) = 1 + b % 64 := by rw [w64 (x := b) (by omega) (by omega), Int.tmod_eq_emod_of_nonneg b0, w64 (by omega) (by omega)]
  refine Ev.bind awake_ok ?_
  simp only [if_true, ea, eb]
  have hx : 1 ≤ mn (1 + a % 64) (1 + b % 64) ∧ mn (1 + a % 64) (1 + b % 64) ≤ mx (1 + a % 64) (1 + b % 64) ∧ mx (1 + a % 64) (1 + b % 64) ≤ 64 := by unfold mn mx; omega
  generalize mn (1 + a % 64) (1 + b % 64) = x at hx ⊢
  generalize mx (1 + a % 64) (1 + b % 64) = y at hx ⊢
  by_cases h : n ≤ 1 ∨ 25 ≤ n
  · exact tail n x y _ _ (of_arg n x h) (of_arg n y h) rfl ⟨rfl, Int.le_refl _, Int.le_refl _, Int.le_refl _, Int.le_refl _⟩ ⟨rfl, Int.le_refl _⟩
  · have e1 : n = (((⟨(n - 2).toNat, by omega⟩ : Fin 23).val + 2 : Nat) : Int) := by show n = (((n - 2).toNat + 2 : Nat) : Int); omega
    have ex : x = (x.toNat : Int) := by omega
    have ey : y = ((x.toNat + (y - x).toNat : Nat) : Int) := by omega
    obtain ⟨hu, gu⟩ := ev_at ⟨(n - 2).toNat, by omega⟩ x.toNat (by omega) (by omega)
    obtain ⟨hv, gv⟩ := ev_at ⟨(n - 2).toNat, by omega⟩ (x.toNat + (y - x).toNat) (by omega) (by omega)
    have hup := upto_all ⟨(n - 2).toNat, by omega⟩ x.toNat (by omega) (y - x).toNat (by omega)
    rw [← e1, ← ex] at hu
    rw [← e1, ← ey] at hv
    exact tail n x y _ _ hu hv (gu.1.trans gv.1.symm) hup gu.2
end Go.Proofs.Ytmacdopdogodoaa.Pure
