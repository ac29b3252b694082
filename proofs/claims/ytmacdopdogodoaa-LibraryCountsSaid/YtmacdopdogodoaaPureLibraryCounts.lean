/- The law LibraryCounts holds: the first limit of a class counts, within 1 and the greatest number, for any limits; no condition. -/
import Derived.Test.YtmacdopdogodoaaQLibraryCounts
import Derived.Test.YtmacdopdogodoaaPureC
namespace Go.Proofs.Ytmacdopdogodoaa.Pure
open Go.RowKit Go.Proofs.Ytmacdopdogodoaa.PAll Go.Proofs.YtmacdopdogodoaaW.PrintWords Go.Proofs.YtmacdopdogodoaaW.PrintLast
def ff (c : Int) : List S37 → Int
  | [] => 1024
  | y :: ys => if y.f0 = c then mn (mx y.f1 1) 1024 else ff c ys
theorem drop_at37 {xs : List S37} {i : Int} (h0 : 0 ≤ i) (h1 : i < xs.length) : xs.drop i.toNat = rd_T37 xs i :: xs.drop (i + 1).toNat := by
  unfold rd_T37
  rw [List.getD_eq_getElem?_getD, List.getElem?_eq_getElem (show i.toNat < xs.length by omega), show (i + 1).toNat = i.toNat + 1 by omega]
  exact List.drop_eq_getElem_cons _
theorem ev_count (c : Int) (xs : List S37) (hl : xs.length ≤ 140737488351232) (d : Nat) : ∀ i : Int, 0 ≤ i → i + d = xs.length → Ev (fun k => library_Count.l0 k c xs (xs.length : Int) i) (ff c (xs.drop i.toNat)) := by
  induction d with
  | zero =>
    intro i hi hd
    rw [show xs.drop i.toNat = [] from List.drop_eq_nil_of_le (by omega)]
    refine Ev.step (f := fun _ => some 1024) (fun k => ?_) (Ev.now _)
    simp only [library_Count.l0]
    rw [if_neg (by omega)]
  | succ d ih =>
    intro i hi hd
    rw [drop_at37 hi (by omega)]
    simp only [ff]
    by_cases hc : (rd_T37 xs i).f0 = c
    · rw [if_pos hc]
      refine Ev.step (f := fun _ => some (mn (mx (rd_T37 xs i).f1 1) 1024)) (fun k => ?_) (Ev.now _)
      simp only [library_Count.l0]
      rw [if_pos (by omega), if_pos hi, if_pos (by omega), if_pos hc]
    · rw [if_neg hc]
      refine Ev.step (fun k => ?_) (ih (i + 1) (by omega) (by omega))
      simp only [library_Count.l0]
      rw [if_pos (by omega), if_pos hi, if_pos (by omega), if_neg hc, w64 (x := i + 1) (by omega) (by omega)]
theorem back (c : Int) (xs : List S37) (hl : xs.length ≤ 140737488351232) (d : Nat) : ∀ i : Int, i + 1 = d → i < xs.length → Ev (fun k => jacquardlaw27_LibraryCounts.l0 k xs c (ff c (xs.drop (i + 1).toNat)) i) true := by
  induction d with
  | zero =>
    intro i hi hd
    have h0 := ev_count c xs hl xs.length 0 (by omega) (by omega)
    rw [show (i + 1).toNat = (0 : Int).toNat by omega]
    refine Ev.step (f := fun k => (library_Count.f k xs c).bind fun t => some (t == ff c (xs.drop (0 : Int).toNat))) (fun k => ?_) (Ev.bind (Ev.congr (fun _ => rfl) h0) ?_)
    · simp only [jacquardlaw27_LibraryCounts.l0]
      rw [if_neg (by omega)]
    · rw [beq_self_eq_true]
      exact Ev.now _
  | succ d ih =>
    intro i hi hd
    have h := ih (i - 1) (by omega) (by omega)
    rw [show i - 1 + 1 = i by omega, drop_at37 (by omega) hd] at h
    refine Ev.step (fun k => ?_) h
    simp only [jacquardlaw27_LibraryCounts.l0, ff]
    rw [if_pos (by omega), if_pos (by omega), if_pos hd, w64 (x := i - 1) (by omega) (by omega)]
    by_cases hc : (rd_T37 xs i).f0 = c
    · rw [if_pos hc, if_pos hc]
    · rw [if_neg hc, if_neg hc]
theorem LibraryCounts : jacquardlaw27_LibraryCounts.Pure := by
  intro l c hl hc
  have hn : l.length ≤ 140737488351232 := by omega
  refine Ev.rounds (g := fun k => jacquardlaw27_LibraryCounts.f k l c) ?_
  refine Ev.bind awake_ok ?_
  simp only [if_true]
  have h := back c l hn l.length ((l.length : Int) - 1) (by omega) (by omega)
  rw [show (l.length : Int) - 1 + 1 = l.length by omega, Int.toNat_natCast, List.drop_length] at h
  rw [w64 (by omega) (by omega)]
  exact h
end Go.Proofs.Ytmacdopdogodoaa.Pure
