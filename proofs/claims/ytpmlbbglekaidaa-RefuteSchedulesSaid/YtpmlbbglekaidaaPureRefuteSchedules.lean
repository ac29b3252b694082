/- The law RefuteSchedules holds: if any tree is accepted, no schedule with the interval is legal, whichever is given; no condition. -/
import Derived.Test.YtpmlbbglekaidaaPureL
import Derived.Test.YtpmlbbglekaidaaF6
import Derived.Test.YtpmlbbglekaidaaF4
import Derived.Test.YtpmlbbglekaidaaQRefuteSchedules
namespace Go.Proofs.Ytpmlbbglekaidaa.Pure
open Go.RowKit Go.Proofs.Ytpmlbbglekaidaa.PAll Go.Proofs.YtpmlbbglekaidaaW.PrintWords Go.Proofs.YtpmlbbglekaidaaW.PrintLast
set_option linter.unusedVariables false
set_option linter.unusedSimpArgs false

/-! ### the fixed example -/
theorem awake : Ev (fun k => jacquardlaw34_awake.f k) true := Ev.of jacquardlaw34_awake.mono (k := 80) (by decide +kernel)

theorem RefuteSchedules : jacquardlaw34_RefuteSchedules.Pure := by
  rintro ⟨n, p, lp, ar, rs, ne⟩ ⟨ii, de, st, pa, un⟩ t ⟨-, -, -, ⟨-, la, -⟩, ⟨-, lr, -⟩, ⟨-, ln, -⟩⟩ hs ⟨-, lt, -⟩
  (try dsimp only at *)
  have hfew := few_ok (n := n) (p := p) (lp := lp) (ar := ar) (rs := rs) (ne := ne) (by omega) (by omega) t (by omega)
  have aw : ∀ k, jacquardlaw34_RefuteSchedules.f k n p lp ar rs ne ii de st pa un t = (jacquardlaw34_awake.f k).bind fun t377 => (if t377 = true then ((jacquardlaw34_few.f k n p lp ar rs ne t).bind fun t378 => (if t378 = true then (if (st.length : Int) > 20 then (jacquardlaw34_RefuteSchedules.j0 k t true n p lp ar rs ne ii de st pa un) else (if (un.length : Int) > 20 then (jacquardlaw34_RefuteSchedules.j0 k t true n p lp ar rs ne ii de st pa un) else (jacquardlaw34_RefuteSchedules.j0 k t (decide ((pa.length : Int) > 20)) n p lp ar rs ne ii de st pa un))) else (jacquardlaw34_RefuteSchedules.j0 k t true n p lp ar rs ne ii de st pa un))) else (jacquardlaw34_RefuteSchedules.j0 k t true n p lp ar rs ne ii de st pa un)) := fun k => rfl
  have hj : Ev (fun k => jacquardlaw34_RefuteSchedules.j0 k t true n p lp ar rs ne ii de st pa un) true := by
    refine Ev.step (fun k => ?_) (Ev.bind awake (Ev.now true))
    simp only [jacquardlaw34_RefuteSchedules.j0]
    rw [if_pos trivial]
  suffices h : Ev (fun k => jacquardlaw34_RefuteSchedules.f k n p lp ar rs ne ii de st pa un t) true from h.rounds
  refine Ev.congr aw (Ev.bind awake (Ev.congr (fun k => if_pos rfl) (Ev.bind hfew ?_)))
  by_cases hF : FW n p ar rs ne t = true
  case neg => exact Ev.congr (fun k => if_neg hF) hj
  refine Ev.congr (fun k => if_pos hF) ?_
  by_cases h1 : (st.length : Int) > 20
  · exact Ev.congr (fun k => if_pos h1) hj
  refine Ev.congr (fun k => if_neg h1) ?_
  by_cases h2 : (un.length : Int) > 20
  · exact Ev.congr (fun k => if_pos h2) hj
  refine Ev.congr (fun k => if_neg h2) ?_
  by_cases h3 : (pa.length : Int) > 20
  · rw [decide_eq_true h3]; exact hj
  rw [decide_eq_false h3]
  obtain ⟨b, hb, hq⟩ := check_ok (lp := lp) t hF ii
  have un_ : ∀ k, jacquardlaw34_RefuteSchedules.j0 (k + 1) t false n p lp ar rs ne ii de st pa un = (refute_Check.f k n p lp ar rs ne ii t).bind fun t380 => (if t380 = true then ((jacquardref28_Legal.f k n p lp ar rs ne ii de st pa un).bind fun t381 => (some (!t381))) else (some true)) := fun k => by
    simp only [jacquardlaw34_RefuteSchedules.j0]
    rw [if_neg Bool.false_ne_true]
  refine Ev.step un_ (Ev.bind hb ?_)
  by_cases hb1 : b = true
  case neg => exact Ev.congr (fun k => if_neg hb1) (Ev.now _)
  refine Ev.congr (fun k => if_pos hb1) ?_
  obtain ⟨-, F, hlp, i0, i1, no⟩ := hq hb1
  obtain ⟨c, hc, hcq⟩ := legal_ok (lp := lp) (ii := ii) (de := de) (st := st) (pa := pa) (un := un) F hlp
  have c0 : c = false := by
    rw [← Bool.not_eq_true]
    intro h
    obtain ⟨-, start, unit, T, D⟩ := hcq h
    exact no start unit T D
  rw [c0] at hc
  exact Ev.bind hc (Ev.now _)

end Go.Proofs.Ytpmlbbglekaidaa.Pure
