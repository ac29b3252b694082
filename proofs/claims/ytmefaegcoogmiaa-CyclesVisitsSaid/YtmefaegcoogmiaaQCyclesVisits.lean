-- Written for this claim by a program of this session (wip/print2 in its repo), which runs a changed printer. Lean checks it.
import Derived.Test.YtmefaegcoogmiaaPCyclesVisitsx4
import Derived.Test.YtmefaegcoogmiaaWOpen
namespace Go.Proofs.Ytmefaegcoogmiaa.PCyclesVisits
open Go.RowKit Go.Proofs.YtmefaegcoogmiaaW.PrintWords Go.Proofs.YtmefaegcoogmiaaW.PrintLast Go.ChangeShapes Go.WideShapes
set_option linter.unusedVariables false
set_option linter.unusedSimpArgs false
def WS49 (x : S49) : Prop := ((Lit.int .i64 x.f0).wf = true) ∧ ((Lit.int .i64 x.f1).wf = true) ∧ (x.f2.length ≤ maxLen ∧ x.f2.length * 8 ≤ 140737488351232 ∧ ∀ y ∈ x.f2, (Lit.int .i64 y).wf = true) ∧ (x.f3.length ≤ maxLen ∧ x.f3.length * 8 ≤ 140737488351232 ∧ ∀ y ∈ x.f3, (Lit.int .i64 y).wf = true) ∧ (x.f4.length ≤ maxLen ∧ x.f4.length * 8 ≤ 140737488351232 ∧ ∀ y ∈ x.f4, (Lit.int .i64 y).wf = true)
theorem k49_wf {x : S49} (h : WS49 x) : ((Lit.int .i64 x.f0).wf = true) ∧ ((Lit.int .i64 x.f1).wf = true) ∧ (x.f2.length ≤ maxLen ∧ x.f2.length * 8 ≤ 140737488351232 ∧ ∀ y ∈ x.f2, (Lit.int .i64 y).wf = true) ∧ (x.f3.length ≤ maxLen ∧ x.f3.length * 8 ≤ 140737488351232 ∧ ∀ y ∈ x.f3, (Lit.int .i64 y).wf = true) ∧ (x.f4.length ≤ maxLen ∧ x.f4.length * 8 ≤ 140737488351232 ∧ ∀ y ∈ x.f4, (Lit.int .i64 y).wf = true) := h
theorem opens49 : Opens Try.prog 49 k49 WS49 := Opens.struct Try.underlying49 rfl (OpensF.cons (Opens.int Try.underlying3) rfl rfl (by kernel_rfl) (o2 := 1) (by kernel_rfl) (OpensF.cons (Opens.int Try.underlying3) rfl rfl (by kernel_rfl) (o2 := 2) (by kernel_rfl) (OpensF.cons (Opens.slice (Opens.int Try.underlying3) Try.underlying22 (by kernel_rfl) (B := 8) (by kernel_rfl)) rfl rfl (by kernel_rfl) (o2 := 3) (by kernel_rfl) (OpensF.cons (Opens.slice (Opens.int Try.underlying3) Try.underlying22 (by kernel_rfl) (B := 8) (by kernel_rfl)) rfl rfl (by kernel_rfl) (o2 := 4) (by kernel_rfl) (OpensF.one (Opens.slice (Opens.int Try.underlying3) Try.underlying22 (by kernel_rfl) (B := 8) (by kernel_rfl)) rfl rfl (by kernel_rfl)))))) (by kernel_rfl) (fun x => ⟨x.1, x.2.1, x.2.2.1, x.2.2.2.1, x.2.2.2.2⟩) (fun _ => rfl)
/-- THE ONE PURE STATEMENT of jacquardlaw36_CyclesVisits. -/
def jacquardlaw36_CyclesVisits.Pure : Prop := ∀ (x0 : S49) (a1 : Int), WS49 x0 → ((Lit.int .i16 a1).wf = true) → ∃ k, jacquardlaw36_CyclesVisits.f k x0.f0 x0.f1 x0.f2 x0.f3 x0.f4 a1 = some true
end Go.Proofs.Ytmefaegcoogmiaa.PCyclesVisits
