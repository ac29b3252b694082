-- Written for this claim by a program of this session (wip/print2 in its repo), which runs a changed printer. Lean checks it.
import Derived.Test.YtmacdopdogodoaaPAllx5
import Derived.Test.YtmacdopdogodoaaWOpen
namespace Go.Proofs.Ytmacdopdogodoaa.PAll
open Go.RowKit Go.Proofs.YtmacdopdogodoaaW.PrintWords Go.Proofs.YtmacdopdogodoaaW.PrintLast Go.ChangeShapes Go.WideShapes
set_option linter.unusedVariables false
set_option linter.unusedSimpArgs false
def WS37 (x : S37) : Prop := ((Lit.int .i64 x.f0).wf = true) ∧ ((Lit.int .i64 x.f1).wf = true)
theorem k37_wf {x : S37} (h : WS37 x) : ((Lit.int .i64 x.f0).wf = true) ∧ ((Lit.int .i64 x.f1).wf = true) := h
theorem opens37 : Opens Try.prog 37 k37 WS37 := Opens.struct Try.underlying37 rfl (OpensF.cons (Opens.int Try.underlying3) rfl rfl (by kernel_rfl) (o2 := 1) (by kernel_rfl) (OpensF.one (Opens.int Try.underlying3) rfl rfl (by kernel_rfl))) (by kernel_rfl) (fun x => ⟨x.1, x.2⟩) (fun _ => rfl)
/-- THE ONE PURE STATEMENT of jacquardlaw27_LibraryCounts. -/
def jacquardlaw27_LibraryCounts.Pure : Prop := ∀ (l0 : List (S37)) (a1 : Int), (l0.length ≤ maxLen ∧ l0.length * 16 ≤ 140737488351232 ∧ ∀ y ∈ l0, WS37 y) → ((Lit.int .i64 a1).wf = true) → ∃ k, jacquardlaw27_LibraryCounts.f k l0 a1 = some true
end Go.Proofs.Ytmacdopdogodoaa.PAll
