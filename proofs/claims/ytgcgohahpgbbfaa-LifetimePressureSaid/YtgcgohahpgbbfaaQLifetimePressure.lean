-- Written for this claim by a program of this session (wip/print2 in its repo), which runs a changed printer. Lean checks it.
import Derived.Test.YtgcgohahpgbbfaaPLifetimePressurex3
import Derived.Test.YtgcgohahpgbbfaaWOpen
namespace Go.Proofs.Ytgcgohahpgbbfaa.PLifetimePressure
open Go.RowKit Go.Proofs.YtgcgohahpgbbfaaW.PrintWords Go.Proofs.YtgcgohahpgbbfaaW.PrintLast Go.ChangeShapes Go.WideShapes
set_option linter.unusedVariables false
set_option linter.unusedSimpArgs false
def WS83 (x : S83) : Prop := ((Lit.int .u8 x.f0).wf = true) ∧ ((Lit.int .u8 x.f1).wf = true)
theorem k83_wf {x : S83} (h : WS83 x) : ((Lit.int .u8 x.f0).wf = true) ∧ ((Lit.int .u8 x.f1).wf = true) := h
theorem opens83 : Opens Try.prog 83 k83 WS83 := Opens.array2 (Opens.int Try.underlying5) Try.underlying83 (by kernel_rfl) (by kernel_rfl) (fun x => ⟨x.1, x.2⟩) (fun _ => rfl)
/-- THE ONE PURE STATEMENT of jacquardlaw37_LifetimePressure. -/
def jacquardlaw37_LifetimePressure.Pure : Prop := ∀ (l0 : List (S83)) (a1 : Int), (l0.length ≤ maxLen ∧ l0.length * 2 ≤ 140737488351232 ∧ ∀ y ∈ l0, WS83 y) → ((Lit.int .u8 a1).wf = true) → ∃ k, jacquardlaw37_LifetimePressure.f k l0 a1 = some true
end Go.Proofs.Ytgcgohahpgbbfaa.PLifetimePressure
