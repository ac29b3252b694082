-- Written for this claim by a program of this session (wip/print2 in its repo), which runs a changed printer. Lean checks it.
import Derived.Test.YtpmlbbglekaidaaF5
import Derived.Test.YtpmlbbglekaidaaWAll
namespace Go.Proofs.Ytpmlbbglekaidaa.PAll
open Go.RowKit Go.Proofs.YtpmlbbglekaidaaW.PrintWords Go.Proofs.YtpmlbbglekaidaaW.PrintLast Go.ChangeShapes Go.WideShapes
set_option linter.unusedVariables false
set_option linter.unusedSimpArgs false
def WS48 (x : S48) : Prop := ((Lit.int .i64 x.f0).wf = true) ∧ ((Lit.int .i64 x.f1).wf = true) ∧ ((Lit.int .i64 x.f2).wf = true) ∧ ((Lit.int .i64 x.f3).wf = true)
theorem k48_wf {x : S48} (h : WS48 x) : ((Lit.int .i64 x.f0).wf = true) ∧ ((Lit.int .i64 x.f1).wf = true) ∧ ((Lit.int .i64 x.f2).wf = true) ∧ ((Lit.int .i64 x.f3).wf = true) := h
theorem opens48 : Opens Try.prog 48 k48 WS48 := Opens.struct Try.underlying48 rfl (OpensF.cons (Opens.int Try.underlying3) rfl rfl (by kernel_rfl) (o2 := 1) (by kernel_rfl) (OpensF.cons (Opens.int Try.underlying3) rfl rfl (by kernel_rfl) (o2 := 2) (by kernel_rfl) (OpensF.cons (Opens.int Try.underlying3) rfl rfl (by kernel_rfl) (o2 := 3) (by kernel_rfl) (OpensF.one (Opens.int Try.underlying3) rfl rfl (by kernel_rfl))))) (by kernel_rfl) (fun x => ⟨x.1, x.2.1, x.2.2.1, x.2.2.2⟩) (fun _ => rfl)
def WS50 (x : S50) : Prop := ((Lit.int .i64 x.f0).wf = true) ∧ ((Lit.int .i64 x.f1).wf = true) ∧ ((Lit.int .i64 x.f2).wf = true) ∧ ((Lit.int .i64 x.f3).wf = true)
theorem k50_wf {x : S50} (h : WS50 x) : ((Lit.int .i64 x.f0).wf = true) ∧ ((Lit.int .i64 x.f1).wf = true) ∧ ((Lit.int .i64 x.f2).wf = true) ∧ ((Lit.int .i64 x.f3).wf = true) := h
theorem opens50 : Opens Try.prog 50 k50 WS50 := Opens.struct Try.underlying50 rfl (OpensF.cons (Opens.int Try.underlying3) rfl rfl (by kernel_rfl) (o2 := 1) (by kernel_rfl) (OpensF.cons (Opens.int Try.underlying3) rfl rfl (by kernel_rfl) (o2 := 2) (by kernel_rfl) (OpensF.cons (Opens.int Try.underlying3) rfl rfl (by kernel_rfl) (o2 := 3) (by kernel_rfl) (OpensF.one (Opens.int Try.underlying3) rfl rfl (by kernel_rfl))))) (by kernel_rfl) (fun x => ⟨x.1, x.2.1, x.2.2.1, x.2.2.2⟩) (fun _ => rfl)
def WS52 (x : S52) : Prop := ((Lit.int .i64 x.f0).wf = true) ∧ ((Lit.int .i64 x.f1).wf = true)
theorem k52_wf {x : S52} (h : WS52 x) : ((Lit.int .i64 x.f0).wf = true) ∧ ((Lit.int .i64 x.f1).wf = true) := h
theorem opens52 : Opens Try.prog 52 k52 WS52 := Opens.struct Try.underlying52 rfl (OpensF.cons (Opens.int Try.underlying3) rfl rfl (by kernel_rfl) (o2 := 1) (by kernel_rfl) (OpensF.one (Opens.int Try.underlying3) rfl rfl (by kernel_rfl))) (by kernel_rfl) (fun x => ⟨x.1, x.2⟩) (fun _ => rfl)
def WS26 (x : S26) : Prop := ((Lit.int .i64 x.f0).wf = true) ∧ ((Lit.int .i64 x.f1).wf = true) ∧ (True) ∧ (x.f3.length ≤ maxLen ∧ x.f3.length * 32 ≤ 140737488351232 ∧ ∀ y ∈ x.f3, WS48 y) ∧ (x.f4.length ≤ maxLen ∧ x.f4.length * 32 ≤ 140737488351232 ∧ ∀ y ∈ x.f4, WS50 y) ∧ (x.f5.length ≤ maxLen ∧ x.f5.length * 16 ≤ 140737488351232 ∧ ∀ y ∈ x.f5, WS52 y)
theorem k26_wf {x : S26} (h : WS26 x) : ((Lit.int .i64 x.f0).wf = true) ∧ ((Lit.int .i64 x.f1).wf = true) ∧ (True) ∧ (x.f3.length ≤ maxLen ∧ x.f3.length * 32 ≤ 140737488351232 ∧ ∀ y ∈ x.f3, WS48 y) ∧ (x.f4.length ≤ maxLen ∧ x.f4.length * 32 ≤ 140737488351232 ∧ ∀ y ∈ x.f4, WS50 y) ∧ (x.f5.length ≤ maxLen ∧ x.f5.length * 16 ≤ 140737488351232 ∧ ∀ y ∈ x.f5, WS52 y) := h
theorem opens26 : Opens Try.prog 26 k26 WS26 := Opens.struct Try.underlying26 rfl (OpensF.cons (Opens.int Try.underlying3) rfl rfl (by kernel_rfl) (o2 := 1) (by kernel_rfl) (OpensF.cons (Opens.int Try.underlying3) rfl rfl (by kernel_rfl) (o2 := 2) (by kernel_rfl) (OpensF.cons (Opens.bool Try.underlying4) rfl rfl (by kernel_rfl) (o2 := 3) (by kernel_rfl) (OpensF.cons (Opens.slice opens48 Try.underlying22 (by kernel_rfl) (B := 32) (by kernel_rfl)) rfl rfl (by kernel_rfl) (o2 := 4) (by kernel_rfl) (OpensF.cons (Opens.slice opens50 Try.underlying23 (by kernel_rfl) (B := 32) (by kernel_rfl)) rfl rfl (by kernel_rfl) (o2 := 5) (by kernel_rfl) (OpensF.one (Opens.slice opens52 Try.underlying24 (by kernel_rfl) (B := 16) (by kernel_rfl)) rfl rfl (by kernel_rfl))))))) (by kernel_rfl) (fun x => ⟨x.1, x.2.1, x.2.2.1, x.2.2.2.1, x.2.2.2.2.1, x.2.2.2.2.2⟩) (fun _ => rfl)
structure S38 where
  f0 : List Int
  f1 : List Int
def k38 : Kd S38 := Kd.iso (Kd.pair (Kd.slice 3 (Kd.int .i64)) (Kd.slice 3 (Kd.int .i64))) (fun x : S38 => (x.f0, x.f1))
def WS38 (x : S38) : Prop := (x.f0.length ≤ maxLen ∧ x.f0.length * 8 ≤ 140737488351232 ∧ ∀ y ∈ x.f0, (Lit.int .i64 y).wf = true) ∧ (x.f1.length ≤ maxLen ∧ x.f1.length * 8 ≤ 140737488351232 ∧ ∀ y ∈ x.f1, (Lit.int .i64 y).wf = true)
theorem k38_wf {x : S38} (h : WS38 x) : (x.f0.length ≤ maxLen ∧ x.f0.length * 8 ≤ 140737488351232 ∧ ∀ y ∈ x.f0, (Lit.int .i64 y).wf = true) ∧ (x.f1.length ≤ maxLen ∧ x.f1.length * 8 ≤ 140737488351232 ∧ ∀ y ∈ x.f1, (Lit.int .i64 y).wf = true) := h
theorem opens38 : Opens Try.prog 38 k38 WS38 := Opens.array2 (Opens.slice (Opens.int Try.underlying3) Try.underlying31 (by kernel_rfl) (B := 8) (by kernel_rfl)) Try.underlying38 (by kernel_rfl) (by kernel_rfl) (fun x => ⟨x.1, x.2⟩) (fun _ => rfl)
/-- THE ONE PURE STATEMENT of jacquardlaw34_RefuteWalks. -/
def jacquardlaw34_RefuteWalks.Pure : Prop := ∀ (x0 : S26) (a1 : Int) (x2 : S38), WS26 x0 → ((Lit.int .i64 a1).wf = true) → WS38 x2 → ∃ k, jacquardlaw34_RefuteWalks.f k x0.f0 x0.f1 x0.f2 x0.f3 x0.f4 x0.f5 a1 x2.f0 x2.f1 = some true
end Go.Proofs.Ytpmlbbglekaidaa.PAll
