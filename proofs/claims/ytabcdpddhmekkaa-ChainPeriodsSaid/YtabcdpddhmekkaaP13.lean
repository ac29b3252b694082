-- Written for this claim by programs of this session (wip in its repo). Lean checks it.
import Derived.Test.YtabcdpddhmekkaaP12
set_option linter.all false
namespace Go.Proofs.Ytabcdpddhmekkaa.vm
open Go Go.RowKit Go.Vm
theorem awake (k:Nat):evF T (k+60) 9 [] []=some ([.bool true],[]):=by kernel_rfl
end Go.Proofs.Ytabcdpddhmekkaa.vm
