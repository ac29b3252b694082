-- Written for this claim by programs of this session (wip in its repo). Lean checks it.
import Derived.Test.YtabcdpddhmekkaaP6
set_option linter.all false
namespace Go.Proofs.Ytabcdpddhmekkaa.vm
open Go Go.RowKit Go.Vm
noncomputable def chS (F:FV) (l:List S72) (sm:Nat→Nat→Bool):Ch:={ chOf F l (fun _=>0) with sm:=sm }
end Go.Proofs.Ytabcdpddhmekkaa.vm
