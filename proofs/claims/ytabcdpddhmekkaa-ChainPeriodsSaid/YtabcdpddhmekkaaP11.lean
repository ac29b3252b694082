-- Written for this claim by programs of this session (wip in its repo). Lean checks it.
import Derived.Test.YtabcdpddhmekkaaP10
set_option linter.all false
namespace Go.Proofs.Ytabcdpddhmekkaa.vm
open Go Go.RowKit Go.Vm
noncomputable def tmL (F:FV) (l:List S72) (s:List Int):List Int:=(List.range l.length).map (Tm (chOf F l fun q=>s.getD q 0) 30)
end Go.Proofs.Ytabcdpddhmekkaa.vm
