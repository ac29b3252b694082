-- Written for this claim by programs of this session (wip in its repo). Lean checks it.
import Derived.Test.YtabcdpddhmekkaaP16
set_option linter.all false
namespace Go.Proofs.Ytabcdpddhmekkaa.vm
open Go Go.RowKit Go.Vm
def Back (X:Ch):Nat→List Nat→Prop
 | q,[]=>X.cb q=true∧X.M q=X.d q∧∀ k,X.lk k q=true→X.sm k q=false
 | q,p::l=>X.cb q=true∧X.lk p q=true∧X.sm p q=true∧X.M q=X.M p+X.d q∧Back X p l
end Go.Proofs.Ytabcdpddhmekkaa.vm
