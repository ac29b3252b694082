-- Written for this claim by programs of this session (wip in its repo). Lean checks it.
import Derived.Test.YtabcdpddhmekkaaP17
set_option linter.all false
namespace Go.Proofs.Ytabcdpddhmekkaa.vm
open Go Go.RowKit Go.Vm
structure FwdOk (X:Ch) (st:List Nat):Prop where
 cb:∀ i,i<st.length→X.cb (st.getD i 0)=true
 lk:∀ i,i+1<st.length→X.lk (st.getD i 0) (st.getD (i+1) 0)=true∧X.sm (st.getD i 0) (st.getD (i+1) 0)=true
def castL (st:List Nat):List Int:=st.map fun w:Nat=>(w:Int)
end Go.Proofs.Ytabcdpddhmekkaa.vm
