-- Written for this claim by programs of this session (wip in its repo). Lean checks it.
import Derived.Test.YtabcdpddhmekkaaP7
set_option linter.all false
namespace Go.Proofs.Ytabcdpddhmekkaa.vm
open Go Go.RowKit Go.Vm
theorem chS_ok {F:FV} {l:List S72} (h:BkOk F l) (sm:Nat→Nat→Bool):(chS F l sm).Ok:=⟨(chOf_ok h fun _=>0).d0,(chOf_ok h fun _=>0).lk⟩
theorem chS_le {F:FV} {l:List S72} (h:BkOk F l) (sm:Nat→Nat→Bool) (u q:Nat):(chS F l sm).fr u q≤500*((q:Int)+1):=by
 have hok:=chS_ok h sm
 by_cases c:0≤(chS F l sm).fr u q
 ·exact Int.le_trans (Ch.fr_le hok u q c).2.2.2 (Ch.M_le hok (fun i=>(chOf_d h (fun _=>0) i).2) q)
 ·omega
end Go.Proofs.Ytabcdpddhmekkaa.vm
