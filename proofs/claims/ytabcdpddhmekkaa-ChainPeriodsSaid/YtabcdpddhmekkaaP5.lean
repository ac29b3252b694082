-- Written for this claim by programs of this session (wip in its repo). Lean checks it.
import Derived.Test.YtabcdpddhmekkaaP4
set_option linter.all false
namespace Go.Proofs.Ytabcdpddhmekkaa.vm
open Go Go.RowKit Go.Vm
theorem set_same {l:List Int} {i:Nat} (x:Int) (h:i<l.length):(l.set i x).getD i 0=x:=by
 rw [List.getD_eq_getElem?_getD,List.getElem?_set_self h];rfl
theorem set_other {l:List Int} {i k:Nat} (x:Int) (h:k≠i):(l.set i x).getD k 0=l.getD k 0:=by
 rw [List.getD_eq_getElem?_getD,List.getElem?_set_ne (Ne.symm h),← List.getD_eq_getElem?_getD]
end Go.Proofs.Ytabcdpddhmekkaa.vm
