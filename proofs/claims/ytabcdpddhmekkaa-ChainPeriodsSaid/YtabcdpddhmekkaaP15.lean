-- Written for this claim by programs of this session (wip in its repo). Lean checks it.
import Derived.Test.YtabcdpddhmekkaaP14
set_option linter.all false
namespace Go.Proofs.Ytabcdpddhmekkaa.vm
open Go Go.RowKit Go.Vm
def fm:Int→List Int→Int
 | a,[]=>a
 | a,x::l=>fm (if a<x then x else a) l
theorem fm_ge:∀ (l:List Int) (a:Int),a≤fm a l∧∀ x∈l,x≤fm a l
 | [],a=>⟨Int.le_refl _,fun x h=>absurd h (by simp)⟩
 | y::l,a=>by
  obtain ⟨h1,h2⟩:=fm_ge l (if a<y then y else a)
  unfold fm
  refine ⟨?_,fun x hx=>?_⟩
  ·split at h1 <;> split <;> omega
  ·rcases List.mem_cons.mp hx with rfl | hx
   ·split at h1 <;> split <;> omega
   ·exact h2 x hx
theorem fm_mem:∀ (l:List Int) (a:Int),fm a l=a∨fm a l∈l
 | [],a=>.inl rfl
 | y::l,a=>by
  unfold fm
  rcases fm_mem l (if a<y then y else a) with h | h
  ·rw [h];split
   ·exact .inr (by simp)
   ·exact .inl rfl
  ·exact .inr (List.mem_cons_of_mem _ h)
noncomputable def lgZ (F:FV) (l:List S72) (s:List Int):Int:=fm 30 (tmL F l s)+endZ (szL F.bl)
theorem end_ok {F:FV} (h:FnOk F):300≤endZ (szL F.bl)∧endZ (szL F.bl)≤600∧320≤frzZ (szL F.bl)∧frzZ (szL F.bl)≤1000:=by
 have:=lvZ_ok h.sz.1 h.sz.2
 unfold endZ frzZ;omega
end Go.Proofs.Ytabcdpddhmekkaa.vm
