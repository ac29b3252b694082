-- Written for this claim by programs of this session (wip in its repo). Lean checks it.
import Derived.Test.YtabcdpddhmekkaaP21
set_option linter.all false
namespace Go.Proofs.Ytabcdpddhmekkaa.vm
open Go Go.RowKit Go.Vm
def rowA (fr:Nat→Nat→Int) (room:Int) (u:Nat):Nat→List S64
 | 0=>[]
 | v+1=>rowA fr room u v++if room<fr u v then [⟨(u:Int),(v:Int),1,0⟩] else []
def arcA (fr:Nat→Nat→Int) (room:Int) (n:Nat):Nat→List S64
 | 0=>[]
 | u+1=>arcA fr room n u++rowA fr room u n
theorem rowA_mem (fr:Nat→Nat→Int) (room:Int) (u:Nat) (x:S64):∀ v,x∈rowA fr room u v↔∃ w:Nat,w<v∧room<fr u w∧x=⟨(u:Int),(w:Int),1,0⟩
 | 0=>⟨fun h=>absurd h (by simp [rowA]),fun ⟨w,h,_⟩=>absurd h (by omega)⟩
 | v+1=>by
  unfold rowA
  rw [List.mem_append,rowA_mem fr room u x v]
  constructor
  ·rintro (⟨w,h1,h2⟩ | h)
   ·exact ⟨w,by omega,h2⟩
   ·by_cases c:room<fr u v
    ·rw [if_pos c,List.mem_singleton] at h;exact ⟨v,by omega,c,h⟩
    ·rw [if_neg c] at h;exact absurd h (by simp)
  ·rintro ⟨w,h1,h2,h3⟩
   by_cases e:w=v
   ·subst e;exact .inr (by rw [if_pos h2];simp [h3])
   ·exact .inl ⟨w,by omega,h2,h3⟩
theorem arcA_mem (fr:Nat→Nat→Int) (room:Int) (n:Nat) (x:S64):∀ m,x∈arcA fr room n m↔∃ u w:Nat,u<m∧w<n∧room<fr u w∧x=⟨(u:Int),(w:Int),1,0⟩
 | 0=>⟨fun h=>absurd h (by simp [arcA]),fun ⟨_,_,h,_⟩=>absurd h (by omega)⟩
 | m+1=>by
  unfold arcA
  rw [List.mem_append,arcA_mem fr room n x m,rowA_mem]
  constructor
  ·rintro (⟨u,w,h1,h2⟩ | ⟨w,h1,h2⟩)
   ·exact ⟨u,w,by omega,h2⟩
   ·exact ⟨m,w,by omega,h1,h2⟩
  ·rintro ⟨u,w,h1,h2,h3,h4⟩
   by_cases e:u=m
   ·subst e;exact .inr ⟨w,h2,h3,h4⟩
   ·exact .inl ⟨u,w,by omega,h2,h3,h4⟩
noncomputable def chA (F:FV) (l:List S72):Ch:=chS F l fun _ _=>true
noncomputable def arcZ (F:FV) (l:List S72) (P:Int):List S64:=arcA (chA F l).fr (P - 30 - endZ (szL F.bl)) l.length l.length
end Go.Proofs.Ytabcdpddhmekkaa.vm
