-- Written for this claim by programs of this session (wip in its repo). Lean checks it.
import Derived.Test.YtabcdpddhmekkaaM1
import Derived.Test.YtabcdpddhmekkaaM2
import Derived.Test.YtabcdpddhmekkaaP14
set_option linter.all false
namespace Go.Proofs.Ytabcdpddhmekkaa.vm
open Go Go.RowKit Go.Vm
def By (v:Int):Prop:=0≤v∧v≤255
structure SkIn (s0:List Int) (s1 s2:List S66) (s3:List Int) (s4:List S75):Prop where
 h0:∀ v∈s0,By v
 h1:∀ x∈s1,By x.f0∧By x.f1
 h2:∀ x∈s2,By x.f0∧By x.f1
 h3:∀ v∈s3,By v
 h4:∀ p∈s4,(∀ v∈p.f0,By v)∧(∀ x∈p.f1,By x.f0∧By x.f1∧By x.f2∧By x.f3∧By x.f4)∧By p.f2∧By p.f3∧By p.f4∧By p.f5
theorem mk_ok (k:Nat) {s0:List Int} {s1 s2:List S66} {s3:List Int} {s4:List S75} (h:SkIn s0 s1 s2 s3 s4) (hf:FewOk s0 s1 s2 s3 s4):∃ F,FnOk F∧evF T (k+1) 11 [skv s0 s1 s2 s3 s4] []=some ([F.v],[]):=by
 obtain ⟨f0,f1,f2,f3,f4,f5⟩:=hf
 obtain ⟨F,n,e,B,-⟩:=PAll.mkFunc_ok (l0:=s0) (l1:=s1.map i66) (l2:=s2.map i66) (l3:=s3) (l4:=s4.map i75) ⟨f0,h.h0⟩
  ⟨by rw [List.length_map];exact f1,fun x hx=>by obtain ⟨y,hy,rfl⟩:=List.mem_map.mp hx;exact ⟨(h.h1 y hy).1,(h.h1 y hy).2⟩⟩
  ⟨by rw [List.length_map];exact f2,fun x hx=>by obtain ⟨y,hy,rfl⟩:=List.mem_map.mp hx;exact ⟨(h.h2 y hy).1,(h.h2 y hy).2⟩⟩ ⟨f3,h.h3⟩
  ⟨by rw [List.length_map];exact f4,fun x hx=>by
   obtain ⟨y,hy,rfl⟩:=List.mem_map.mp hx
   obtain ⟨g0,g1,g2,g3,g4,g5⟩:=h.h4 y hy
   refine ⟨⟨(f5 y hy).1,g0⟩,⟨by show (y.f1.map i87).length≤14;rw [List.length_map];exact (f5 y hy).2,fun x hx=>?_⟩,g2,g3,g4,g5⟩
   obtain ⟨z,hz,rfl⟩:=List.mem_map.mp (show x∈y.f1.map i87 from hx)
   obtain ⟨q0,q1,q2,q3,q4⟩:=g1 z hz
   exact ⟨q0,q1,q2,q3,q4⟩⟩
 refine ⟨fvOf F,fv_ok B,?_⟩
 have e1:evF T (k+1) 11 [skv s0 s1 s2 s3 s4] []=xFunc [skv s0 s1 s2 s3 s4] []:=by kernel_rfl
 rw [e1]
 show (if fewB s0 s1 s2 s3 s4=true then _ else _)=_
 rw [if_pos (fewB_ok.2 ⟨f0,f1,f2,f3,f4,f5⟩),e]
 rfl
end Go.Proofs.Ytabcdpddhmekkaa.vm
