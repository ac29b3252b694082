-- Written for this claim by programs of this session (wip in its repo). Lean checks it.
import Derived.Test.YtabcdpddhmekkaaP6
set_option linter.all false
namespace Go.Proofs.Ytabcdpddhmekkaa.vm
open Go Go.RowKit Go.Vm
noncomputable def chS (F:FV) (l:List S72) (sm:Nat→Nat→Bool):Ch:={ chOf F l (fun _=>0) with sm:=sm }
def SmOk (l:List S72) (s:List Int) (sm:Nat→Nat→Bool):Prop:=((s.length:Int)=0∧∀ j i,sm j i=true)∨(s.length=l.length∧l.length≠0∧∀ j i,sm j i=decide (s.getD j 0=s.getD i 0))
theorem set_last (g:List Int) (a y:Int):(g++[a]).set g.length y=g++[y]:=by
 rw [List.set_append_right _ _ (Nat.le_refl _)];simp
theorem l31_in (k m0:Nat) (F:FV) (l:List S72) (h:BkOk F l) (s:List Int) (sm:Nat→Nat→Bool) (hs:SmOk l s sm) (u:Int) (i:Nat) (hi:i<l.length) (g:List Int) (hg:g.length=i) (hgb:∀ q,g.getD q 0≤1000000000) (a:Int) (ha:a≤1000000000) (ha0 : -1≤a) :
  ∀ (m j:Nat),j≤i→i - j<m →
   l31_1 (k+43) m0 m u s l (i:Int) (j:Int) F.nm F.ws F.ar F.st F.rt F.bl (g++[mx (fun q=>decide (0≤g.getD q 0)&&(chS F l sm).lk q i&&sm q i) (fun q=>g.getD q 0+(chS F l sm).d i) a j]) =
    l31_0 (k+43) m0 u s l ((i+1:Nat):Int) F.nm F.ws F.ar F.st F.rt F.bl (g++[mx (fun q=>decide (0≤g.getD q 0)&&(chS F l sm).lk q i&&sm q i) (fun q=>g.getD q 0+(chS F l sm).d i) a i])
 | 0,_,_,h=>absurd h (by omega)
 | m+1,j,hj,hm=>by
  rw [l31_1_eq]
  have hlen:=h.len
  have ip:(0:Int)≤(i:Int):=by omega
  have jp:(0:Int)≤(j:Int):=by omega
  by_cases c:j<i
  ·generalize hA:mx (fun q=>decide (0≤g.getD q 0)&&(chS F l sm).lk q i&&sm q i) (fun q=>g.getD q 0+(chS F l sm).d i) a j=A
   have L:(g++[A]).length=i+1:=by simp [hg]
   have GJ:(g++[A]).getD j 0=g.getD j 0:=getD_app_lt g A 0 (by omega)
   have GI:(g++[A]).getD i 0=A:=by have:=getD_app g A (0:Int);rw [hg] at this;exact this
   have SI:∀ y,(g++[A]).set i y=g++[y]:=fun y=>by have:=set_last g A y;rw [hg] at this;exact this
   have iL:(i:Int)<((g++[A]).length:Int):=by omega
   have jL:(j:Int)<((g++[A]).length:Int):=by omega
   have iN:i<(g++[A]).length:=by omega
   have jN:j<(g++[A]).length:=by omega
   have ll:(i:Int)<(l.length:Int):=by omega
   have jl:(j:Int)<(l.length:Int):=by omega
   have e27:=c27 (k+29) (l.getD j z72) (l.getD i z72) (h.args i hi)
   obtain ⟨u0,u1,u3,u4,u5,e,hu⟩:=dZ_ok h.fo (h.ins i hi)
   have e38:=hu.ref k
   have dd:(chS F l sm).d i=dZ F (l.getD i z72):=by show (if i<l.length then dZ F (l.getD i z72) else 0)=_;rw [if_pos hi]
   have db:=hu.d
   have go:=l31_in k m0 F l h s sm hs u i hi g hg hgb a ha ha0 m (j+1) (by omega) (by omega)
   have lk:(chS F l sm).lk j i=lkB (l.getD j z72) (l.getD i z72):=by show (decide (j<i∧i<l.length)&&_)=_;rw [decide_eq_true ⟨c,hi⟩,Bool.true_and]
   have st:mx (fun q=>decide (0≤g.getD q 0)&&(chS F l sm).lk q i&&sm q i) (fun q=>g.getD q 0+(chS F l sm).d i) a (j+1)=if (decide (0≤g.getD j 0)&&lkB (l.getD j z72) (l.getD i z72)&&sm j i)=true then max A (g.getD j 0+dZ F (l.getD i z72)) else A:=by
    rw [← hA,← lk,← dd];rfl
   rw [st] at go
   have mxe:∀ w:Int,(if A<w then w else A)=max A w:=fun w=>by split <;> omega
   rw [if_pos (by omega)]
   simp only [Int.toNat_natCast]
   rw [if_pos jp,if_pos jL,if_pos jN,GJ,w64 (x:=(j:Int)+1) (by omega) (by omega),show (j:Int)+1=((j+1:Nat):Int) from rfl]
   by_cases c0:g.getD j 0≥0
   ·have c0':(0:Int)≤g.getD j 0:=c0
    rw [if_pos c0,if_pos jp,if_pos jl,if_pos ip,if_pos ll,e27,Option.bind_some,res27_eq]
    rw [decide_eq_true c0',Bool.true_and] at go
    cases c1:lkB (l.getD j z72) (l.getD i z72)
    ·rw [c1,Bool.false_and,if_neg (by simp)] at go
     rw [if_neg (by simp)];exact go
    ·rw [c1,Bool.true_and] at go
     rw [if_pos rfl]
     rcases hs with ⟨s0,hsm⟩ | ⟨s1,s2,hsm⟩
     ·rw [hsm,if_pos rfl] at go
      rw [if_pos s0,if_pos ip,if_pos iL,if_pos iN,if_pos jp,if_pos jL,if_pos jN,if_pos ip,if_pos ll,e38,Option.bind_some,res38_eq,if_pos ip,if_pos iL,GI,SI,w64 (x:=g.getD j 0+dZ F (l.getD i z72)) (by have:=hgb j;omega) (by have:=hgb j;omega),mxe]
      exact go
     ·rw [hsm] at go
      rw [if_neg (by omega),if_pos jp,if_pos (by omega),if_pos ip,if_pos (by omega)]
      by_cases c2:s.getD j 0=s.getD i 0
      ·rw [decide_eq_true c2,if_pos rfl] at go
       rw [if_pos c2,if_pos ip,if_pos iL,if_pos iN,if_pos jp,if_pos jL,if_pos jN,if_pos ip,if_pos ll,e38,Option.bind_some,res38_eq,if_pos ip,if_pos iL,GI,SI,w64 (x:=g.getD j 0+dZ F (l.getD i z72)) (by have:=hgb j;omega) (by have:=hgb j;omega),mxe]
       exact go
      ·rw [decide_eq_false c2,if_neg (by simp)] at go
       rw [if_neg c2];exact go
   ·rw [decide_eq_false c0,Bool.false_and,Bool.false_and,if_neg (by simp)] at go
    rw [if_neg c0];exact go
  ·rw [if_neg (by omega),show j=i from by omega,w64 (x:=(i:Int)+1) (by omega) (by omega)]
   rfl
end Go.Proofs.Ytabcdpddhmekkaa.vm
