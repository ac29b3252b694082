-- Written for this claim by programs of this session (wip in its repo). Lean checks it.
import Derived.Test.YtabcdpddhmekkaaP13
set_option linter.all false
namespace Go.Proofs.Ytabcdpddhmekkaa.vm
open Go Go.RowKit Go.Vm
@[reducible] def skv (s0:List Int) (s1 s2:List S66) (s3:List Int) (s4:List S75):PV N:=.agg [.vsl none (.int .u8) s0,.vsl none (.named 66) s1,.vsl none (.named 66) s2,.vsl none (.int .u8) s3,.vsl none (.named 75) s4]
def FewOk (s0:List Int) (s1 s2:List S66) (s3:List Int) (s4:List S75):Prop:=
 s0.length≤4∧s1.length≤3∧s2.length≤4∧s3.length≤3∧s4.length≤5∧∀ p∈s4,p.f0.length≤5∧p.f1.length≤14
theorem l10_ok (k:Nat) (s0:List Int) (s1 s2:List S66) (s3:List Int) (s4:List S75) (h4:s4.length<4000000000000):∀ (m i:Nat),i≤s4.length→s4.length - i<m →
  (∀ q,q<i→(s4.getD q z75).f0.length≤5∧(s4.getD q z75).f1.length≤14) →
  ∃ B:Bool,l10_0 k m (i:Int) s0 s1 s2 s3 s4=some ([.bool B],[])∧(B=true→FewOk s0 s1 s2 s3 s4)
 | 0,_,_,h,_=>absurd h (by omega)
 | m+1,i,hi,hm,hq=>by
  rw [l10_0_eq]
  by_cases c:i<s4.length
  ·rw [if_pos (by omega),if_pos (by omega),if_pos (by omega),Int.toNat_natCast]
   by_cases c1:((s4.getD i z75).f0.length:Int)>5
   ·rw [if_pos c1];exact ⟨false,rfl,fun h=>absurd h (by simp)⟩
   ·rw [if_neg c1,if_pos (by omega),if_pos (by omega)]
    by_cases c2:((s4.getD i z75).f1.length:Int)>14
    ·rw [if_pos c2];exact ⟨false,rfl,fun h=>absurd h (by simp)⟩
    ·rw [if_neg c2,w64 (x:=(i:Int)+1) (by omega) (by omega)]
     refine l10_ok k s0 s1 s2 s3 s4 h4 m (i+1) (by omega) (by omega) fun q hqi=>?_
     by_cases e:q=i
     ·subst e;omega
     ·exact hq q (by omega)
  ·rw [if_neg (by omega)]
   by_cases a0:(s0.length:Int)≤4
   ·rw [if_pos a0]
    by_cases a1:(s1.length:Int)≤3
    ·rw [if_pos a1]
     by_cases a2:(s2.length:Int)≤4
     ·rw [if_pos a2]
      by_cases a3:(s3.length:Int)≤3
      ·rw [if_pos a3]
       refine ⟨_,rfl,fun h=>⟨by omega,by omega,by omega,by omega,by have:=of_decide_eq_true h;omega,fun p hp=>?_⟩⟩
       obtain ⟨q,hq1,rfl⟩:=List.mem_iff_getElem.mp hp
       have:=hq q (by omega)
       rw [List.getD_eq_getElem?_getD,List.getElem?_eq_getElem hq1] at this
       exact this
      ·rw [if_neg a3];exact ⟨false,rfl,fun h=>absurd h (by simp)⟩
     ·rw [if_neg a2];exact ⟨false,rfl,fun h=>absurd h (by simp)⟩
    ·rw [if_neg a1];exact ⟨false,rfl,fun h=>absurd h (by simp)⟩
   ·rw [if_neg a0];exact ⟨false,rfl,fun h=>absurd h (by simp)⟩
theorem c12 (k:Nat) {F:FV} (h:FnOk F) (a:Int) (h0:0≤a) (h1:a≤255):∃ b:Nat,b<F.bl.length∧evF T (k+1) 12 [F.v,.int .u8 a] []=some ([.int .i64 (b:Int)],[]):=by
 have hn:=h.n1
 have e1:(wrap64 a).tmod (F.bl.length:Int)=a % (F.bl.length:Int):=by rw [w64 (by omega) (by omega)];exact Int.tmod_eq_emod_of_nonneg h0
 have m0:=Int.emod_nonneg a (show (F.bl.length:Int)≠0 by omega)
 have m1:=Int.emod_lt_of_pos a (show (0:Int)<(F.bl.length:Int) by omega)
 refine ⟨(a % (F.bl.length:Int)).toNat,by omega,?_⟩
 refine (f12_eq k _ _ _ _ _ _ _).trans ?_
 rw [if_neg (by omega),e1,Int.toNat_of_nonneg m0]
end Go.Proofs.Ytabcdpddhmekkaa.vm
