-- Written for this claim by programs of this session (wip in its repo). Lean checks it.
import Derived.Test.YtabcdpddhmekkaaP13
set_option linter.all false
namespace Go.Proofs.Ytabcdpddhmekkaa.vm
open Go Go.RowKit Go.Vm
theorem l3_ok (k:Nat) {F:FV} {b:Nat} (hb:b<F.bl.length) (r1 x10:List Int) (hr:r1.length=((F.bl.getD b z53).f1).length) (h1:r1.length<100000) (hx:x10.length<100000) :
  ∀ (m i:Nat),i≤x10.length→x10.length - i<m →
   l3_0 (k+2) m (b:Int) x10 x10 (x10.length:Int) (i:Int) F.nm F.ws F.ar F.st F.rt F.bl r1=some ([.bool true],[])
 | 0,_,_,h=>absurd h (by omega)
 | m+1,i,hi,hm=>by
  rw [l3_0_eq]
  by_cases c:i<x10.length
  ·rw [if_pos (by omega),if_pos (by omega),if_pos (by omega),if_pos (by omega),if_pos (by omega),if_neg (fun h=>h rfl),w64 (x:=(i:Int)+1) (by omega) (by omega)]
   exact l3_ok k hb r1 x10 hr h1 hx m (i+1) (by omega) (by omega)
  ·have e1:=c14_no F (b:Int) (r1++[0]) (fun h=>by
    have h3:=h.2.2
    rw [Int.toNat_natCast,List.length_append,← hr] at h3
    exact absurd h3 (by show ¬ r1.length+1=r1.length;omega)) k
   have e2:=c14_no F (F.bl.length:Int) r1 (fun h=>by have:=h.2.1;omega) k
   rw [if_neg (by omega)]
   unfold chk
   rw [if_pos (by simp only [List.length_cons,List.length_nil];omega),e1,Option.bind_some,res14_eq,if_pos (show ((([]:List Int).length:Nat):Int)=0 from rfl),e2,Option.bind_some,res14_eq]
   rfl
@[reducible] def skv (s0:List Int) (s1 s2:List S66) (s3:List Int) (s4:List S75):PV N:=.agg [.vsl none (.int .u8) s0,.vsl none (.named 66) s1,.vsl none (.named 66) s2,.vsl none (.int .u8) s3,.vsl none (.named 75) s4]
def FewOk (s0:List Int) (s1 s2:List S66) (s3:List Int) (s4:List S75):Prop:=
 s0.length≤4∧s1.length≤3∧s2.length≤4∧s3.length≤3∧s4.length≤5∧∀ p∈s4,p.f0.length≤5∧p.f1.length≤14
theorem l10_ok (k:Nat) (s0:List Int) (s1 s2:List S66) (s3:List Int) (s4:List S75) (h4:s4.length<4000000000000):∀ (m i:Nat),i≤s4.length→s4.length - i<m →
  (∀ q,q<i→(s4.getD q z75).f0.length≤5∧(s4.getD q z75).f1.length≤14) →
  ∃ B:Bool,l10_0 k m (i:Int) s0 s1 s2 s3 s4=some ([.bool B],[])∧(B=true→FewOk s0 s1 s2 s3 s4)
 | 0,_,_,h,_=>absurd h (by omega)
 | m+1,i,hi,hm,hq=>by
  rw [l10_0_eq]
  by_cases c:i<s4.length
  ·rw [if_pos (by omega),if_pos (by omega),if_pos (by omega),Int.toNat_natCast]
   by_cases c1:((s4.getD i z75).f0.length:Int)>5
   ·rw [if_pos c1];exact ⟨false,rfl,fun h=>absurd h (by simp)⟩
   ·rw [if_neg c1,if_pos (by omega),if_pos (by omega)]
    by_cases c2:((s4.getD i z75).f1.length:Int)>14
    ·rw [if_pos c2];exact ⟨false,rfl,fun h=>absurd h (by simp)⟩
    ·rw [if_neg c2,w64 (x:=(i:Int)+1) (by omega) (by omega)]
     refine l10_ok k s0 s1 s2 s3 s4 h4 m (i+1) (by omega) (by omega) fun q hqi=>?_
     by_cases e:q=i
     ·subst e;omega
     ·exact hq q (by omega)
  ·rw [if_neg (by omega)]
   by_cases a0:(s0.length:Int)≤4
   ·rw [if_pos a0]
    by_cases a1:(s1.length:Int)≤3
    ·rw [if_pos a1]
     by_cases a2:(s2.length:Int)≤4
     ·rw [if_pos a2]
      by_cases a3:(s3.length:Int)≤3
      ·rw [if_pos a3]
       refine ⟨_,rfl,fun h=>⟨by omega,by omega,by omega,by omega,by have:=of_decide_eq_true h;omega,fun p hp=>?_⟩⟩
       obtain ⟨q,hq1,rfl⟩:=List.mem_iff_getElem.mp hp
       have:=hq q (by omega)
       rw [List.getD_eq_getElem?_getD,List.getElem?_eq_getElem hq1] at this
       exact this
      ·rw [if_neg a3];exact ⟨false,rfl,fun h=>absurd h (by simp)⟩
     ·rw [if_neg a2];exact ⟨false,rfl,fun h=>absurd h (by simp)⟩
    ·rw [if_neg a1];exact ⟨false,rfl,fun h=>absurd h (by simp)⟩
   ·rw [if_neg a0];exact ⟨false,rfl,fun h=>absurd h (by simp)⟩
theorem c12 (k:Nat) {F:FV} (h:FnOk F) (a:Int) (h0:0≤a) (h1:a≤255):∃ b:Nat,b<F.bl.length∧evF T (k+1) 12 [F.v,.int .u8 a] []=some ([.int .i64 (b:Int)],[]):=by
 have hn:=h.n1
 have e1:(wrap64 a).tmod (F.bl.length:Int)=a % (F.bl.length:Int):=by rw [w64 (by omega) (by omega)];exact Int.tmod_eq_emod_of_nonneg h0
 have m0:=Int.emod_nonneg a (show (F.bl.length:Int)≠0 by omega)
 have m1:=Int.emod_lt_of_pos a (show (0:Int)<(F.bl.length:Int) by omega)
 refine ⟨(a % (F.bl.length:Int)).toNat,by omega,?_⟩
 refine (f12_eq k _ _ _ _ _ _ _).trans ?_
 rw [if_neg (by omega),e1,Int.toNat_of_nonneg m0]
theorem arrivals_true (k:Nat) (s0:List Int) (s1 s2:List S66) (s3:List Int) (s4:List S75) (a:Int) (h0:0≤a) (h1:a≤255) (more:List Int) (hx:∀ v∈more,0≤v∧v≤255) (h4:s4.length<4000000000000) (hk:3000+s4.length≤k)
  (mk:FewOk s0 s1 s2 s3 s4→∃ F,FnOk F∧evF T k 11 [skv s0 s1 s2 s3 s4] []=some ([F.v],[])) :
  evF T (k+1) 3 [skv s0 s1 s2 s3 s4,.int .u8 a,.vsl none (.int .u8) more] []=some ([.bool true],[]):=by
 refine (f3_eq k _ _ _ _ _ _ _).trans ?_
 obtain ⟨j,rfl⟩:∃ j,k=j+60:=⟨k - 60,by omega⟩
 rw [awake j,Option.bind_some,res9_eq,if_neg (by simp)]
 obtain ⟨B,eB,hB⟩:=l10_ok (j+59) s0 s1 s2 s3 s4 h4 (j+59) 0 (by omega) (by omega) (fun q hq=>absurd hq (by omega))
 have e10:evF T (j+60) 10 [skv s0 s1 s2 s3 s4] []=some ([.bool B],[]):=(f10_eq (j+59) _ _ _ _ _).trans eB
 rw [e10,Option.bind_some,res10_eq]
 cases B
 ·rw [if_pos (show (!false)=true from rfl),Option.bind_some,res9_eq]
 ·rw [if_neg (by simp)]
  obtain ⟨F,hF,e11⟩:=mk (hB rfl)
  obtain ⟨b,hb,e12⟩:=c12 (j+59) hF a h0 h1
  obtain ⟨st,e13,l13,b13,_⟩:=c13 (j+45) hF hb more hx (by omega)
  have e14:=c14 hF hb st l13 (j+15) (by omega)
  have e15:=c15 hF hb st l13 (j+15) (by omega)
  have hlen:=(hF.bk b hb).len
  rw [e11,Option.bind_some,res11_eq,e12,Option.bind_some,res12_eq,e13,Option.bind_some,res13_eq,e14,Option.bind_some,res14_eq,e15,Option.bind_some,res15_eq,if_neg (fun h=>h rfl)]
  have lt:(tmL F ((F.bl.getD b z53).f1) st).length=((F.bl.getD b z53).f1).length:=by simp [tmL]
  exact l3_ok (j+58) hb st (tmL F ((F.bl.getD b z53).f1) st) l13 (by omega) (by omega) (j+60) 0 (by omega) (by omega)
end Go.Proofs.Ytabcdpddhmekkaa.vm
