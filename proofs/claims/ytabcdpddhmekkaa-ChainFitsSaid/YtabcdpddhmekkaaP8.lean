-- Written for this claim by programs of this session (wip in its repo). Lean checks it.
import Derived.Test.YtabcdpddhmekkaaP7
set_option linter.all false
namespace Go.Proofs.Ytabcdpddhmekkaa.vm
open Go Go.RowKit Go.Vm
theorem chS_ok {F:FV} {l:List S72} (h:BkOk F l) (sm:Nat→Nat→Bool):(chS F l sm).Ok:=⟨(chOf_ok h fun _=>0).d0,(chOf_ok h fun _=>0).lk⟩
theorem chS_le {F:FV} {l:List S72} (h:BkOk F l) (sm:Nat→Nat→Bool) (u q:Nat):(chS F l sm).fr u q≤500*((q:Int)+1):=by
 have hok:=chS_ok h sm
 by_cases c:0≤(chS F l sm).fr u q
 ·exact Int.le_trans (Ch.fr_le hok u q c).2.2.2 (Ch.M_le hok (fun i=>(chOf_d h (fun _=>0) i).2) q)
 ·omega
theorem tab_le {F:FV} {l:List S72} (h:BkOk F l) (sm:Nat→Nat→Bool) (u i:Nat) (hi:i≤1000) (q:Nat):(tabF ((chS F l sm).stepF u) i).getD q 0≤1000000000:=by
 by_cases c:q<i
 ·rw [tab_get _ i q c]
  have:(chS F l sm).fr u q≤_:=chS_le h sm u q
  have:fixF ((chS F l sm).stepF u) q=(chS F l sm).fr u q:=rfl
  omega
 ·rw [List.getD_eq_getElem?_getD,List.getElem?_eq_none (by rw [tab_len];omega)]
  decide
theorem l31_out (k:Nat) (F:FV) (l:List S72) (h:BkOk F l) (s:List Int) (sm:Nat→Nat→Bool) (hs:SmOk l s sm) (u:Nat) (hk:1000≤k) :
  ∀ (m i:Nat),i≤l.length→l.length - i<m →
   l31_0 (k+43) m (u:Int) s l (i:Int) F.nm F.ws F.ar F.st F.rt F.bl (tabF ((chS F l sm).stepF u) i)=some ([.sl 0 0],[some (.row 0 0 3 (.int .i64) (tabF ((chS F l sm).stepF u) l.length))])
 | 0,_,_,h=>absurd h (by omega)
 | m+1,i,hi,hm=>by
  rw [l31_0_eq]
  have hlen:=h.len
  by_cases c:i<l.length
  ·generalize hT:tabF ((chS F l sm).stepF u) i=g
   have hg:g.length=i:=by rw [← hT,tab_len]
   have hgb:∀ q,g.getD q 0≤1000000000:=fun q=>by rw [← hT];exact tab_le h sm u i (by omega) q
   have ip:(0:Int)≤(i:Int):=by omega
   have ll:(i:Int)<(l.length:Int):=by omega
   obtain ⟨u0,u1,u3,u4,u5,e,hu⟩:=dZ_ok h.fo (h.ins i c)
   have e38:=hu.ref k
   have e37:=c37 (k+40) (l.getD i z72)
   have db:=hu.d
   have dd:(chS F l sm).d i=dZ F (l.getD i z72):=by show (if i<l.length then dZ F (l.getD i z72) else 0)=_;rw [if_pos c]
   have cc:(chS F l sm).cb i=combB (l.getD i z72).f0:=chOf_cb (F:=F) (s:=fun _=>0) c
   have fin:∀ a:Int,a=(if i=u∧(chS F l sm).cb i=true then (chS F l sm).d i else -1) →
     j31_0 (k+43) m (u:Int) s l (i:Int) F.nm F.ws F.ar F.st F.rt F.bl (g++[a])=some ([.sl 0 0],[some (.row 0 0 3 (.int .i64) (tabF ((chS F l sm).stepF u) l.length))]):=by
    intro a ha
    rw [j31_0_eq]
    have ab:a≤1000000000 ∧ -1≤a:=by rw [ha,dd];split <;> omega
    refine (l31_in k m F l h s sm hs (u:Int) i c g hg hgb a ab.1 ab.2 (k+43) 0 (by omega) (by omega)).trans ?_
    have et:g++[mx (fun q=>decide (0≤g.getD q 0)&&(chS F l sm).lk q i&&sm q i) (fun q=>g.getD q 0+(chS F l sm).d i) a i]=tabF ((chS F l sm).stepF u) (i+1):=by
     show _=tabF ((chS F l sm).stepF u) i++[_]
     rw [hT,ha];rfl
    rw [et]
    exact l31_out k F l h s sm hs u hk m (i+1) (by omega) (by omega)
   rw [if_pos ll]
   simp only [Int.toNat_natCast]
   unfold chk
   rw [if_pos (by simp only [List.length_cons,List.length_nil];omega)]
   by_cases eu:(i:Int)=(u:Int)
   ·have eu':i=u:=by omega
    rw [if_pos eu,if_pos ip,if_pos ll,e37,Option.bind_some,res37_eq]
    cases c1:combB (l.getD i z72).f0
    ·rw [if_neg (by simp)]
     exact fin _ (by rw [cc,c1,if_neg (fun hh=>absurd hh.2 (by simp))])
    ·have sl:∀ y,(g++[(-1:Int)]).set i y=g++[y]:=fun y=>by have:=set_last g (-1) y;rw [hg] at this;exact this
     rw [if_pos rfl,if_pos ip,if_pos ll,e38,Option.bind_some,res38_eq,if_pos ip,if_pos (by simp;omega),sl]
     exact fin _ (by rw [cc,c1,if_pos ⟨eu',rfl⟩,dd])
   ·rw [if_neg eu]
    exact fin _ (by rw [if_neg (fun hh=>eu (by omega))])
  ·rw [if_neg (by omega),show i=l.length from by omega]
theorem c31 (k:Nat) (F:FV) (b:Nat) (hb:b<F.bl.length) (h:BkOk F ((F.bl.getD b z53).f1)) (s:List Int) (sm:Nat→Nat→Bool) (hs:SmOk ((F.bl.getD b z53).f1) s sm) (u:Nat) (hk:1000≤k) :
  evF T (k+44) 31 [F.v,.int .i64 (b:Int),.int .i64 (u:Int),.vsl none (.int .i64) s] []=some ([.sl 0 0],[some (.row 0 0 3 (.int .i64) (tabF ((chS F ((F.bl.getD b z53).f1) sm).stepF u) ((F.bl.getD b z53).f1).length))]):=by
 refine (f31_eq (k+43) _ _ _ _ _ _ _ _ _).trans ?_
 rw [if_pos (by omega),if_pos (by omega),Int.toNat_natCast]
 have hlen:=h.len
 exact l31_out k F _ h s sm hs u hk (k+43) 0 (by omega) (by omega)
end Go.Proofs.Ytabcdpddhmekkaa.vm
