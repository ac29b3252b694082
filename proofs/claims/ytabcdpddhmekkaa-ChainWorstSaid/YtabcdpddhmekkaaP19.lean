-- Written for this claim by programs of this session (wip in its repo). Lean checks it.
import Derived.Test.YtabcdpddhmekkaaP18
set_option linter.all false
namespace Go.Proofs.Ytabcdpddhmekkaa.vm
open Go Go.RowKit Go.Vm
theorem castL_len (st:List Nat):(castL st).length=st.length:=by simp [castL]
theorem castL_get (st:List Nat) {i:Nat} (h:i<st.length):(castL st).getD i 0=((st.getD i 0:Nat):Int):=by
 unfold castL
 rw [List.getD_eq_getElem?_getD,List.getD_eq_getElem?_getD,List.getElem?_map,List.getElem?_eq_getElem h];rfl
theorem chOf_cb' {F:FV} {l:List S72} {s:Nat→Int} {i:Nat} (h:(chOf F l s).cb i=true):i<l.length∧combB (l.getD i z72).f0=true:=by
 have h:(decide (i<l.length)&&combB (l.getD i z72).f0)=true:=h
 rw [Bool.and_eq_true,decide_eq_true_eq] at h
 exact h
theorem l18_out (k:Nat) (F:FV) (l:List S72) (h:BkOk F l) (s:List Int) (hsl:s.length=l.length) (st:List Nat) (hst:st.length≤1000) (f:FwdOk (chOf F l fun q=>s.getD q 0) st) (E D:Int) (hE:0≤E∧E≤1000) :
  ∀ (m i:Nat),i≤st.length→st.length - i<m →
   l18_0 (k+43) m s (30+E+sumTo (chOf F l fun q=>s.getD q 0) st i) l (i:Int) F.nm F.ws F.ar F.st F.rt F.bl D (castL st)=some ([.bool (decide (D=30+E+sumTo (chOf F l fun q=>s.getD q 0) st st.length))],[])
 | 0,_,_,h=>absurd h (by omega)
 | m+1,i,hi,hm=>by
  rw [l18_0_eq]
  have hlen:=h.len
  have lc:=castL_len st
  have ok:=chOf_ok h (fun q=>s.getD q 0)
  have sb:=sumTo_le ok (fun i=>(chOf_d h (fun q=>s.getD q 0) i).2) st
  by_cases c:i<st.length
  ·obtain ⟨yl,yc⟩:=chOf_cb' (f.cb i c)
   have eg:=castL_get st c
   have step:=l18_out k F l h s hsl st hst f E D hE m (i+1) (by omega) (by omega)
   have es:sumTo (chOf F l fun q=>s.getD q 0) st (i+1)=sumTo (chOf F l fun q=>s.getD q 0) st i+(chOf F l fun q=>s.getD q 0).d (st.getD i 0):=rfl
   have ed:(chOf F l fun q=>s.getD q 0).d (st.getD i 0)=dZ F (l.getD (st.getD i 0) z72):=by show (if st.getD i 0<l.length then dZ F (l.getD (st.getD i 0) z72) else 0)=_;rw [if_pos yl]
   have s0:=sb i
   have s1:=sb (i+1)
   rw [es,ed] at step s1
   have lkf:0<i→((st.getD (i - 1) 0:Nat):Int)<(l.length:Int)∧lkB (l.getD (st.getD (i - 1) 0) z72) (l.getD (st.getD i 0) z72)=true∧s.getD (st.getD i 0) 0=s.getD (st.getD (i - 1) 0) 0:=fun i0=>by
    obtain ⟨a,b⟩:=f.lk (i - 1) (by omega)
    rw [show i - 1+1=i from by omega] at a b
    obtain ⟨a1,a2,a3,a4,a5⟩:=chOf_lk.1 a
    refine ⟨by omega,by unfold lkB;rw [a3,a4,decide_eq_true a5];rfl,?_⟩
    have b:decide (s.getD (st.getD (i - 1) 0) 0=s.getD (st.getD i 0) 0)=true:=b
    exact (of_decide_eq_true b).symm
   have egp:0<i→(castL st).getD (i - 1) 0=((st.getD (i - 1) 0:Nat):Int):=fun i0=>castL_get st (by omega)
   generalize st.getD i 0=y at yl yc eg step s1 lkf
   generalize st.getD (i - 1) 0=yp at lkf egp
   obtain ⟨u0,u1,u3,u4,u5,e,hu⟩:=dZ_ok h.fo (h.ins y yl)
   have e38:=hu.ref k
   have e37:=c37 (k+40) (l.getD y z72)
   have e27:=c27 (k+29) (l.getD yp z72) (l.getD y z72) (h.args y yl)
   have c0:(i:Int)<((castL st).length:Int):=by omega
   have ip:(0:Int)≤(i:Int):=by omega
   have yp0:(0:Int)≤(y:Int):=by omega
   have yL:(y:Int)<(l.length:Int):=by omega
   have yS:(y:Int)<(s.length:Int):=by omega
   rw [if_pos c0,if_pos ip,if_pos c0,Int.toNat_natCast,eg,if_neg (by omega),if_neg (by omega),if_pos yp0,if_pos yL,Int.toNat_natCast,e37,Option.bind_some,res37_eq,yc,if_neg (by simp)]
   by_cases i0:0<i
   ·obtain ⟨pl,ll,sl⟩:=lkf i0
    have egp:=egp i0
    have pi:wrap64 ((i:Int) - 1)=((i - 1:Nat):Int):=by rw [w64 (by omega) (by omega)];omega
    have c1:((i - 1:Nat):Int)<((castL st).length:Int):=by omega
    have ip1:(0:Int)≤((i - 1:Nat):Int):=by omega
    have pp0:(0:Int)≤(yp:Int):=by omega
    have pS:(yp:Int)<(s.length:Int):=by omega
    rw [if_pos (by omega),pi,if_pos ip1,if_pos c1,Int.toNat_natCast,egp,if_pos pp0,if_pos pl,if_pos yp0,if_pos yL,Int.toNat_natCast,e27,Option.bind_some,res27_eq,ll,if_neg (by simp),if_pos yp0,if_pos yS,if_pos ip1,if_pos c1,if_pos pp0,if_pos pS,if_neg (fun hh=>hh sl),if_pos yp0,if_pos yL,e38,Option.bind_some,res38_eq,w64 (by omega) (by omega),w64 (x:=(i:Int)+1) (by omega) (by omega)]
    rw [← Int.add_assoc] at step
    exact step
   ·rw [if_neg (by omega),if_pos yp0,if_pos yL,e38,Option.bind_some,res38_eq,w64 (by omega) (by omega),w64 (x:=(i:Int)+1) (by omega) (by omega)]
    rw [← Int.add_assoc] at step
    exact step
  ·rw [if_neg (by omega),show i=st.length from by omega]
theorem c18 {F:FV} (h:FnOk F) {b:Nat} (hb:b<F.bl.length) (s:List Int) (hs:s.length=((F.bl.getD b z53).f1).length) (st:List Nat) (hst:st.length≤1000) (f:FwdOk (chOf F ((F.bl.getD b z53).f1) fun q=>s.getD q 0) st) (D:Int) (k:Nat) (hk:2000≤k) :
  evF T (k+44) 18 [F.v,.int .i64 (b:Int),.vsl none (.int .i64) s,.agg [.int .i64 D,.vsl none (.int .i64) (castL st)]] []=some ([.bool (decide (D=30+endZ (szL F.bl)+sumTo (chOf F ((F.bl.getD b z53).f1) fun q=>s.getD q 0) st st.length))],[]):=by
 have e17:=c17 h k
 have he:=end_ok h
 refine (f18_eq (k+43) _ _ _ _ _ _ _ _ _ _).trans ?_
 rw [e17,Option.bind_some,res17_eq,if_pos (by omega),if_pos (by omega),Int.toNat_natCast,w64 (by omega) (by omega)]
 have:=l18_out k F _ (h.bk b hb) s hs st hst f (endZ (szL F.bl)) D (by omega) (k+43) 0 (by omega) (by omega)
 rw [show sumTo (chOf F ((F.bl.getD b z53).f1) fun q=>s.getD q 0) st 0=0 from rfl,Int.add_zero] at this
 exact this
end Go.Proofs.Ytabcdpddhmekkaa.vm
