-- Written for this claim by programs of this session (wip in its repo). Lean checks it.
import Derived.Test.YtabcdpddhmekkaaP11
set_option linter.all false
namespace Go.Proofs.Ytabcdpddhmekkaa.vm
open Go Go.RowKit Go.Vm
theorem l13_in (k m0:Nat) (F:FV) (l:List S72) (h:BkOk F l) (x2:List Int) (hx:∀ v∈x2,0≤v∧v≤255) (i:Nat) (hi:i<l.length) (r0:List Int) (h0:r0.length=i) (hb:∀ q,q<i→0≤r0.getD q 0∧r0.getD q 0≤3*(i:Int)) :
  ∀ (m j:Nat) (t:Int),j≤i→i - j<m→0≤t∧t≤3*(i:Int) →
   ∃ v:Int,l13_1 (k+14) m0 m x2 l (i:Int) t (j:Int) r0=l13_0 (k+14) m0 x2 l ((i+1:Nat):Int) (r0++[v])∧t≤v∧v≤3*((i:Int)+1)∧∀ q,j≤q→q<i→lkB (l.getD q z72) (l.getD i z72)=true→r0.getD q 0≤v
 | 0,_,_,_,h,_=>absurd h (by omega)
 | m+1,j,t,hj,hm,ht=>by
  rw [l13_1_eq]
  have hlen:=h.len
  by_cases c:j<i
  ·have e27:=c27 k (l.getD j z72) (l.getD i z72) (h.args i hi)
   simp only [Int.toNat_natCast]
   rw [if_pos (by omega),if_pos (by omega),if_pos (by omega),if_pos (by omega),if_pos (by omega),e27,Option.bind_some,res27_eq,w64 (x:=(j:Int)+1) (by omega) (by omega),show (j:Int)+1=((j+1:Nat):Int) from rfl]
   have bj:=hb j c
   cases c1:lkB (l.getD j z72) (l.getD i z72)
   ·rw [if_neg (by simp)]
    obtain ⟨v,e,v1,v2,v3⟩:=l13_in k m0 F l h x2 hx i hi r0 h0 hb m (j+1) t (by omega) (by omega) ht
    refine ⟨v,e,v1,v2,fun q hq hqi hl=>?_⟩
    by_cases eq:q=j
    ·subst eq;rw [c1] at hl;exact absurd hl (by simp)
    ·exact v3 q (by omega) hqi hl
   ·rw [if_pos rfl,if_pos (by omega),if_pos (by omega),if_pos (by omega)]
    obtain ⟨v,e,v1,v2,v3⟩:=l13_in k m0 F l h x2 hx i hi r0 h0 hb m (j+1) (if t<r0.getD j 0 then r0.getD j 0 else t) (by omega) (by omega) (by split <;> omega)
    refine ⟨v,e,by split at v1 <;> omega,v2,fun q hq hqi hl=>?_⟩
    by_cases eq:q=j
    ·subst eq;split at v1 <;> omega
    ·exact v3 q (by omega) hqi hl
  ·rw [if_neg (by omega),w64 (x:=(i:Int)+1) (by omega) (by omega),show (i:Int)+1=((i+1:Nat):Int) from rfl]
   unfold chk
   by_cases c2:(x2.length:Int)>0
   ·have hm1:=Int.emod_nonneg (i:Int) (show (x2.length:Int)≠0 by omega)
    have hm2:=Int.emod_lt_of_pos (i:Int) (show (0:Int)<(x2.length:Int) by omega)
    have et:((i:Int)).tmod (x2.length:Int)=(i:Int) % (x2.length:Int):=Int.tmod_eq_emod_of_nonneg (by omega)
    rw [if_pos c2,if_neg (by omega),et,if_pos hm1,if_pos hm2,if_neg (by decide)]
    have hv:=hx _ (getD_mem (z:=0) hm1 hm2)
    generalize x2.getD ((i:Int) % (x2.length:Int)).toNat 0=y at hv
    have ey:y.tmod 3=y % 3:=Int.tmod_eq_emod_of_nonneg hv.1
    rw [ey,w64 (x:=y % 3) (by omega) (by omega),w64 (x:=t+y % 3) (by omega) (by omega),if_pos (by simp only [List.length_cons,List.length_nil];omega)]
    exact ⟨_,rfl,by omega,by omega,fun q hq hqi=>absurd hq (by omega)⟩
   ·rw [if_neg c2,if_pos (by simp only [List.length_cons,List.length_nil];omega)]
    exact ⟨_,rfl,by omega,by omega,fun q hq hqi=>absurd hq (by omega)⟩
theorem l13_out (k:Nat) (F:FV) (l:List S72) (h:BkOk F l) (x2:List Int) (hx:∀ v∈x2,0≤v∧v≤255) (hk:1000≤k) :
  ∀ (m i:Nat) (r0:List Int),i≤l.length→l.length - i<m→r0.length=i→(∀ q,q<i→0≤r0.getD q 0∧r0.getD q 0≤3*(i:Int)) →
   (∀ p q,p<q→q<i→lkB (l.getD p z72) (l.getD q z72)=true→r0.getD p 0≤r0.getD q 0) →
   ∃ r:List Int,l13_0 (k+14) m x2 l (i:Int) r0=some ([.sl 0 0],[some (.row 0 0 3 (.int .i64) r)])∧r.length=l.length∧(∀ q,q<l.length→0≤r.getD q 0∧r.getD q 0≤3*(l.length:Int)) ∧
    ∀ p q,p<q→q<l.length→lkB (l.getD p z72) (l.getD q z72)=true→r.getD p 0≤r.getD q 0
 | 0,_,_,_,h,_,_,_=>absurd h (by omega)
 | m+1,i,r0,hi,hm,h0,hb,hu=>by
  rw [l13_0_eq]
  have hlen:=h.len
  by_cases c:i<l.length
  ·rw [if_pos (by omega)]
   obtain ⟨v,e,v1,v2,v3⟩:=l13_in k m F l h x2 hx i c r0 h0 hb (k+14) 0 0 (by omega) (by omega) (by omega)
   have gl:∀ q,q<i→(r0++[v]).getD q 0=r0.getD q 0:=fun q hq=>getD_app_lt r0 v 0 (by omega)
   have gi:(r0++[v]).getD i 0=v:=by have:=getD_app r0 v (0:Int);rw [h0] at this;exact this
   obtain ⟨r,e2,rest⟩:=l13_out k F l h x2 hx hk m (i+1) (r0++[v]) (by omega) (by omega) (by simp [h0]) (fun q hq=>by
    by_cases eq:q=i
    ·subst eq;rw [gi];omega
    ·rw [gl q (by omega)];have:=hb q (by omega);omega) (fun p q hp hq hl=>by
    by_cases eq:q=i
    ·subst eq;rw [gi,gl p hp];exact v3 p (by omega) hp hl
    ·rw [gl q (by omega),gl p (by omega)];exact hu p q hp (by omega) hl)
   exact ⟨r,e.trans e2,rest⟩
  ·rw [if_neg (by omega)]
   obtain rfl:i=l.length:=by omega
   exact ⟨r0,rfl,h0,hb,hu⟩
theorem c13 (k:Nat) {F:FV} (h:FnOk F) {b:Nat} (hb:b<F.bl.length) (x2:List Int) (hx:∀ v∈x2,0≤v∧v≤255) (hk:1000≤k) :
  ∃ r:List Int,evF T (k+15) 13 [F.v,.int .i64 (b:Int),.vsl none (.int .u8) x2] []=some ([.sl 0 0],[some (.row 0 0 3 (.int .i64) r)])∧r.length=((F.bl.getD b z53).f1).length∧(∀ q,q<((F.bl.getD b z53).f1).length→0≤r.getD q 0∧r.getD q 0≤3*(((F.bl.getD b z53).f1).length:Int)) ∧
   ∀ p q,p<q→q<((F.bl.getD b z53).f1).length→lkB (((F.bl.getD b z53).f1).getD p z72) (((F.bl.getD b z53).f1).getD q z72)=true→r.getD p 0≤r.getD q 0:=by
 have hlen:=(h.bk b hb).len
 obtain ⟨r,e,rest⟩:=l13_out k F _ (h.bk b hb) x2 hx hk (k+14) 0 [] (by omega) (by omega) rfl (fun q hq=>absurd hq (by omega)) (fun p q _ hq=>absurd hq (by omega))
 refine ⟨r,?_,rest⟩
 refine (f13_eq (k+14) _ _ _ _ _ _ _ _).trans ?_
 rw [if_pos (by omega),if_pos (by omega),Int.toNat_natCast]
 exact e
end Go.Proofs.Ytabcdpddhmekkaa.vm
