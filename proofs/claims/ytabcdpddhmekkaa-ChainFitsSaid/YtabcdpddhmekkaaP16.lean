-- Written for this claim by programs of this session (wip in its repo). Lean checks it.
import Derived.Test.YtabcdpddhmekkaaP15
set_option linter.all false
namespace Go.Proofs.Ytabcdpddhmekkaa.vm
open Go Go.RowKit Go.Vm
def LastOk (X:Ch) (t:Nat→Int) (n:Nat) (p:Int):Prop:=
 (p = -1∧∀ q,q<n→X.cb q=false)∨∃ w:Nat,p=w∧w<n∧X.cb w=true∧∀ q,q<n→X.cb q=true→t q≤t w
theorem l16_find (k:Nat) (F:FV) (l:List S72) (s:Nat→Int) (hl:l.length<100000) (r1 r2:List Int) (h1:r1.length=l.length) (c0 B E Z P:Int) (r4:List Int) (d:List Int) (fs:List (List Int)) :
  ∀ (m i:Nat) (p:Int),i≤l.length→l.length - i<m→LastOk (chOf F l s) (fun q=>r1.getD q 0) i p →
   ∃ p':Int,LastOk (chOf F l s) (fun q=>r1.getD q 0) l.length p' ∧
    l16_0 k m r1 r2 p r1 (r1.length:Int) (i:Int) c0 [] B E Z P r4 B E Z (cbF l l.length) d fs=if p'<0 then some ([.agg [.int .i64 P,.vsl none (.int .i64) r4]],[]) else l16_1 k k r2 p' c0 [] (wrap64 (r1.getD p'.toNat 0+E)) r4
 | 0,_,_,_,h,_=>absurd h (by omega)
 | m+1,i,p,hi,hm,hp=>by
  rw [l16_0_eq]
  have lc:=cbF_len l l.length
  by_cases c:i<l.length
  ·have cc:=chOf_cb (F:=F) (s:=s) c
   rw [if_pos (by omega),if_pos (by omega),if_pos (by omega),if_pos (by omega),if_pos (by omega),Int.toNat_natCast,cbF_get l l.length i c,w64 (x:=(i:Int)+1) (by omega) (by omega),show (i:Int)+1=((i+1:Nat):Int) from rfl,← cc]
   have ext:∀ (P:Nat→Prop),(∀ q,q<i→P q)→P i→∀ q,q<i+1→P q:=fun P h1 h2 q hq=>by
    by_cases e:q=i
    ·rw [e];exact h2
    ·exact h1 q (by omega)
   cases cb:(chOf F l s).cb i
   ·rw [if_neg (by simp)]
    refine l16_find k F l s hl r1 r2 h1 c0 B E Z P r4 d fs m (i+1) p (by omega) (by omega) ?_
    rcases hp with ⟨e,h⟩ | ⟨w,e,hw,hc,h⟩
    ·exact .inl ⟨e,ext _ h cb⟩
    ·exact .inr ⟨w,e,by omega,hc,ext (fun q=>(chOf F l s).cb q=true→_) h (fun hh=>by rw [cb] at hh;exact absurd hh (by simp))⟩
   ·rw [if_pos rfl]
    rcases hp with ⟨e,h⟩ | ⟨w,e,hw,hc,h⟩
    ·rw [if_pos (by omega)]
     refine l16_find k F l s hl r1 r2 h1 c0 B E Z P r4 d fs m (i+1) i (by omega) (by omega) (.inr ⟨i,rfl,by omega,cb,ext (fun q=>(chOf F l s).cb q=true→_) (fun q hq hh=>by rw [h q hq] at hh;exact absurd hh (by simp)) (fun _=>Int.le_refl _)⟩)
    ·subst e
     rw [if_neg (by omega),if_pos (by omega),if_pos (by omega),Int.toNat_natCast]
     by_cases cg:r1.getD i 0>r1.getD w 0
     ·rw [if_pos cg]
      exact l16_find k F l s hl r1 r2 h1 c0 B E Z P r4 d fs m (i+1) i (by omega) (by omega) (.inr ⟨i,rfl,by omega,cb,ext (fun q=>(chOf F l s).cb q=true→_) (fun q hq hh=>by have:=h q hq hh;dsimp only at this ⊢;omega) (fun _=>Int.le_refl _)⟩)
     ·rw [if_neg cg]
      exact l16_find k F l s hl r1 r2 h1 c0 B E Z P r4 d fs m (i+1) w (by omega) (by omega) (.inr ⟨w,rfl,by omega,hc,ext (fun q=>(chOf F l s).cb q=true→_) h (fun _=>by dsimp only;omega)⟩)
  ·obtain rfl:i=l.length:=by omega
   refine ⟨p,hp,?_⟩
   rw [if_neg (by omega)]
   rcases hp with ⟨e,h⟩ | ⟨w,e,hw,hc,h⟩
   ·rw [if_pos (by omega),if_pos (by omega)]
   ·subst e
    rw [if_neg (by omega),if_pos (by omega),if_pos (by omega),if_neg (by omega)]
end Go.Proofs.Ytabcdpddhmekkaa.vm
