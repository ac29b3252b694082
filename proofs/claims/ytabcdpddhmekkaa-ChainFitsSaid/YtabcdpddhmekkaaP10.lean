-- Written for this claim by programs of this session (wip in its repo). Lean checks it.
import Derived.Test.YtabcdpddhmekkaaP9
set_option linter.all false
namespace Go.Proofs.Ytabcdpddhmekkaa.vm
open Go Go.RowKit Go.Vm
theorem l15_in (k m0:Nat) (F:FV) (x1:Int) (x2:List Int) (u:Nat) (hu:u<100000) (E Z:Int) (r3:List Int) (n:Nat) (hn:n<100000) (h3:r3.length=n) (hb:∀ q,r3.getD q 0≤1000000000) :
  ∀ (m j:Nat) (r2:List Int),j≤n→n - j<m→r2.length=n →
   ∃ r2':List Int,l15_1 k m0 m x1 x2 (u:Int) (j:Int) F.nm F.ws F.ar F.st F.rt F.bl 30 E Z r2 r3=l15_0 k m0 x1 x2 ((u+1:Nat):Int) F.nm F.ws F.ar F.st F.rt F.bl 30 E Z r2'∧r2'.length=n ∧
    (∀ q,q<j→r2'.getD q 0=r2.getD q 0)∧∀ q,j≤q→q<n→r2'.getD q 0=if 0≤r3.getD q 0 then max (r2.getD q 0) (30+r3.getD q 0) else r2.getD q 0
 | 0,_,_,_,h,_=>absurd h (by omega)
 | m+1,j,r2,hj,hm,h2=>by
  rw [l15_1_eq]
  by_cases c:j<n
  ·have jp:(0:Int)≤(j:Int):=by omega
   have j3:(j:Int)<(r3.length:Int):=by omega
   have j2:(j:Int)<(r2.length:Int):=by omega
   have j3n:j<r3.length:=by omega
   have j2n:j<r2.length:=by omega
   simp only [Int.toNat_natCast]
   rw [w64 (x:=(j:Int)+1) (by omega) (by omega),show (j:Int)+1=((j+1:Nat):Int) from rfl,if_pos j3,if_pos jp,if_pos j3,if_pos j3n]
   by_cases c0:r3.getD j 0≥0
   ·have hbj:=hb j
    rw [if_pos c0,if_pos jp,if_pos j2,if_pos j2n,if_pos jp,if_pos j3,if_pos j3n,if_pos jp,if_pos j2,w64 (x:=30+r3.getD j 0) (by omega) (by omega)]
    obtain ⟨r2',e,l',p1,p2⟩:=l15_in k m0 F x1 x2 u hu E Z r3 n hn h3 hb m (j+1) (r2.set j (if r2.getD j 0<30+r3.getD j 0 then 30+r3.getD j 0 else r2.getD j 0)) (by omega) (by omega) (by rw [List.length_set,h2])
    refine ⟨r2',e,l',fun q hq=>?_,fun q hq hqn=>?_⟩
    ·rw [p1 q (by omega),set_other _ (by omega)]
    ·by_cases e:q=j
     ·subst e
      rw [p1 q (by omega),set_same _ j2n,if_pos (show 0≤r3.getD q 0 from c0)]
      split <;> omega
     ·rw [p2 q (by omega) hqn,set_other _ e]
   ·rw [if_neg c0]
    obtain ⟨r2',e,l',p1,p2⟩:=l15_in k m0 F x1 x2 u hu E Z r3 n hn h3 hb m (j+1) r2 (by omega) (by omega) h2
    refine ⟨r2',e,l',fun q hq=>p1 q (by omega),fun q hq hqn=>?_⟩
    by_cases e:q=j
    ·subst e
     rw [p1 q (by omega),if_neg (fun h=>c0 h)]
    ·exact p2 q (by omega) hqn
  ·rw [if_neg (by omega),w64 (x:=(u:Int)+1) (by omega) (by omega)]
   exact ⟨r2,rfl,h2,fun _ _=>rfl,fun q h1 h2=>absurd h1 (by omega)⟩
theorem l15_out (k:Nat) (F:FV) {b:Nat} (hb:b<F.bl.length) (h:BkOk F ((F.bl.getD b z53).f1)) (s:List Int) (sm:Nat→Nat→Bool) (hs:SmOk ((F.bl.getD b z53).f1) s sm) (hsl:s.length=((F.bl.getD b z53).f1).length) (E Z:Int) (hk:1000≤k) :
  ∀ (m u:Nat) (r2:List Int),u≤s.length→s.length - u<m→r2.length=s.length →
   (∀ q,q<s.length→r2.getD q 0=mx (fun w=>decide (0≤(chS F ((F.bl.getD b z53).f1) sm).fr w q)) (fun w=>30+(chS F ((F.bl.getD b z53).f1) sm).fr w q) 0 u) →
   ∃ r:List Int,l15_0 (k+44) m (b:Int) s (u:Int) F.nm F.ws F.ar F.st F.rt F.bl 30 E Z r2=some ([.vsl none (.int .i64) r],[])∧r.length=s.length ∧
    ∀ q,q<s.length→r.getD q 0=Tm (chS F ((F.bl.getD b z53).f1) sm) 30 q
 | 0,_,_,_,h,_,_=>absurd h (by omega)
 | m+1,u,r2,hu,hm,h2,hq=>by
  rw [l15_0_eq]
  have hlen:=h.len
  by_cases c:u<s.length
  ·have e31:=c31 k F b hb h s sm hs u hk
   rw [if_pos (by omega),e31,Option.bind_some,res31_eq]
   obtain ⟨r2',e,l',-,p2⟩:=l15_in (k+44) m F (b:Int) s u (by omega) E Z (tabF ((chS F ((F.bl.getD b z53).f1) sm).stepF u) ((F.bl.getD b z53).f1).length) s.length (by omega) (by rw [tab_len,hsl]) (fun q=>tab_le h sm u _ (by omega) q) (k+44) 0 r2 (by omega) (by omega) h2
   obtain ⟨r,e2,l2,p⟩:=l15_out k F hb h s sm hs hsl E Z hk m (u+1) r2' (by omega) (by omega) l' (fun q hqn=>by
    rw [p2 q (by omega) hqn,hq q hqn,tab_get _ _ q (by omega)]
    show (if 0≤(chS F ((F.bl.getD b z53).f1) sm).fr u q then _ else _)=if decide (0≤(chS F ((F.bl.getD b z53).f1) sm).fr u q)=true then _ else _
    by_cases c1:0≤(chS F ((F.bl.getD b z53).f1) sm).fr u q
    ·rw [if_pos c1,if_pos (decide_eq_true c1)];rfl
    ·rw [if_neg c1,if_neg (fun hh=>c1 (of_decide_eq_true hh))])
   exact ⟨r,e.trans e2,l2,p⟩
  ·rw [if_neg (by omega)]
   refine ⟨r2,rfl,h2,fun q hqn=>?_⟩
   rw [hq q hqn,Ch.arr (chS_ok h sm) (by decide) (by omega:q<u)]
   rfl
end Go.Proofs.Ytabcdpddhmekkaa.vm
