-- Written for this claim by programs of this session (wip in its repo). Lean checks it.
import Derived.Test.YtabcdpddhmekkaaP4
set_option linter.all false
namespace Go.Proofs.Ytabcdpddhmekkaa.vm
open Go Go.RowKit Go.Vm
theorem set_same {l:List Int} {i:Nat} (x:Int) (h:i<l.length):(l.set i x).getD i 0=x:=by
 rw [List.getD_eq_getElem?_getD,List.getElem?_set_self h];rfl
theorem set_other {l:List Int} {i k:Nat} (x:Int) (h:k≠i):(l.set i x).getD k 0=l.getD k 0:=by
 rw [List.getD_eq_getElem?_getD,List.getElem?_set_ne (Ne.symm h),← List.getD_eq_getElem?_getD]
theorem l30_in (k m0:Nat) (s:List Int) (i:Nat) (fl:List Nat) (B E Z:Int) (cb:List Bool) (dl:List Int) (fs:List (List Int)) (r1 r2:List Int)
  (hs:i<s.length) (h1:r1.length=s.length) (h2:r2.length=s.length) (hd:s.length≤dl.length) (hb:s.length<100000) (hfl:fl.length<100000) (hk:∀ q∈fl,q<i)
  (hd0:0≤dl.getD i 0∧dl.getD i 0≤500) (hr:∀ q,q<i→0≤r1.getD q 0∧r1.getD q 0≤1000000000) :
  ∀ (m j:Nat) (x b:Int),j≤fl.length→fl.length - j<m→0≤x∧x≤1000000000 →
   l30_1 k m0 m s (i:Int) (s.length:Int) (i:Int) (fl.map fun q:Nat=>(q:Int)) (fl.length:Int) (j:Int) B E Z cb dl fs (r1.set i x) (r2.set i b) =
    l30_0 k m0 s (s.length:Int) ((i+1:Nat):Int) B E Z cb dl fs (r1.set i ((pf (fun q=>decide (s.getD q 0=s.getD i 0)) (fun q=>r1.getD q 0) (fl.drop j) x b).1+dl.getD i 0)) (r2.set i (pf (fun q=>decide (s.getD q 0=s.getD i 0)) (fun q=>r1.getD q 0) (fl.drop j) x b).2)
 | 0,_,_,_,_,h,_=>absurd h (by omega)
 | m+1,j,x,b,hj,hm,hx=>by
  rw [l30_1_eq]
  have L1:(r1.set i x).length=s.length:=by rw [List.length_set,h1]
  have L2:(r2.set i b).length=s.length:=by rw [List.length_set,h2]
  have G1:=set_same (l:=r1) x (by omega:i<r1.length)
  have G2:=set_same (l:=r2) b (by omega:i<r2.length)
  by_cases c:j<fl.length
  ·have ek:(fl.map fun q:Nat=>(q:Int)).getD j 0=((fl.getD j 0:Nat):Int):=by
    rw [List.getD_eq_getElem?_getD,List.getD_eq_getElem?_getD,List.getElem?_map,List.getElem?_eq_getElem c];rfl
   rw [if_pos (by omega),if_pos (by omega),if_pos (by rw [List.length_map];omega)]
   simp only [Int.toNat_natCast]
   rw [ek]
   have hq:fl.getD j 0<i:=hk _ (by rw [List.getD_eq_getElem?_getD,List.getElem?_eq_getElem c];exact List.getElem_mem _)
   rw [drop_cons fl 0 c]
   generalize fl.getD j 0=q at hq
   simp only [Int.toNat_natCast]
   have G3:=set_other (l:=r1) x (by omega:q≠i)
   have rq:=hr q hq
   rw [w64 (x:=(j:Int)+1) (by omega) (by omega),show (j:Int)+1=((j+1:Nat):Int) from rfl]
   rw [G1,G2,G3,L1,L2,List.set_set,List.set_set]
   have ip:(0:Int)≤(i:Int):=by omega
   have qp:(0:Int)≤(q:Int):=by omega
   have iL:(i:Int)<(s.length:Int):=by omega
   have qL:(q:Int)<(s.length:Int):=by omega
   have qN:q<s.length:=by omega
   have go:=fun x b h=>l30_in k m0 s i fl B E Z cb dl fs r1 r2 hs h1 h2 hd hb hfl hk hd0 hr m (j+1) x b (by omega) (by omega) h
   simp only [if_pos ip,if_pos qp,if_pos iL,if_pos qL,if_pos hs,if_pos qN]
   unfold pf
   by_cases e:s.getD q 0=s.getD i 0
   ·rw [if_pos e]
    by_cases eb:b<0
    ·rw [if_pos eb,go _ _ rq,if_pos ⟨decide_eq_true e,.inl eb⟩]
    ·rw [if_neg eb]
     by_cases ex:r1.getD q 0>x
     ·rw [if_pos ex,go _ _ rq,if_pos ⟨decide_eq_true e,.inr ex⟩]
     ·rw [if_neg ex,go _ _ hx,if_neg (fun h=>h.2.elim eb ex)]
   ·rw [if_neg e,go _ _ hx,if_neg (fun h=>e (of_decide_eq_true h.1))]
  ·rw [if_neg (by omega),List.drop_eq_nil_of_le (by omega)]
   simp only [Int.toNat_natCast]
   rw [L1,G1,List.set_set,if_pos (by omega),if_pos (by omega),if_pos hs,if_pos (by omega),if_pos (by omega),if_pos (by omega),if_pos (by omega),w64 (x:=(i:Int)+1) (by omega) (by omega),show (i:Int)+1=((i+1:Nat):Int) from rfl]
   show _=l30_0 _ _ _ _ _ _ _ _ _ _ _ (r1.set i (x+dl.getD i 0)) (r2.set i b)
   rw [w64 (by omega) (by omega)]
end Go.Proofs.Ytabcdpddhmekkaa.vm
