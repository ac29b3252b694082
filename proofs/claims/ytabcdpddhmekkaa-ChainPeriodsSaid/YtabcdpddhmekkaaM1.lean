-- Written for this claim by programs of this session (wip in its repo). Lean checks it.
import Derived.Test.YtabcdpddhmekkaaP9
import Derived.Test.YtabcdpddhmekkaaMkOk
set_option linter.all false
namespace Go.Proofs.Ytabcdpddhmekkaa.vm
open Go Go.RowKit Go.Vm
def fvOf (F:PAll.FN):FV:=⟨F.nm.data.toList,F.ws,F.ar.map c78,F.st.map c80,F.rt,F.bl.map c53⟩
theorem map_getD {α β : Type} (f : α → β) (l:List α) (z : α) (y : β) {i:Nat} (h:i<l.length):(l.map f).getD i y=f (l.getD i z):=by
 rw [List.getD_eq_getElem?_getD,List.getD_eq_getElem?_getD,List.getElem?_map,List.getElem?_eq_getElem h];rfl
theorem szL_le:∀ l:List S53,(∀ x∈l,1≤szB x∧szB x≤1010)→(l.length:Int)≤szL l∧szL l≤1010*(l.length:Int)
 | [],_=>by unfold szL;simp
 | b::l,h=>by
  have h1:=h b List.mem_cons_self
  have h2:=szL_le l (fun x hx=>h x (List.mem_cons_of_mem _ hx))
  unfold szL
  rw [List.length_cons]
  omega
theorem dests_up {l:List PAll.S72} (h:(PAll.dests l).Pairwise (· < ·)) {k i:Nat} (hk:k<i) (hi:i<l.length) (z:PAll.S72) (h1:0≤(l.getD k z).f1) (h2:0≤(l.getD i z).f1):(l.getD k z).f1<(l.getD i z).f1:=by
 unfold PAll.dests at h
 rw [List.pairwise_filter,List.pairwise_map,List.pairwise_iff_getElem] at h
 rw [List.getD_eq_getElem?_getD,List.getElem?_eq_getElem (show k<l.length by omega)] at h1 ⊢
 rw [List.getD_eq_getElem?_getD,List.getElem?_eq_getElem hi] at h2 ⊢
 exact h k i (by omega) hi hk (decide_eq_true h1) (decide_eq_true h2)
theorem fv_ok {F:PAll.FN} {n:Nat} (h:PAll.Base F (n:Int) n 1000):FnOk (fvOf F):=by
 have hn:=h.hn
 have n1:=h.n1
 have fo:FOk (fvOf F):=⟨fun w hw=>h.W w hw,fun x hx=>by
  obtain ⟨y,hy,rfl⟩:=List.mem_map.mp hx
  exact h.A.2 y hy,fun x hx=>by
  obtain ⟨y,hy,rfl⟩:=List.mem_map.mp hx
  exact h.S.2 y hy⟩
 have lb:(fvOf F).bl.length=n:=by show (F.bl.map c53).length=n;rw [List.length_map];exact hn
 refine ⟨by omega,?_,fun b hb=>?_⟩
 ·have:=szL_le (fvOf F).bl (fun x hx=>by
   obtain ⟨y,hy,rfl⟩:=List.mem_map.mp (show x∈F.bl.map c53 from hx)
   obtain ⟨i,hi,rfl⟩:=List.mem_iff_getElem.mp hy
   have e:PAll.rd_T53 F.bl (i:Int)=F.bl[i]:=by
    unfold PAll.rd_T53
    rw [Int.toNat_natCast,List.getD_eq_getElem?_getD,List.getElem?_eq_getElem hi];rfl
   have L:=h.L (i:Int) (by omega) (by omega)
   have B:=(h.B (i:Int) (by omega) (by omega)).five
   have t:=(h.T (i:Int) (by omega) (by omega)).2
   rw [e] at L B t
   have t2:(F.bl[i]).f2.f2.length≤2:=by
    rcases t with t | t | t
    ·omega
    ·omega
    ·rw [t.2.2.1];simp
   have e2:szB (c53 F.bl[i])=1+((F.bl[i]).f0.length:Int)+(((F.bl[i]).f1.map c72).length:Int)+(((F.bl[i]).f2.f2.map c111).length:Int):=rfl
   rw [List.length_map,List.length_map] at e2
   omega)
  rw [lb] at this
  omega
 ·rw [lb] at hb
  have eb:((fvOf F).bl.getD b z53)=c53 (F.bl.getD b PAll.z53):=map_getD c53 F.bl PAll.z53 z53 (by omega)
  rw [eb]
  have L:=h.L (b:Int) (by omega) (by omega)
  have B:=h.B (b:Int) (by omega) (by omega)
  have e:PAll.rd_T53 F.bl (b:Int)=F.bl.getD b PAll.z53:=by unfold PAll.rd_T53;rw [Int.toNat_natCast]
  rw [e] at L B
  generalize F.bl.getD b PAll.z53=x at L B
  show BkOk (fvOf F) (x.f1.map c72)
  let z:PAll.S72:=⟨0,0,[],0,0⟩
  have at_:∀ i,i<x.f1.length→(x.f1.map c72).getD i z72=c72 (x.f1.getD i z):=fun i hi=>map_getD c72 x.f1 z z72 hi
  have el:∀ i (hi:i<x.f1.length),x.f1.getD i z=x.f1[i]:=fun i hi=>by rw [List.getD_eq_getElem?_getD,List.getElem?_eq_getElem hi];rfl
  have sub:∀ i,∀ v∈PAll.dests (x.f1.take i),v∈PAll.dests x.f1:=fun i v hv=>by
   unfold PAll.dests at hv ⊢
   rw [List.mem_filter] at hv ⊢
   refine ⟨?_,hv.2⟩
   obtain ⟨y,hy,rfl⟩:=List.mem_map.mp hv.1
   exact List.mem_map.mpr ⟨y,List.mem_of_mem_take hy,rfl⟩
  have dstm:∀ i (hi:i<x.f1.length),0≤(x.f1.getD i z).f1→(x.f1.getD i z).f1∈PAll.dests x.f1:=fun i hi h0=>by
   unfold PAll.dests
   rw [List.mem_filter]
   exact ⟨List.mem_map.mpr ⟨x.f1.getD i z,by rw [el i hi];exact List.getElem_mem _,rfl⟩,decide_eq_true h0⟩
  have dst0:∀ i (hi:i<x.f1.length),(x.f1.getD i z).f0≠26→(x.f1.getD i z).f0≠28→0≤(x.f1.getD i z).f1:=fun i hi h1 h2=>by
   have I:=(B.ok i hi).dst
   rw [← el i hi] at I
   omega
  refine ⟨fo,by rw [List.length_map];exact L,fun i hi=>?_,fun i hi=>?_,fun k i hk hi ck ci=>?_⟩
  ·rw [List.length_map] at hi
   rw [at_ i hi]
   have I:=B.ok i hi
   have D0:=dst0 i hi
   have D1:=dstm i hi
   rw [← el i hi] at I
   generalize x.f1.getD i z=y at I D0 D1
   refine ⟨I.op,fun hh=>?_,fun h1 h2=>?_,fun h1=>?_,fun h1=>?_⟩
   ·have h2:y.f2.length=2:=I.two (by have:=hh.1;show 2≤y.f0;have:(c72 y).f0=y.f0:=rfl;omega) hh.2
    have m:y.f2.getD 0 0∈y.f2:=by
     rw [List.getD_eq_getElem?_getD,List.getElem?_eq_getElem (show 0<y.f2.length by omega)]
     exact List.getElem_mem _
    have lt:=B.lt _ (by
     rcases List.mem_append.mp (I.args _ m) with q | q
     ·exact List.mem_append_left _ q
     ·exact List.mem_append_right _ (sub i _ q))
    exact ⟨by show 0<(y.f2.length:Int);omega,lt.1,lt.2⟩
   ·have q:=D0 h1 h2
    exact ⟨q,(B.lt _ (List.mem_append_right _ (D1 q))).2⟩
   ·have:=I.mar (.inr h1)
    refine ⟨this.1,?_⟩
    show y.f4<((F.ar.map c78).length:Int)
    rw [List.length_map];exact this.2
   ·have:=I.mst (.inr h1)
    refine ⟨this.1,?_⟩
    show y.f4<((F.st.map c80).length:Int)
    rw [List.length_map];exact this.2
  ·rw [List.length_map] at hi
   rw [at_ i hi]
   have I:=(B.ok i hi).len
   rw [← el i hi] at I
   show (x.f1.getD i z).f2.length≤10
   omega
  ·rw [List.length_map] at hi
   rw [at_ k (by omega)] at ck ⊢
   rw [at_ i hi] at ci ⊢
   have c1:combB (x.f1.getD k z).f0=true:=ck
   have c2:combB (x.f1.getD i z).f0=true:=ci
   unfold combB at c1 c2
   rw [decide_eq_true_eq] at c1 c2
   have:=dests_up (List.pairwise_append.mp B.up).2.1 hk hi z (dst0 k (by omega) (by omega) (by omega)) (dst0 i hi (by omega) (by omega))
   show (x.f1.getD k z).f1≠(x.f1.getD i z).f1
   omega
end Go.Proofs.Ytabcdpddhmekkaa.vm
