-- Written for this claim by programs of this session (wip in its repo). Lean checks it.
import Derived.Test.YtabcdpddhmekkaaP17
set_option linter.all false
namespace Go.Proofs.Ytabcdpddhmekkaa.vm
open Go Go.RowKit Go.Vm
structure FwdOk (X:Ch) (st:List Nat):Prop where
 cb:∀ i,i<st.length→X.cb (st.getD i 0)=true
 lk:∀ i,i+1<st.length→X.lk (st.getD i 0) (st.getD (i+1) 0)=true∧X.sm (st.getD i 0) (st.getD (i+1) 0)=true
def sumTo (X:Ch) (st:List Nat):Nat→Int
 | 0=>0
 | i+1=>sumTo X st i+X.d (st.getD i 0)
theorem sumTo_app (X:Ch) (st:List Nat) (q:Nat):∀ i,i≤st.length→sumTo X (st++[q]) i=sumTo X st i
 | 0,_=>rfl
 | i+1,h=>by
  unfold sumTo
  rw [sumTo_app X st q i (by omega),getD_app_lt st q 0 (by omega)]
theorem back_fwd {X:Ch}:∀ (l:List Nat) (q:Nat),Back X q l→FwdOk X ((q::l).reverse)∧sumTo X ((q::l).reverse) (l.length+1)=X.M q∧((q::l).reverse).getD l.length 0=q
 | [],q,h=>by
  refine ⟨⟨fun i hi=>?_,fun i hi=>absurd hi (by simp)⟩,?_,rfl⟩
  ·obtain rfl:i=0:=by simp at hi;exact hi
   exact h.1
  ·show 0+X.d q=X.M q
   rw [h.2.1];omega
 | p::l,q,h=>by
  obtain ⟨h1,h2,h3,h4,h5⟩:=h
  obtain ⟨f,g,e⟩:=back_fwd l p h5
  rw [List.reverse_cons (a:=q)]
  have L:((p::l).reverse).length=l.length+1:=by simp
  generalize (p::l).reverse=st at f g L e
  have G:∀ i,i<l.length+1→(st++[q]).getD i 0=st.getD i 0:=fun i hi=>getD_app_lt st q 0 (by omega)
  have GQ:(st++[q]).getD (l.length+1) 0=q:=by have:=getD_app st q 0;rw [L] at this;exact this
  refine ⟨⟨fun i hi=>?_,fun i hi=>?_⟩,?_,GQ⟩
  ·rw [List.length_append,List.length_singleton,L] at hi
   by_cases c:i=l.length+1
   ·rw [c,GQ];exact h1
   ·rw [G i (by omega)];exact f.cb i (by omega)
  ·rw [List.length_append,List.length_singleton,L] at hi
   by_cases c:i=l.length
   ·rw [c,G _ (by omega),GQ,e];exact ⟨h2,h3⟩
   ·rw [G i (by omega),G (i+1) (by omega)];exact f.lk i (by omega)
  ·show sumTo X (st++[q]) (l.length+1)+X.d ((st++[q]).getD (l.length+1) 0)=X.M q
   rw [sumTo_app X st q _ (by omega),g,GQ,h4]
def castL (st:List Nat):List Int:=st.map fun w:Nat=>(w:Int)
theorem lg_none {F:FV} {l:List S72} (s:List Int) (h:∀ q,q<l.length→(chOf F l fun q=>s.getD q 0).cb q=false):lgZ F l s=30+endZ (szL F.bl):=by
 unfold lgZ
 rcases fm_mem (tmL F l s) 30 with e | e
 ·rw [e]
 ·obtain ⟨q,hq,e2⟩:=List.mem_map.mp e
  rw [List.mem_range] at hq
  have:=(fm_ge (tmL F l s) 30).1
  unfold Tm at e2
  rw [h q hq,if_neg (by simp)] at e2
  omega
theorem lg_some {F:FV} {l:List S72} (h:BkOk F l) (s:List Int) {w:Nat} (hw:w<l.length) (hc:(chOf F l fun q=>s.getD q 0).cb w=true) (hm:∀ q,q<l.length→(chOf F l fun q=>s.getD q 0).cb q=true→(chOf F l fun q=>s.getD q 0).M q≤(chOf F l fun q=>s.getD q 0).M w) :
  lgZ F l s=30+(chOf F l fun q=>s.getD q 0).M w+endZ (szL F.bl):=by
 unfold lgZ
 have h0:=Ch.M0 (chOf_ok h fun q=>s.getD q 0) w
 have a:30+(chOf F l fun q=>s.getD q 0).M w≤fm 30 (tmL F l s):=(fm_ge (tmL F l s) 30).2 _ (List.mem_map.mpr ⟨w,List.mem_range.mpr hw,by unfold Tm;rw [hc,if_pos rfl]⟩)
 have b:fm 30 (tmL F l s)≤30+(chOf F l fun q=>s.getD q 0).M w:=by
  rcases fm_mem (tmL F l s) 30 with e | e
  ·rw [e];omega
  ·obtain ⟨q,hq,e2⟩:=List.mem_map.mp e
   rw [List.mem_range] at hq
   rw [← e2];unfold Tm
   by_cases c:(chOf F l fun q=>s.getD q 0).cb q=true
   ·rw [if_pos c];have:=hm q hq c;omega
   ·rw [if_neg c];omega
 omega
theorem c16 {F:FV} (h:FnOk F) {b:Nat} (hb:b<F.bl.length) (s:List Int) (hs:s.length=((F.bl.getD b z53).f1).length) (k:Nat) (hk:3000≤k) :
  ∃ st:List Nat,evF T (k+46) 16 [F.v,.int .i64 (b:Int),.vsl none (.int .i64) s] []=some ([.agg [.int .i64 (lgZ F ((F.bl.getD b z53).f1) s),.vsl none (.int .i64) (castL st)]],[]) ∧
   FwdOk (chOf F ((F.bl.getD b z53).f1) fun q=>s.getD q 0) st∧lgZ F ((F.bl.getD b z53).f1) s=30+sumTo (chOf F ((F.bl.getD b z53).f1) fun q=>s.getD q 0) st st.length+endZ (szL F.bl)∧st.length≤1000:=by
 have B:=h.bk b hb
 have hlen:=B.len
 have he:=end_ok h
 have e33:=c33 h (k+44) (by omega)
 have e32:=c32 (k+42) h.sz.1 h.sz.2
 have e28:=Ytabcdpddhmekkaa.vm.c28 (k+44) F (b:Int) s
 have e29:=c29 h hb (k+1) (by omega)
 obtain ⟨r1,r2,e30,h1,h2,h3⟩:=c30 B s hs (endZ (szL F.bl)) (frzZ (szL F.bl)) (k+24) (by omega)
 obtain ⟨p,hp,ep⟩:=l16_find (k+45) F ((F.bl.getD b z53).f1) (fun q=>s.getD q 0) (by omega) r1 r2 h1 0 30 (endZ (szL F.bl)) (frzZ (szL F.bl)) (wrap64 (30+endZ (szL F.bl))) [] (dF F ((F.bl.getD b z53).f1) ((F.bl.getD b z53).f1).length) (fromF ((F.bl.getD b z53).f1) ((F.bl.getD b z53).f1).length)
  (k+45) 0 (-1) (by omega) (by omega) (.inl ⟨rfl,fun q hq=>absurd hq (by omega)⟩)
 have ok:=chOf_ok B (fun q=>s.getD q 0)
 have db:=fun i=>(chOf_d B (fun q=>s.getD q 0) i).2
 have go:evF T (k+46) 16 [F.v,.int .i64 (b:Int),.vsl none (.int .i64) s] []=if p<0 then some ([.agg [.int .i64 (wrap64 (30+endZ (szL F.bl))),.vsl none (.int .i64) ([]:List Int)]],[]) else l16_1 (k+45) (k+45) r2 p 0 [] (wrap64 (r1.getD p.toNat 0+endZ (szL F.bl))) []:=by
  refine (f16_eq (k+45) _ _ _ _ _ _ _ _).trans ?_
  rw [e33,Option.bind_some,res33_eq,e32,Option.bind_some,res32_eq,e28,Option.bind_some,res28_eq,Int.toNat_natCast,decide_eq_true ⟨by omega,by omega,hs⟩,if_neg (by simp),e29,Option.bind_some,res29_eq,e30,Option.bind_some,res30_eq]
  exact ep
 rcases hp with ⟨rfl,hn⟩ | ⟨w,rfl,hw,hc,hm⟩
 ·refine ⟨[],?_,⟨fun i hi=>absurd hi (by simp),fun i hi=>absurd hi (by simp)⟩,?_,by simp⟩
  ·rw [go,if_pos (by omega),lg_none s hn,w64 (by omega) (by omega)];rfl
  ·rw [lg_none s hn];show _=30+0+_;omega
 ·have hM:∀ q,q<((F.bl.getD b z53).f1).length→(chOf F ((F.bl.getD b z53).f1) fun q=>s.getD q 0).cb q=true→(chOf F ((F.bl.getD b z53).f1) fun q=>s.getD q 0).M q≤(chOf F ((F.bl.getD b z53).f1) fun q=>s.getD q 0).M w:=fun q hq hcq=>by
   have:=hm q hq hcq
   dsimp only at this
   rw [(h3 q hq).1,(h3 w hw).1] at this
   unfold Tm at this
   rw [if_pos hcq,if_pos hc] at this
   omega
  have lg:=lg_some B s hw hc hM
  obtain ⟨l,hl,el⟩:=l16_path (k+45) ok ((F.bl.getD b z53).f1).length (by omega) r2 h2 (fun q hq=>(h3 q hq).2) 0 (wrap64 (r1.getD w 0+endZ (szL F.bl))) w hw hc (k+45) [] (by omega) (by simp;omega)
  obtain ⟨f,g,-⟩:=back_fwd l w hl
  have M0:=Ch.M0 ok w
  have M1:=Ch.M_le ok db w
  have rw1:r1.getD w 0=30+(chOf F ((F.bl.getD b z53).f1) fun q=>s.getD q 0).M w:=by rw [(h3 w hw).1];unfold Tm;rw [if_pos hc]
  refine ⟨(w::l).reverse,?_,f,?_,?_⟩
  ·rw [go,if_neg (by omega),Int.toNat_natCast,el,rw1,w64 (by omega) (by omega),lg]
   exact congrArg (fun z:List Int=>some ([PV.agg [PV.int (N:=N) IntKind.i64 (30+(chOf F ((F.bl.getD b z53).f1) fun q=>s.getD q 0).M w+endZ (szL F.bl)),PV.vsl none (TC.int IntKind.i64) z]],[])) (show ([]++(w::l).map fun w:Nat=>(w:Int)).reverse=castL (w::l).reverse by unfold castL;rw [List.nil_append,List.map_reverse])
  ·rw [lg,List.length_reverse,List.length_cons,g]
  ·have asc:∀ i,i<((w::l).reverse).length→i≤((w::l).reverse).getD i 0:=fun i=>by
    induction i with
    | zero=>intro _;omega
    | succ i ih=>intro hi;have:=ih (by omega);have:=(ok.lk _ _ (f.lk i hi).1).1;omega
   by_cases c:((w::l).reverse).length≤1000
   ·exact c
   ·have:=asc 1000 (by omega)
    have hcb:=f.cb 1000 (by omega)
    have:(((w::l).reverse).getD 1000 0)<((F.bl.getD b z53).f1).length:=by
     have h9:(decide ((((w::l).reverse).getD 1000 0)<((F.bl.getD b z53).f1).length)&&combB ((((F.bl.getD b z53).f1)).getD (((w::l).reverse).getD 1000 0) z72).f0)=true:=hcb
     rw [Bool.and_eq_true,decide_eq_true_eq] at h9
     exact h9.1
    omega
theorem c20 {F:FV} (h:FnOk F) {b:Nat} (hb:b<F.bl.length) (s:List Int) (hs:s.length=((F.bl.getD b z53).f1).length) (P:Int) (k:Nat) (hk:3000≤k) :
  evF T (k+47) 20 [F.v,.int .i64 (b:Int),.int .i64 P,.vsl none (.int .i64) s] []=some ([.bool (decide (lgZ F ((F.bl.getD b z53).f1) s≤P))],[]):=by
 obtain ⟨st,e16,-⟩:=c16 h hb s hs k hk
 have e28:=Ytabcdpddhmekkaa.vm.c28 (k+45) F (b:Int) s
 refine (f20_eq (k+46) _ _ _ _ _ _ _ _ _).trans ?_
 rw [e28,Option.bind_some,res28_eq,Int.toNat_natCast,decide_eq_true ⟨by omega,by omega,hs⟩,if_pos rfl,e16,Option.bind_some,res16_eq]
theorem c20_no (F:FV) (b:Int) (s:List Int) (P:Int) (hn:¬ (0≤b∧b<(F.bl.length:Int)∧s.length=((F.bl.getD b.toNat z53).f1).length)) (k:Nat) :
  evF T (k+2) 20 [F.v,.int .i64 b,.int .i64 P,.vsl none (.int .i64) s] []=some ([.bool false],[]):=by
 have e28:=Ytabcdpddhmekkaa.vm.c28 k F b s
 refine (f20_eq (k+1) _ _ _ _ _ _ _ _ _).trans ?_
 rw [e28,Option.bind_some,res28_eq,decide_eq_false hn,if_neg (by simp)]
end Go.Proofs.Ytabcdpddhmekkaa.vm
