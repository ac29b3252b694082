-- Written for this claim by programs of this session (wip in its repo). Lean checks it.
import Derived.Test.YtabcdpddhmekkaaP20
set_option linter.all false
namespace Go.Proofs.Ytabcdpddhmekkaa.vm
open Go Go.RowKit Go.Vm
noncomputable def mIn (F:FV) (a:Int):List S72→Int
 | []=>a
 | x::l=>mIn F (if a<dZ F x then dZ F x else a) l
noncomputable def mBl (F:FV) (a:Int):List S53→Int
 | []=>a
 | b::l=>mBl F (mIn F a b.f1) l
theorem mIn_ge (F:FV):∀ (l:List S72) (a:Int),a≤mIn F a l∧∀ x∈l,dZ F x≤mIn F a l
 | [],a=>⟨Int.le_refl _,fun x h=>absurd h (by simp)⟩
 | y::l,a=>by
  obtain ⟨h1,h2⟩:=mIn_ge F l (if a<dZ F y then dZ F y else a)
  have q:a≤(if a<dZ F y then dZ F y else a)∧dZ F y≤(if a<dZ F y then dZ F y else a):=by split <;> omega
  unfold mIn
  refine ⟨Int.le_trans q.1 h1,fun x hx=>?_⟩
  rcases List.mem_cons.mp hx with rfl | hx
  ·exact Int.le_trans q.2 h1
  ·exact h2 x hx
theorem mIn_le (F:FV):∀ (l:List S72) (a c:Int),a≤c→(∀ x∈l,dZ F x≤c)→mIn F a l≤c
 | [],a,c,h,_=>h
 | y::l,a,c,h,g=>by
  unfold mIn
  refine mIn_le F l _ c ?_ (fun x hx=>g x (List.mem_cons_of_mem _ hx))
  have:=g y List.mem_cons_self
  split <;> omega
theorem mBl_ge (F:FV):∀ (bl:List S53) (a:Int),a≤mBl F a bl∧∀ b∈bl,∀ x∈b.f1,dZ F x≤mBl F a bl
 | [],a=>⟨Int.le_refl _,fun x h=>absurd h (by simp)⟩
 | y::l,a=>by
  obtain ⟨h1,h2⟩:=mBl_ge F l (mIn F a y.f1)
  obtain ⟨g1,g2⟩:=mIn_ge F y.f1 a
  unfold mBl
  refine ⟨by omega,fun b hb x hx=>?_⟩
  rcases List.mem_cons.mp hb with rfl | hb
  ·have:=g2 x hx;omega
  ·exact h2 b hb x hx
theorem mBl_le (F:FV):∀ (bl:List S53) (a c:Int),a≤c→(∀ b∈bl,∀ x∈b.f1,dZ F x≤c)→mBl F a bl≤c
 | [],a,c,h,_=>h
 | y::l,a,c,h,g=>by
  unfold mBl
  exact mBl_le F l _ c (mIn_le F _ _ _ h (g y List.mem_cons_self)) (fun b hb=>g b (List.mem_cons_of_mem _ hb))
noncomputable def lsOf (F:FV) (d:Int):Int:=if frzZ (szL F.bl)<30+d+endZ (szL F.bl) then 30+d+endZ (szL F.bl) else frzZ (szL F.bl)
noncomputable def lsZ (F:FV):Int:=lsOf F (mBl F 0 F.bl)
theorem dZ_500 {F:FV} (h:FnOk F):∀ b∈F.bl,∀ x∈b.f1,dZ F x≤500:=by
 intro b hb x hx
 obtain ⟨i,hi,rfl⟩:=List.mem_iff_getElem.mp hb
 obtain ⟨j,hj,rfl⟩:=List.mem_iff_getElem.mp hx
 have B:=h.bk i hi
 have e:F.bl.getD i z53=F.bl[i]:=by rw [List.getD_eq_getElem?_getD,List.getElem?_eq_getElem hi];rfl
 rw [e] at B
 have I:=B.ins j hj
 have e2:(F.bl[i].f1).getD j z72=F.bl[i].f1[j]:=by rw [List.getD_eq_getElem?_getD,List.getElem?_eq_getElem hj];rfl
 rw [e2] at I
 obtain ⟨_,_,_,_,_,_,hu⟩:=dZ_ok B.fo I
 exact hu.d.2
theorem mBl_ok {F:FV} (h:FnOk F):0≤mBl F 0 F.bl∧mBl F 0 F.bl≤500:=⟨(mBl_ge F F.bl 0).1,mBl_le F F.bl 0 500 (by omega) (dZ_500 h)⟩
theorem ls_ok {F:FV} (h:FnOk F):30+mBl F 0 F.bl+endZ (szL F.bl)≤lsZ F∧320≤lsZ F∧lsZ F≤2000:=by
 have:=end_ok h
 have:=mBl_ok h
 unfold lsZ lsOf;split <;> omega
theorem lsOf_max (F:FV) (a d:Int):(if lsOf F a<30+d+endZ (szL F.bl) then 30+d+endZ (szL F.bl) else lsOf F a)=lsOf F (if a<d then d else a):=by
 unfold lsOf
 split <;> split <;> split <;> omega
theorem l21_in (k m0:Nat) {F:FV} (h:FnOk F) {i:Nat} (hi:i<F.bl.length):∀ (m j:Nat) (a:Int),j≤((F.bl.getD i z53).f1).length→((F.bl.getD i z53).f1).length - j<m →
  l21_1 (k+43) m0 m (lsOf F a) (i:Int) (j:Int) F.nm F.ws F.ar F.st F.rt F.bl 30 (endZ (szL F.bl)) (frzZ (szL F.bl))=l21_0 (k+43) m0 (lsOf F (mIn F a (((F.bl.getD i z53).f1).drop j))) ((i+1:Nat):Int) F.nm F.ws F.ar F.st F.rt F.bl 30 (endZ (szL F.bl)) (frzZ (szL F.bl))
 | 0,_,_,_,h=>absurd h (by omega)
 | m+1,j,a,hj,hm=>by
  rw [l21_1_eq]
  have hn:=h.n1
  have he:=end_ok h
  have B:=h.bk i hi
  have hlen:=B.len
  have go:=l21_in k m0 h hi m (j+1)
  have ip:(0:Int)≤(i:Int):=by omega
  have iL:(i:Int)<(F.bl.length:Int):=by omega
  rw [if_pos ip,if_pos iL,Int.toNat_natCast]
  generalize (F.bl.getD i z53).f1=l at hj hm B hlen go
  by_cases c:j<l.length
  ·obtain ⟨u0,u1,u3,u4,u5,e,hu⟩:=dZ_ok B.fo (B.ins j c)
   have e38:=hu.ref k
   have hd:=hu.d
   rw [if_pos (by omega),if_pos ip,if_pos iL,if_pos (by omega),if_pos (by omega),Int.toNat_natCast,e38,Option.bind_some,res38_eq,w64 (x:=30+dZ F (l.getD j z72)) (by omega) (by omega),w64 (x:=30+dZ F (l.getD j z72)+endZ (szL F.bl)) (by omega) (by omega),w64 (x:=(j:Int)+1) (by omega) (by omega),lsOf_max,drop_cons l z72 c]
   exact go _ (by omega) (by omega)
  ·rw [if_neg (by omega),List.drop_eq_nil_of_le (by omega),w64 (x:=(i:Int)+1) (by omega) (by omega)]
   rfl
theorem l21_out (k:Nat) {F:FV} (h:FnOk F) (hk:1000≤k):∀ (m i:Nat) (a:Int),i≤F.bl.length→F.bl.length - i<m →
  l21_0 (k+43) m (lsOf F a) (i:Int) F.nm F.ws F.ar F.st F.rt F.bl 30 (endZ (szL F.bl)) (frzZ (szL F.bl))=some ([.int .i64 (lsOf F (mBl F a (F.bl.drop i)))],[])
 | 0,_,_,_,h=>absurd h (by omega)
 | m+1,i,a,hi,hm=>by
  rw [l21_0_eq]
  by_cases c:i<F.bl.length
  ·have hlen:=(h.bk i c).len
   rw [if_pos (by omega)]
   refine (l21_in k m h c (k+43) 0 a (by omega) (by omega)).trans ?_
   rw [List.drop_zero,drop_cons F.bl z53 c]
   exact l21_out k h hk m (i+1) _ (by omega) (by omega)
  ·rw [if_neg (by omega),List.drop_eq_nil_of_le (by omega)]
   rfl
theorem c21 {F:FV} (h:FnOk F) (k:Nat) (hk:1000≤k):evF T (k+44) 21 [F.v] []=some ([.int .i64 (lsZ F)],[]):=by
 refine (f21_eq (k+43) _ _ _ _ _ _).trans ?_
 have hn:=h.n1
 have he:=end_ok h
 have e1:=c36 h (k+42) (by omega)
 have e2:=c35 (k+1) h.sz.1 h.sz.2
 rw [e1,Option.bind_some,res36_eq,e2,Option.bind_some,res35_eq,w64 (x:=30+endZ (szL F.bl)) (by omega) (by omega)]
 have:=l21_out k h hk (k+43) 0 0 (by omega) (by omega)
 unfold lsOf at this
 rw [Int.add_zero] at this
 exact this
theorem chOf_max {F:FV} {b:Nat} (hb:b<F.bl.length) (s:Nat→Int) (i:Nat):(chOf F ((F.bl.getD b z53).f1) s).d i≤mBl F 0 F.bl:=by
 show (if i<((F.bl.getD b z53).f1).length then dZ F (((F.bl.getD b z53).f1).getD i z72) else 0)≤_
 split
 ·refine (mBl_ge F F.bl 0).2 (F.bl.getD b z53) ?_ _ ?_
  ·have:=getD_mem (l:=F.bl) (i:=(b:Int)) (z:=z53) (by omega) (by omega);rwa [Int.toNat_natCast] at this
  ·rename_i hi
   have:=getD_mem (l:=(F.bl.getD b z53).f1) (i:=(i:Int)) (z:=z72) (by omega) (by omega);rwa [Int.toNat_natCast] at this
 ·exact (mBl_ge F F.bl 0).1
def upL:Nat→List Int
 | 0=>[]
 | i+1=>upL i++[(i:Int)]
theorem upL_len:∀ i,(upL i).length=i
 | 0=>rfl
 | i+1=>by simp [upL,upL_len i]
theorem upL_get:∀ n i,i<n→(upL n).getD i 0=(i:Int)
 | n+1,i,h=>by
  unfold upL
  by_cases e:i=n
  ·subst e;have:=getD_app (upL i) (i:Int) (0:Int);rw [upL_len] at this;exact this
  ·rw [getD_app_lt _ _ _ (by rw [upL_len];omega)];exact upL_get n i (by omega)
theorem l5_ok (k:Nat) {F:FV} (h:FnOk F) {b:Nat} (hb:b<F.bl.length) (hk:5000≤k):∀ (m i:Nat),i≤((F.bl.getD b z53).f1).length→((F.bl.getD b z53).f1).length - i<m →
  l5_0 (k+50) m (b:Int) (((F.bl.getD b z53).f1).length:Int) (i:Int) F.nm F.ws F.ar F.st F.rt F.bl (upL i)=some ([.bool true],[])
 | 0,_,_,h=>absurd h (by omega)
 | m+1,i,hi,hm=>by
  rw [l5_0_eq]
  have hlen:=(h.bk b hb).len
  by_cases c:i<((F.bl.getD b z53).f1).length
  ·have:=upL_len i
   unfold chk
   rw [if_pos (by omega),if_pos (by simp only [List.length_cons,List.length_nil];omega),w64 (x:=(i:Int)+1) (by omega) (by omega)]
   exact l5_ok k h hb hk m (i+1) (by omega) (by omega)
  ·obtain rfl:i=((F.bl.getD b z53).f1).length:=by omega
   have sl:=upL_len ((F.bl.getD b z53).f1).length
   have e21:=c21 h (k+6) (by omega)
   have e20:=c20 h hb _ sl (lsZ F) (k+3) (by omega)
   obtain ⟨st,e16,f,lg,hst⟩:=c16 h hb _ sl (k+4) (by omega)
   have one:st.length≤1:=by
    by_cases c1:st.length≤1
    ·exact c1
    ·obtain ⟨a1,a2⟩:=f.lk 0 (by omega)
     obtain ⟨g1,g2,_⟩:=chOf_lk.1 a1
     have a2:(upL ((F.bl.getD b z53).f1).length).getD (st.getD 0 0) 0=(upL ((F.bl.getD b z53).f1).length).getD (st.getD 1 0) 0:=of_decide_eq_true a2
     rw [upL_get _ _ (by omega),upL_get _ _ g2] at a2
     omega
   have fit:lgZ F ((F.bl.getD b z53).f1) (upL ((F.bl.getD b z53).f1).length)≤lsZ F:=by
    have hl:=ls_ok h
    have hm:=mBl_ok h
    have:sumTo (chOf F ((F.bl.getD b z53).f1) fun q=>(upL ((F.bl.getD b z53).f1).length).getD q 0) st st.length≤mBl F 0 F.bl:=by
     rcases Nat.lt_or_ge 0 st.length with c2 | c2
     ·rw [show st.length=0+1 from by omega]
      have:=chOf_max hb (fun q=>(upL ((F.bl.getD b z53).f1).length).getD q 0) (st.getD 0 0)
      rw [show ∀ X:Ch,sumTo X st (0+1)=X.d (st.getD 0 0) from fun X=>Int.zero_add _]
      exact this
     ·rw [show st.length=0 from by omega];exact hm.1
    omega
   rw [if_neg (by omega),e21,Option.bind_some,res21_eq,e20,Option.bind_some,res20_eq,decide_eq_true fit,if_pos rfl,e16,Option.bind_some,res16_eq]
   have lc:=castL_len st
   have:decide (((castL st).length:Int)≤1)=true:=decide_eq_true (by omega)
   exact congrArg (fun z:Bool=>some ([PV.bool (N:=N) z],([]:Heap N))) this
theorem apart_true (k:Nat) (s0:List Int) (s1 s2:List S66) (s3:List Int) (s4:List S75) (a:Int) (h0:0≤a) (h1:a≤255) (h4:s4.length<4000000000000) (hk:7000+s4.length≤k)
  (mk:FewOk s0 s1 s2 s3 s4→∃ F,FnOk F∧evF T k 11 [skv s0 s1 s2 s3 s4] []=some ([F.v],[])) :
  evF T (k+1) 5 [skv s0 s1 s2 s3 s4,.int .u8 a] []=some ([.bool true],[]):=by
 refine (f5_eq k _ _ _ _ _ _).trans ?_
 obtain ⟨j,rfl⟩:∃ j,k=j+60:=⟨k - 60,by omega⟩
 rw [awake j,Option.bind_some,res9_eq,if_neg (by simp)]
 obtain ⟨B,eB,hB⟩:=l10_ok (j+59) s0 s1 s2 s3 s4 h4 (j+59) 0 (by omega) (by omega) (fun q hq=>absurd hq (by omega))
 have e10:evF T (j+60) 10 [skv s0 s1 s2 s3 s4] []=some ([.bool B],[]):=(f10_eq (j+59) _ _ _ _ _).trans eB
 rw [e10,Option.bind_some,res10_eq]
 cases B
 ·rw [if_pos (show (!false)=true from rfl),Option.bind_some,res9_eq]
 ·rw [if_neg (by simp)]
  obtain ⟨F,hF,e11⟩:=mk (hB rfl)
  obtain ⟨b,hb,e12⟩:=c12 (j+59) hF a h0 h1
  have hlen:=(hF.bk b hb).len
  rw [e11,Option.bind_some,res11_eq,e12,Option.bind_some,res12_eq,if_pos (by omega),if_pos (by omega),Int.toNat_natCast]
  exact l5_ok (j+10) hF hb (by omega) (j+60) 0 (by omega) (by omega)
end Go.Proofs.Ytabcdpddhmekkaa.vm
