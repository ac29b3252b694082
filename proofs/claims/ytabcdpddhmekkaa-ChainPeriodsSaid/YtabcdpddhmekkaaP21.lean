-- Written for this claim by programs of this session (wip in its repo). Lean checks it.
import Derived.Test.YtabcdpddhmekkaaP20
set_option linter.all false
namespace Go.Proofs.Ytabcdpddhmekkaa.vm
open Go Go.RowKit Go.Vm
noncomputable def mIn (F:FV) (a:Int):List S72→Int
 | []=>a
 | x::l=>mIn F (if a<dZ F x then dZ F x else a) l
noncomputable def mBl (F:FV) (a:Int):List S53→Int
 | []=>a
 | b::l=>mBl F (mIn F a b.f1) l
theorem mIn_ge (F:FV):∀ (l:List S72) (a:Int),a≤mIn F a l∧∀ x∈l,dZ F x≤mIn F a l
 | [],a=>⟨Int.le_refl _,fun x h=>absurd h (by simp)⟩
 | y::l,a=>by
  obtain ⟨h1,h2⟩:=mIn_ge F l (if a<dZ F y then dZ F y else a)
  have q:a≤(if a<dZ F y then dZ F y else a)∧dZ F y≤(if a<dZ F y then dZ F y else a):=by split <;> omega
  unfold mIn
  refine ⟨Int.le_trans q.1 h1,fun x hx=>?_⟩
  rcases List.mem_cons.mp hx with rfl | hx
  ·exact Int.le_trans q.2 h1
  ·exact h2 x hx
theorem mIn_le (F:FV):∀ (l:List S72) (a c:Int),a≤c→(∀ x∈l,dZ F x≤c)→mIn F a l≤c
 | [],a,c,h,_=>h
 | y::l,a,c,h,g=>by
  unfold mIn
  refine mIn_le F l _ c ?_ (fun x hx=>g x (List.mem_cons_of_mem _ hx))
  have:=g y List.mem_cons_self
  split <;> omega
theorem mBl_ge (F:FV):∀ (bl:List S53) (a:Int),a≤mBl F a bl∧∀ b∈bl,∀ x∈b.f1,dZ F x≤mBl F a bl
 | [],a=>⟨Int.le_refl _,fun x h=>absurd h (by simp)⟩
 | y::l,a=>by
  obtain ⟨h1,h2⟩:=mBl_ge F l (mIn F a y.f1)
  obtain ⟨g1,g2⟩:=mIn_ge F y.f1 a
  unfold mBl
  refine ⟨by omega,fun b hb x hx=>?_⟩
  rcases List.mem_cons.mp hb with rfl | hb
  ·have:=g2 x hx;omega
  ·exact h2 b hb x hx
theorem mBl_le (F:FV):∀ (bl:List S53) (a c:Int),a≤c→(∀ b∈bl,∀ x∈b.f1,dZ F x≤c)→mBl F a bl≤c
 | [],a,c,h,_=>h
 | y::l,a,c,h,g=>by
  unfold mBl
  exact mBl_le F l _ c (mIn_le F _ _ _ h (g y List.mem_cons_self)) (fun b hb=>g b (List.mem_cons_of_mem _ hb))
noncomputable def lsOf (F:FV) (d:Int):Int:=if frzZ (szL F.bl)<30+d+endZ (szL F.bl) then 30+d+endZ (szL F.bl) else frzZ (szL F.bl)
noncomputable def lsZ (F:FV):Int:=lsOf F (mBl F 0 F.bl)
theorem dZ_500 {F:FV} (h:FnOk F):∀ b∈F.bl,∀ x∈b.f1,dZ F x≤500:=by
 intro b hb x hx
 obtain ⟨i,hi,rfl⟩:=List.mem_iff_getElem.mp hb
 obtain ⟨j,hj,rfl⟩:=List.mem_iff_getElem.mp hx
 have B:=h.bk i hi
 have e:F.bl.getD i z53=F.bl[i]:=by rw [List.getD_eq_getElem?_getD,List.getElem?_eq_getElem hi];rfl
 rw [e] at B
 have I:=B.ins j hj
 have e2:(F.bl[i].f1).getD j z72=F.bl[i].f1[j]:=by rw [List.getD_eq_getElem?_getD,List.getElem?_eq_getElem hj];rfl
 rw [e2] at I
 obtain ⟨_,_,_,_,_,_,hu⟩:=dZ_ok B.fo I
 exact hu.d.2
theorem mBl_ok {F:FV} (h:FnOk F):0≤mBl F 0 F.bl∧mBl F 0 F.bl≤500:=⟨(mBl_ge F F.bl 0).1,mBl_le F F.bl 0 500 (by omega) (dZ_500 h)⟩
theorem ls_ok {F:FV} (h:FnOk F):30+mBl F 0 F.bl+endZ (szL F.bl)≤lsZ F∧320≤lsZ F∧lsZ F≤2000:=by
 have:=end_ok h
 have:=mBl_ok h
 unfold lsZ lsOf;split <;> omega
theorem l39_in (k m0:Nat) (F:FV) {l:List S72} (h:BkOk F l) (x13:List S53) (x14 x15 B E Z:Int):∀ (m j:Nat) (a:Int),j≤l.length→l.length - j<m →
  l39_1 (k+43) m0 m a x13 x14 x15 l (l.length:Int) (j:Int) F.nm F.ws F.ar F.st F.rt F.bl B E Z=l39_0 (k+43) m0 (mIn F a (l.drop j)) x13 x14 (wrap64 (x15+1)) F.nm F.ws F.ar F.st F.rt F.bl B E Z
 | 0,_,_,_,h=>absurd h (by omega)
 | m+1,j,a,hj,hm=>by
  rw [l39_1_eq]
  have hlen:=h.len
  by_cases c:j<l.length
  ·obtain ⟨u0,u1,u3,u4,u5,e,hu⟩:=dZ_ok h.fo (h.ins j c)
   have e48:=hu.own k
   rw [if_pos (by omega),if_pos (by omega),if_pos (by omega),Int.toNat_natCast,e48,Option.bind_some,res48_eq,w64 (x:=(j:Int)+1) (by omega) (by omega),drop_cons l z72 c]
   exact l39_in k m0 F h x13 x14 x15 B E Z m (j+1) _ (by omega) (by omega)
  ·rw [if_neg (by omega),List.drop_eq_nil_of_le (by omega)]
   rfl
theorem l39_out (k:Nat) {F:FV} (h:FnOk F) (hk:1000≤k):∀ (m i:Nat) (a:Int),i≤F.bl.length→F.bl.length - i<m→0≤a∧a≤500 →
  l39_0 (k+43) m a F.bl (F.bl.length:Int) (i:Int) F.nm F.ws F.ar F.st F.rt F.bl 30 (endZ (szL F.bl)) (frzZ (szL F.bl))=some ([.int .i64 (lsOf F (mBl F a (F.bl.drop i)))],[])
 | 0,_,_,_,h,_=>absurd h (by omega)
 | m+1,i,a,hi,hm,ha=>by
  rw [l39_0_eq]
  have hn:=h.n1
  have he:=end_ok h
  by_cases c:i<F.bl.length
  ·have hlen:=(h.bk i c).len
   rw [if_pos (by omega),if_pos (by omega),if_pos (by omega),Int.toNat_natCast]
   refine (l39_in k m F (h.bk i c) F.bl _ _ 30 _ _ (k+43) 0 a (by omega) (by omega)).trans ?_
   rw [List.drop_zero,w64 (x:=(i:Int)+1) (by omega) (by omega),drop_cons F.bl z53 c]
   have g:=(mIn_ge F ((F.bl.getD i z53).f1) a).1
   have hm5:mIn F a ((F.bl.getD i z53).f1)≤500:=mIn_le F _ _ _ ha.2 (fun x hx=>dZ_500 h _ (by have:=getD_mem (l:=F.bl) (i:=(i:Int)) (z:=z53) (by omega) (by omega);rwa [Int.toNat_natCast] at this) x hx)
   exact l39_out k h hk m (i+1) _ (by omega) (by omega) ⟨by omega,hm5⟩
  ·rw [if_neg (by omega),List.drop_eq_nil_of_le (by omega),w64 (x:=30+a) (by omega) (by omega),w64 (by omega) (by omega)]
   rfl
theorem c39 {F:FV} (h:FnOk F) (k:Nat) (hk:1000≤k):evF T (k+44) 39 [F.v] []=some ([.int .i64 (lsZ F)],[]):=by
 refine (f39_eq (k+43) _ _ _ _ _ _).trans ?_
 have hn:=h.n1
 have e33:=c33 h (k+42) (by omega)
 have e32:=c32 (k+40) h.sz.1 h.sz.2
 rw [e33,Option.bind_some,res33_eq,e32,Option.bind_some,res32_eq]
 exact l39_out k h hk (k+43) 0 0 (by omega) (by omega) (by omega)
theorem lsOf_max (F:FV) (a d:Int):(if lsOf F a<30+d+endZ (szL F.bl) then 30+d+endZ (szL F.bl) else lsOf F a)=lsOf F (if a<d then d else a):=by
 unfold lsOf
 split <;> split <;> split <;> omega
theorem l21_in (k m0:Nat) {F:FV} (h:FnOk F) {i:Nat} (hi:i<F.bl.length):∀ (m j:Nat) (a:Int),j≤((F.bl.getD i z53).f1).length→((F.bl.getD i z53).f1).length - j<m →
  l21_1 (k+43) m0 m (lsOf F a) (i:Int) (j:Int) F.nm F.ws F.ar F.st F.rt F.bl 30 (endZ (szL F.bl)) (frzZ (szL F.bl))=l21_0 (k+43) m0 (lsOf F (mIn F a (((F.bl.getD i z53).f1).drop j))) ((i+1:Nat):Int) F.nm F.ws F.ar F.st F.rt F.bl 30 (endZ (szL F.bl)) (frzZ (szL F.bl))
 | 0,_,_,_,h=>absurd h (by omega)
 | m+1,j,a,hj,hm=>by
  rw [l21_1_eq]
  have hn:=h.n1
  have he:=end_ok h
  have B:=h.bk i hi
  have hlen:=B.len
  have go:=l21_in k m0 h hi m (j+1)
  have ip:(0:Int)≤(i:Int):=by omega
  have iL:(i:Int)<(F.bl.length:Int):=by omega
  rw [if_pos ip,if_pos iL,Int.toNat_natCast]
  generalize (F.bl.getD i z53).f1=l at hj hm B hlen go
  by_cases c:j<l.length
  ·obtain ⟨u0,u1,u3,u4,u5,e,hu⟩:=dZ_ok B.fo (B.ins j c)
   have e38:=hu.ref k
   have hd:=hu.d
   rw [if_pos (by omega),if_pos ip,if_pos iL,if_pos (by omega),if_pos (by omega),Int.toNat_natCast,e38,Option.bind_some,res38_eq,w64 (x:=30+dZ F (l.getD j z72)) (by omega) (by omega),w64 (x:=30+dZ F (l.getD j z72)+endZ (szL F.bl)) (by omega) (by omega),w64 (x:=(j:Int)+1) (by omega) (by omega),lsOf_max,drop_cons l z72 c]
   exact go _ (by omega) (by omega)
  ·rw [if_neg (by omega),List.drop_eq_nil_of_le (by omega),w64 (x:=(i:Int)+1) (by omega) (by omega)]
   rfl
theorem l21_out (k:Nat) {F:FV} (h:FnOk F) (hk:1000≤k):∀ (m i:Nat) (a:Int),i≤F.bl.length→F.bl.length - i<m →
  l21_0 (k+43) m (lsOf F a) (i:Int) F.nm F.ws F.ar F.st F.rt F.bl 30 (endZ (szL F.bl)) (frzZ (szL F.bl))=some ([.int .i64 (lsOf F (mBl F a (F.bl.drop i)))],[])
 | 0,_,_,_,h=>absurd h (by omega)
 | m+1,i,a,hi,hm=>by
  rw [l21_0_eq]
  by_cases c:i<F.bl.length
  ·have hlen:=(h.bk i c).len
   rw [if_pos (by omega)]
   refine (l21_in k m h c (k+43) 0 a (by omega) (by omega)).trans ?_
   rw [List.drop_zero,drop_cons F.bl z53 c]
   exact l21_out k h hk m (i+1) _ (by omega) (by omega)
  ·rw [if_neg (by omega),List.drop_eq_nil_of_le (by omega)]
   rfl
theorem c21 {F:FV} (h:FnOk F) (k:Nat) (hk:1000≤k):evF T (k+44) 21 [F.v] []=some ([.int .i64 (lsZ F)],[]):=by
 refine (f21_eq (k+43) _ _ _ _ _ _).trans ?_
 have hn:=h.n1
 have he:=end_ok h
 have e1:=c36 h (k+42) (by omega)
 have e2:=c35 (k+1) h.sz.1 h.sz.2
 rw [e1,Option.bind_some,res36_eq,e2,Option.bind_some,res35_eq,w64 (x:=30+endZ (szL F.bl)) (by omega) (by omega)]
 have:=l21_out k h hk (k+43) 0 0 (by omega) (by omega)
 unfold lsOf at this
 rw [Int.add_zero] at this
 exact this
end Go.Proofs.Ytabcdpddhmekkaa.vm
