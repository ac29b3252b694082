-- Written for this claim by programs of this session (wip in its repo). Lean checks it.
import Derived.Test.YtabcdpddhmekkaaP22
set_option linter.all false
namespace Go.Proofs.Ytabcdpddhmekkaa.vm
open Go Go.RowKit Go.Vm
theorem arcZ_len {F:FV} {l:List S72} (h:BkOk F l) (P:Int):(arcZ F l P).length≤1000000:=by
 have:=h.len
 have:=arcA_len (chA F l).fr (P - 30 - endZ (szL F.bl)) l.length h.len l.length
 unfold arcZ
 omega
theorem lg_le {F:FV} {l:List S72} (s:List Int) {P:Int} (hP:30+endZ (szL F.bl)≤P) :
  lgZ F l s≤P↔∀ i,i<l.length→(chOf F l fun q=>s.getD q 0).cb i=true→(chOf F l fun q=>s.getD q 0).M i≤P - 30 - endZ (szL F.bl):=by
 unfold lgZ
 constructor
 ·intro h i hi hc
  have:=(fm_ge (tmL F l s) 30).2 _ (List.mem_map.mpr ⟨i,List.mem_range.mpr hi,rfl⟩)
  unfold Tm at this
  rw [if_pos hc] at this
  omega
 ·intro h
  rcases fm_mem (tmL F l s) 30 with e | e
  ·omega
  ·obtain ⟨q,hq,e2⟩:=List.mem_map.mp e
   rw [List.mem_range] at hq
   rw [← e2];unfold Tm
   by_cases c:(chOf F l fun q=>s.getD q 0).cb q=true
   ·rw [if_pos c];have:=h q hq c;omega
   ·rw [if_neg c];omega
def allH (s:List Int):List S64→Bool
 | []=>true
 | x::l=>decide (s.getD x.f0.toNat 0+x.f2≤s.getD x.f1.toNat 0)&&allH s l
theorem allH_iff (s:List Int):∀ l:List S64,allH s l=true↔∀ x∈l,s.getD x.f0.toNat 0+x.f2≤s.getD x.f1.toNat 0
 | []=>⟨fun _ x h=>absurd h (by simp),fun _=>rfl⟩
 | y::l=>by
  unfold allH
  rw [Bool.and_eq_true,decide_eq_true_eq,allH_iff s l]
  constructor
  ·rintro ⟨h1,h2⟩ x hx
   rcases List.mem_cons.mp hx with rfl | hx
   ·exact h1
   ·exact h2 x hx
  ·exact fun h=>⟨h y List.mem_cons_self,fun x hx=>h x (List.mem_cons_of_mem _ hx)⟩
theorem arcs_iff {F:FV} {l:List S72} (h:BkOk F l) (s:List Int) (up:∀ p q,p<q→q<l.length→lkB (l.getD p z72) (l.getD q z72)=true→s.getD p 0≤s.getD q 0) {P:Int} (hP:30+endZ (szL F.bl)≤P):allH s (arcZ F l P)=decide (lgZ F l s≤P):=by
 have ok:=chOf_ok h (fun q=>s.getD q 0)
 have key:=Ch.arcs_iff ok (s:=fun q=>s.getD q 0) (fun k i=>rfl) (fun k i e=>by
  obtain ⟨a1,a2,a3,a4,a5⟩:=chOf_lk.1 e
  exact up k i a1 a2 (by unfold lkB;rw [a3,a4,decide_eq_true a5];rfl)) (n:=l.length) (room:=P - 30 - endZ (szL F.bl)) (by omega)
 rw [Bool.eq_iff_iff,allH_iff,decide_eq_true_eq,lg_le s hP,← key]
 constructor
 ·intro H u i hu hi hr
  exact H ⟨(u:Int),(i:Int),1,0⟩ ((arcA_mem _ _ _ _ _).2 ⟨u,i,hu,hi,hr,rfl⟩)
 ·intro H x hx
  obtain ⟨u,w,hu,hw,hr,rfl⟩:=(arcA_mem _ _ _ _ _).1 hx
  exact H u w hu hw hr
theorem l8_in (k m0:Nat) (x y:List S64) (lx:x.length≤1000000) (ly:y.length≤1000000) (i:Nat) (hi:i<y.length):∀ (m n:Nat),n≤x.length→x.length - n<m→(y.drop i).Sublist (x.drop n) →
  ∃ n':Nat,n'≤x.length∧(y.drop (i+1)).Sublist (x.drop n')∧l8_1 k m0 m x y (n:Int) (i:Int) (y.length:Int) (i:Int)=l8_0 k m0 x y (n':Int) (y.length:Int) ((i+1:Nat):Int)
 | 0,_,_,h,_=>absurd h (by omega)
 | m+1,n,hn,hm,hs=>by
  rw [l8_1_eq]
  rw [drop_cons y z64 hi] at hs
  by_cases c:n<x.length
  ·rw [drop_cons x z64 c] at hs
   rw [if_pos (by omega),if_pos (by omega),if_pos (by omega),if_pos (by omega),if_pos (by omega),w64 (x:=(n:Int)+1) (by omega) (by omega),w64 (x:=(i:Int)+1) (by omega) (by omega),Int.toNat_natCast n,Int.toNat_natCast i]
   generalize ey:y.getD i z64=p at hs
   generalize ex:x.getD n z64=q at hs
   by_cases e:p=q
   ·subst e
    rw [if_neg (fun hh=>hh ⟨rfl,rfl,rfl,rfl,trivial⟩),if_neg (by omega)]
    refine ⟨n,hn,?_,rfl⟩
    rw [drop_cons x z64 c,ex]
    exact (List.sublist_cons_self _ _).trans hs
   ·have ne:¬ (q.f0=p.f0∧q.f1=p.f1∧q.f2=p.f2∧q.f3=p.f3∧True):=fun ⟨h1,h2,h3,h4,_⟩=>e (by cases p;cases q;simp only at h1 h2 h3 h4;subst h1 h2 h3 h4;rfl)
    rw [if_pos ne]
    refine l8_in k m0 x y lx ly i hi m (n+1) (by omega) (by omega) ?_
    rw [drop_cons y z64 hi,ey]
    cases hs with
    | cons _ h=>exact h
    | cons_cons _ h=>exact absurd rfl e
  ·rw [List.drop_eq_nil_of_le (show x.length≤n by omega)] at hs
   exact absurd (List.eq_nil_of_sublist_nil hs) (by simp)
theorem l8_out (k:Nat) (x y:List S64) (lx:x.length≤1000000) (ly:y.length≤1000000) (hk:1100000≤k):∀ (m i n:Nat),i≤y.length→y.length - i<m→n≤x.length→(y.drop i).Sublist (x.drop n) →
  l8_0 k m x y (n:Int) (y.length:Int) (i:Int)=some ([.bool true],[])
 | 0,_,_,_,h,_,_=>absurd h (by omega)
 | m+1,i,n,hi,hm,hn,hs=>by
  rw [l8_0_eq]
  by_cases c:i<y.length
  ·rw [if_pos (by omega)]
   obtain ⟨n',hn',hs',e⟩:=l8_in k m x y lx ly i c k n hn (by omega) hs
   exact e.trans (l8_out k x y lx ly hk m (i+1) n' (by omega) (by omega) hn' hs')
  ·rw [if_neg (by omega)]
theorem periods_true (k:Nat) (s0:List Int) (s1 s2:List S66) (s3:List Int) (s4:List S75) (a a0 a1:Int) (h0:0≤a) (h1:a≤255) (g0:0≤a0∧a0≤65535) (g1:0≤a1∧a1≤65535) (h4:s4.length<4000000000000) (hk:1200000+s4.length≤k)
  (mk:FewOk s0 s1 s2 s3 s4→∃ F,FnOk F∧evF T k 11 [skv s0 s1 s2 s3 s4] []=some ([F.v],[])) :
  evF T (k+1) 8 [skv s0 s1 s2 s3 s4,.int .u8 a,.agg [.int .u16 a0,.int .u16 a1]] []=some ([.bool true],[]):=by
 refine (f8_eq k _ _ _ _ _ _ _ _).trans ?_
 obtain ⟨j,rfl⟩:∃ j,k=j+60:=⟨k - 60,by omega⟩
 rw [awake j,Option.bind_some,res9_eq,if_neg (by simp)]
 obtain ⟨B,eB,hB⟩:=l10_ok (j+59) s0 s1 s2 s3 s4 h4 (j+59) 0 (by omega) (by omega) (fun q hq=>absurd hq (by omega))
 have e10:evF T (j+60) 10 [skv s0 s1 s2 s3 s4] []=some ([.bool B],[]):=(f10_eq (j+59) _ _ _ _ _).trans eB
 rw [e10,Option.bind_some,res10_eq]
 cases B
 ·rw [if_pos (show (!false)=true from rfl),Option.bind_some,res9_eq]
 ·rw [if_neg (by simp)]
  obtain ⟨F,hF,e11⟩:=mk (hB rfl)
  obtain ⟨b,hb,e12⟩:=c12 (j+59) hF a h0 h1
  have e21:=c21 hF (j+16) (by omega)
  have hl:=ls_ok hF
  rw [e11,Option.bind_some,res11_eq,e12,Option.bind_some,res12_eq,e21,Option.bind_some,res21_eq,if_pos (by omega),if_pos (by omega),if_pos (by omega),if_pos (by omega)]
  have m1:0≤(if a1<a0 then a1 else a0)∧(if a1<a0 then a1 else a0)≤65535∧(if a1<a0 then a1 else a0)≤(if a0<a1 then a1 else a0)∧(if a0<a1 then a1 else a0)≤65535:=by split <;> split <;> omega
  generalize (if a1<a0 then a1 else a0)=p1 at m1
  generalize (if a0<a1 then a1 else a0)=p2 at m1
  have e1:=c22 hF hb (lsZ F+p1) (by omega) (by omega) (j+15) (by omega)
  have e2:=c22 hF hb (lsZ F+p2) (by omega) (by omega) (j+15) (by omega)
  rw [w64 (x:=p1) (by omega) (by omega),w64 (x:=p2) (by omega) (by omega),w64 (x:=lsZ F+p1) (by omega) (by omega),w64 (x:=lsZ F+p2) (by omega) (by omega),e1,Option.bind_some,res22_eq,if_pos (by omega),if_pos (by omega),if_pos (by omega),if_pos (by omega),e2,Option.bind_some,res22_eq,if_neg (fun hh=>hh rfl),if_neg (fun hh=>hh rfl)]
  have a1:=arcZ_len (hF.bk b hb) (lsZ F+p1)
  have a2:=arcZ_len (hF.bk b hb) (lsZ F+p2)
  refine l8_out (j+60) _ _ a1 a2 (by omega) (j+60) 0 0 (by omega) (by omega) (by omega) ?_
  rw [List.drop_zero,List.drop_zero]
  exact arcA_sub _ (by omega) _ _
end Go.Proofs.Ytabcdpddhmekkaa.vm
