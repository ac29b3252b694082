-- Written for this claim by programs of this session (wip in its repo). Lean checks it.
import Derived.Test.YtabcdpddhmekkaaP22
set_option linter.all false
namespace Go.Proofs.Ytabcdpddhmekkaa.vm
open Go Go.RowKit Go.Vm
theorem arcZ_len {F:FV} {l:List S72} (h:BkOk F l) (P:Int):(arcZ F l P).length≤1000000:=by
 have:=h.len
 have:=arcA_len (chA F l).fr (P - 30 - endZ (szL F.bl)) l.length h.len l.length
 unfold arcZ
 omega
theorem lg_le {F:FV} {l:List S72} (s:List Int) {P:Int} (hP:30+endZ (szL F.bl)≤P) :
  lgZ F l s≤P↔∀ i,i<l.length→(chOf F l fun q=>s.getD q 0).cb i=true→(chOf F l fun q=>s.getD q 0).M i≤P - 30 - endZ (szL F.bl):=by
 unfold lgZ
 constructor
 ·intro h i hi hc
  have:=(fm_ge (tmL F l s) 30).2 _ (List.mem_map.mpr ⟨i,List.mem_range.mpr hi,rfl⟩)
  unfold Tm at this
  rw [if_pos hc] at this
  omega
 ·intro h
  rcases fm_mem (tmL F l s) 30 with e | e
  ·omega
  ·obtain ⟨q,hq,e2⟩:=List.mem_map.mp e
   rw [List.mem_range] at hq
   rw [← e2];unfold Tm
   by_cases c:(chOf F l fun q=>s.getD q 0).cb q=true
   ·rw [if_pos c];have:=h q hq c;omega
   ·rw [if_neg c];omega
def allH (s:List Int):List S64→Bool
 | []=>true
 | x::l=>decide (s.getD x.f0.toNat 0+x.f2≤s.getD x.f1.toNat 0)&&allH s l
theorem allH_iff (s:List Int):∀ l:List S64,allH s l=true↔∀ x∈l,s.getD x.f0.toNat 0+x.f2≤s.getD x.f1.toNat 0
 | []=>⟨fun _ x h=>absurd h (by simp),fun _=>rfl⟩
 | y::l=>by
  unfold allH
  rw [Bool.and_eq_true,decide_eq_true_eq,allH_iff s l]
  constructor
  ·rintro ⟨h1,h2⟩ x hx
   rcases List.mem_cons.mp hx with rfl | hx
   ·exact h1
   ·exact h2 x hx
  ·exact fun h=>⟨h y List.mem_cons_self,fun x hx=>h x (List.mem_cons_of_mem _ hx)⟩
theorem arcs_iff {F:FV} {l:List S72} (h:BkOk F l) (s:List Int) (up:∀ p q,p<q→q<l.length→lkB (l.getD p z72) (l.getD q z72)=true→s.getD p 0≤s.getD q 0) {P:Int} (hP:30+endZ (szL F.bl)≤P):allH s (arcZ F l P)=decide (lgZ F l s≤P):=by
 have ok:=chOf_ok h (fun q=>s.getD q 0)
 have key:=Ch.arcs_iff ok (s:=fun q=>s.getD q 0) (fun k i=>rfl) (fun k i e=>by
  obtain ⟨a1,a2,a3,a4,a5⟩:=chOf_lk.1 e
  exact up k i a1 a2 (by unfold lkB;rw [a3,a4,decide_eq_true a5];rfl)) (n:=l.length) (room:=P - 30 - endZ (szL F.bl)) (by omega)
 rw [Bool.eq_iff_iff,allH_iff,decide_eq_true_eq,lg_le s hP,← key]
 constructor
 ·intro H u i hu hi hr
  exact H ⟨(u:Int),(i:Int),1,0⟩ ((arcA_mem _ _ _ _ _).2 ⟨u,i,hu,hi,hr,rfl⟩)
 ·intro H x hx
  obtain ⟨u,w,hu,hw,hr,rfl⟩:=(arcA_mem _ _ _ _ _).1 hx
  exact H u w hu hw hr
theorem l7_ok (k:Nat) {F:FV} (h:FnOk F) {b:Nat} (hb:b<F.bl.length) (P:Int) (hP:lsZ F≤P) (s:List Int) (hs:s.length=((F.bl.getD b z53).f1).length) (hsb:∀ q,q<((F.bl.getD b z53).f1).length→0≤s.getD q 0∧s.getD q 0≤3*(((F.bl.getD b z53).f1).length:Int))
  (up:∀ p q,p<q→q<((F.bl.getD b z53).f1).length→lkB (((F.bl.getD b z53).f1).getD p z72) (((F.bl.getD b z53).f1).getD q z72)=true→s.getD p 0≤s.getD q 0) (hk:5000≤k):∀ (m i:Nat) (x:Bool),i≤(arcZ F ((F.bl.getD b z53).f1) P).length→(arcZ F ((F.bl.getD b z53).f1) P).length - i<m →
  (x&&allH s ((arcZ F ((F.bl.getD b z53).f1) P).drop i))=allH s (arcZ F ((F.bl.getD b z53).f1) P) →
  l7_0 (k+50) m (b:Int) P (arcZ F ((F.bl.getD b z53).f1) P) x ((arcZ F ((F.bl.getD b z53).f1) P).length:Int) (i:Int) F.nm F.ws F.ar F.st F.rt F.bl s=some ([.bool true],[])
 | 0,_,_,_,h,_=>absurd h (by omega)
 | m+1,i,x,hi,hm,hx=>by
  rw [l7_0_eq]
  have hlen:=(h.bk b hb).len
  have al:=arcZ_len (h.bk b hb) P
  have go:=l7_ok k h hb P hP s hs hsb up hk m (i+1)
  have mem:=fun x=>(arcA_mem (chA F ((F.bl.getD b z53).f1)).fr (P - 30 - endZ (szL F.bl)) ((F.bl.getD b z53).f1).length x ((F.bl.getD b z53).f1).length).1
  have iff:=arcs_iff (h.bk b hb) s up (P:=P) (by have:=ls_ok h;have:=mBl_ok h;omega)
  by_cases c:i<(arcZ F ((F.bl.getD b z53).f1) P).length
  ·rw [if_pos (by omega),w64 (x:=(i:Int)+1) (by omega) (by omega)]
   rw [drop_cons _ z64 c] at hx
   cases x
   ·rw [if_neg (by simp)]
    rw [Bool.false_and] at hx
    exact go false (by omega) (by omega) (by rw [Bool.false_and];exact hx)
   ·obtain ⟨u,w,hu,hw,_,e⟩:=mem ((arcZ F ((F.bl.getD b z53).f1) P).getD i z64) (by
     have:=getD_mem (l:=arcZ F ((F.bl.getD b z53).f1) P) (i:=(i:Int)) (z:=z64) (by omega) (by omega);rwa [Int.toNat_natCast] at this)
    have bu:=hsb u hu
    have cL:(i:Int)<((arcZ F ((F.bl.getD b z53).f1) P).length:Int):=by omega
    have ip:(0:Int)≤(i:Int):=by omega
    have x0:((arcZ F ((F.bl.getD b z53).f1) P).getD i z64).f0=(u:Int):=by rw [e]
    have x1:((arcZ F ((F.bl.getD b z53).f1) P).getD i z64).f1=(w:Int):=by rw [e]
    have x2:((arcZ F ((F.bl.getD b z53).f1) P).getD i z64).f2=1:=by rw [e]
    rw [if_pos rfl,if_pos ip,if_pos cL,Int.toNat_natCast,x0,x1,x2,Int.toNat_natCast u,Int.toNat_natCast w]
    rw [if_pos (by omega),if_pos (by omega),if_pos (by omega),if_pos ip,if_pos cL,if_pos (by omega),if_pos (by omega),if_pos (by omega),if_pos ip,if_pos cL,w64 (x:=s.getD u 0+1) (by omega) (by omega)]
    refine go _ (by omega) (by omega) ?_
    rw [Bool.true_and] at hx
    rw [← hx]
    show _=(decide (s.getD ((arcZ F ((F.bl.getD b z53).f1) P).getD i z64).f0.toNat 0+((arcZ F ((F.bl.getD b z53).f1) P).getD i z64).f2≤s.getD ((arcZ F ((F.bl.getD b z53).f1) P).getD i z64).f1.toNat 0)&&_)
    rw [x0,x1,x2,Int.toNat_natCast u,Int.toNat_natCast w]
  ·rw [List.drop_eq_nil_of_le (by omega)] at hx
   rw [show (x&&allH s [])=x by cases x <;> rfl] at hx
   have e20:=c20 h hb s hs P (k+3) (by omega)
   have e19:=c19 h hb s hs (k+4) (by omega)
   have n1:=c20_no F (b:Int) (s++[0]) P (fun hh=>by
    have h3:=hh.2.2
    rw [Int.toNat_natCast,List.length_append,← hs] at h3
    exact absurd h3 (by show ¬ s.length+1=s.length;omega)) (k+48)
   have n2:=c20_no F (-1) s P (fun hh=>by omega) (k+48)
   have ee:∀ z:Bool,(z==z)=true:=fun z=>by cases z <;> rfl
   unfold chk
   rw [if_neg (by omega),e20,Option.bind_some,res20_eq,hx,iff,if_pos (ee _),e19,Option.bind_some,res19_eq,if_pos (ee _),if_pos (by simp only [List.length_cons,List.length_nil];omega),n1,Option.bind_some,res20_eq,if_pos (show (!false)=true from rfl),n2,Option.bind_some,res20_eq]
   rfl
theorem fits_true (k:Nat) (s0:List Int) (s1 s2:List S66) (s3:List Int) (s4:List S75) (a a1:Int) (h0:0≤a) (h1:a≤255) (g0:0≤a1) (g1:a1≤255) (more:List Int) (hx:∀ v∈more,0≤v∧v≤255) (h4:s4.length<4000000000000) (hk:1100000+s4.length≤k)
  (mk:FewOk s0 s1 s2 s3 s4→∃ F,FnOk F∧evF T k 11 [skv s0 s1 s2 s3 s4] []=some ([F.v],[])) :
  evF T (k+1) 7 [skv s0 s1 s2 s3 s4,.agg [.int .u8 a,.int .u8 a1],.vsl none (.int .u8) more] []=some ([.bool true],[]):=by
 refine (f7_eq k _ _ _ _ _ _ _ _).trans ?_
 obtain ⟨j,rfl⟩:∃ j,k=j+60:=⟨k - 60,by omega⟩
 rw [awake j,Option.bind_some,res9_eq,if_neg (by simp)]
 obtain ⟨B,eB,hB⟩:=l10_ok (j+59) s0 s1 s2 s3 s4 h4 (j+59) 0 (by omega) (by omega) (fun q hq=>absurd hq (by omega))
 have e10:evF T (j+60) 10 [skv s0 s1 s2 s3 s4] []=some ([.bool B],[]):=(f10_eq (j+59) _ _ _ _ _).trans eB
 rw [e10,Option.bind_some,res10_eq]
 cases B
 ·rw [if_pos (show (!false)=true from rfl),Option.bind_some,res9_eq]
 ·rw [if_neg (by simp)]
  obtain ⟨F,hF,e11⟩:=mk (hB rfl)
  obtain ⟨b,hb,e12⟩:=c12 (j+59) hF a h0 h1
  obtain ⟨st,e13,l13,b13,up⟩:=c13 (j+45) hF hb more hx (by omega)
  have e21:=c21 hF (j+16) (by omega)
  have hl:=ls_ok hF
  have al:=arcZ_len (hF.bk b hb) (lsZ F+8*a1)
  have e22:=c22 hF hb (lsZ F+8*a1) (by omega) (by omega) (j+15) (by omega)
  rw [e11,Option.bind_some,res11_eq,if_pos (by omega),if_pos (by omega),e12,Option.bind_some,res12_eq,e21,Option.bind_some,res21_eq,if_pos (by omega),if_pos (by omega),e13,Option.bind_some,res13_eq,w64 (x:=a1) (by omega) (by omega),w64 (x:=8*a1) (by omega) (by omega),w64 (x:=lsZ F+8*a1) (by omega) (by omega),e22,Option.bind_some,res22_eq,if_neg (fun hh=>hh rfl)]
  exact l7_ok (j+10) hF hb (lsZ F+8*a1) (by omega) st l13 b13 up (by omega) (j+60) 0 true (by omega) (by omega) (by rw [List.drop_zero,Bool.true_and])
end Go.Proofs.Ytabcdpddhmekkaa.vm
