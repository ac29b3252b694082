-- Written for this claim by programs of this session (wip in its repo). Lean checks it.
import Derived.Test.YtabcdpddhmekkaaP22
set_option linter.all false
namespace Go.Proofs.Ytabcdpddhmekkaa.vm
open Go Go.RowKit Go.Vm
theorem l23_in (k m0:Nat) (F:FV) (b:Int) (P:Int) (u n:Nat) (fr:Nat→Nat→Int) (hn:n≤1000) (E Z:Int) (hE:0≤E∧E≤1000) (hP:0≤P - 30 - E) (r2:List S64) (h2:r2.length<5000000) (r3:List Int) (h3:r3.length=n) (hr:∀ q,q<n→r3.getD q 0=fr u q∧fr u q≤1000000) :
  ∀ (m v:Nat),v≤n→n - v<m →
   l23_1 k m0 m b P (u:Int) (v:Int) F.nm F.ws F.ar F.st F.rt F.bl 30 E Z (r2++rowA fr (P - 30 - E) u v) r3 =
    l23_0 k m0 b P (wrap64 ((u:Int)+1)) F.nm F.ws F.ar F.st F.rt F.bl 30 E Z (r2++rowA fr (P - 30 - E) u n)
 | 0,_,_,h=>absurd h (by omega)
 | m+1,v,hv,hm=>by
  rw [l23_1_eq]
  by_cases c:v<n
  ·have vp:(0:Int)≤(v:Int):=by omega
   have vL:(v:Int)<(r3.length:Int):=by omega
   have vN:v<r3.length:=by omega
   obtain ⟨g1,g2⟩:=hr v c
   have rl:=rowA_len fr (P - 30 - E) u v
   have go:=l23_in k m0 F b P u n fr hn E Z hE hP r2 h2 r3 h3 hr m (v+1) (by omega) (by omega)
   rw [show rowA fr (P - 30 - E) u (v+1)=rowA fr (P - 30 - E) u v++if P - 30 - E<fr u v then [⟨(u:Int),(v:Int),1,0⟩] else [] from rfl] at go
   rw [← g1] at go g2
   rw [if_pos vL,Int.toNat_natCast,if_pos vp,if_pos vL,if_pos vN,w64 (x:=(v:Int)+1) (by omega) (by omega)]
   by_cases c0:r3.getD v 0≥0
   ·rw [if_pos c0,if_pos vp,if_pos vL,if_pos vN,w64 (x:=30+r3.getD v 0) (by omega) (by omega),w64 (x:=30+r3.getD v 0+E) (by omega) (by omega)]
    by_cases c1:30+r3.getD v 0+E>P
    ·unfold chk
     rw [if_pos c1,if_pos (by simp only [List.length_append,List.length_cons,List.length_nil];omega)]
     rw [if_pos (by omega),← List.append_assoc] at go
     exact go
    ·rw [if_neg c1]
     rw [if_neg (by omega),List.append_nil] at go
     exact go
   ·rw [if_neg c0]
    rw [if_neg (by omega),List.append_nil] at go
    exact go
  ·rw [if_neg (by omega),show v=n from by omega]
theorem l23_out (k:Nat) {F:FV} (h:FnOk F) {b:Nat} (hb:b<F.bl.length) (P:Int) (hP:0≤P - 30 - endZ (szL F.bl)) (hk:2000≤k) :
  ∀ (m u:Nat),u≤((F.bl.getD b z53).f1).length→((F.bl.getD b z53).f1).length - u<m →
   l23_0 (k+44) m (b:Int) P (u:Int) F.nm F.ws F.ar F.st F.rt F.bl 30 (endZ (szL F.bl)) (frzZ (szL F.bl)) (arcA (chA F ((F.bl.getD b z53).f1)).fr (P - 30 - endZ (szL F.bl)) ((F.bl.getD b z53).f1).length u)=some ([.vsl none (.named 64) (arcZ F ((F.bl.getD b z53).f1) P)],[])
 | 0,_,_,h=>absurd h (by omega)
 | m+1,u,hu,hm=>by
  rw [l23_0_eq]
  have B:=h.bk b hb
  have hlen:=B.len
  have hE:=end_ok h
  have al:=arcA_len (chA F ((F.bl.getD b z53).f1)).fr (P - 30 - endZ (szL F.bl)) ((F.bl.getD b z53).f1).length hlen u
  rw [if_pos (by omega),if_pos (by omega),Int.toNat_natCast]
  by_cases c:u<((F.bl.getD b z53).f1).length
  ·have e31:evF T (k+44) 31 [F.v,.int .i64 (b:Int),.int .i64 (u:Int),.vsl none (.int .i64) []] []=_:=c31 k F b hb B [] (fun _ _=>true) (.inl ⟨rfl,fun _ _=>rfl⟩) u (by omega)
   rw [if_pos (by omega),e31,Option.bind_some,res31_eq]
   have g:=l23_in (k+44) m F (b:Int) P u ((F.bl.getD b z53).f1).length (chA F ((F.bl.getD b z53).f1)).fr hlen (endZ (szL F.bl)) (frzZ (szL F.bl)) (by omega) hP (arcA (chA F ((F.bl.getD b z53).f1)).fr (P - 30 - endZ (szL F.bl)) ((F.bl.getD b z53).f1).length u) (by omega)
    (tabF ((chA F ((F.bl.getD b z53).f1)).stepF u) ((F.bl.getD b z53).f1).length) (tab_len _ _) (fun q hq=>⟨tab_get _ _ q hq,by have:=chA_le B u q;omega⟩) (k+44) 0 (by omega) (by omega)
   have go:=l23_out k h hb P hP hk m (u+1) (by omega) (by omega)
   have e1:wrap64 ((u:Int)+1)=((u+1:Nat):Int):=by rw [w64 (by omega) (by omega)];rfl
   rw [show rowA (chA F ((F.bl.getD b z53).f1)).fr (P - 30 - endZ (szL F.bl)) u 0 = [] from rfl,List.append_nil,e1] at g
   exact g.trans go
  ·rw [if_neg (by omega),show u=((F.bl.getD b z53).f1).length from by omega]
   rfl
theorem c23 {F:FV} (h:FnOk F) {b:Nat} (hb:b<F.bl.length) (P:Int) (hP:lsZ F≤P) (k:Nat) (hk:2000≤k):evF T (k+45) 23 [F.v,.int .i64 (b:Int),.int .i64 P] []=some ([.vsl none (.named 64) (arcZ F ((F.bl.getD b z53).f1) P)],[]):=by
 have e17:=c17 h (k+1)
 have hl:=ls_ok h
 have hm:=mBl_ok h
 have hlen:=(h.bk b hb).len
 refine (f23_eq (k+44) _ _ _ _ _ _ _ _).trans ?_
 rw [e17,Option.bind_some,res17_eq]
 exact l23_out k h hb P (by omega) hk (k+44) 0 (by omega) (by omega)
theorem arcZ_len {F:FV} {l:List S72} (h:BkOk F l) (P:Int):(arcZ F l P).length≤1000000:=by
 have:=h.len
 have:=arcA_len (chA F l).fr (P - 30 - endZ (szL F.bl)) l.length h.len l.length
 unfold arcZ
 omega
theorem l6_ok (k:Nat) {F:FV} (h:FnOk F) (P:Int) (l:List S64) (hl:l.length≤1000000):∀ (m i:Nat),i≤l.length→l.length - i<m →
  l6_0 (k+1) m P l l (l.length:Int) (i:Int) F.nm F.ws F.ar F.st F.rt F.bl=some ([.bool true],[])
 | 0,_,_,h=>absurd h (by omega)
 | m+1,i,hi,hm=>by
  rw [l6_0_eq]
  by_cases c:i<l.length
  ·rw [if_pos (by omega),if_pos (by omega),if_pos (by omega),if_pos (by omega),if_pos (by omega),if_neg (fun hh=>hh ⟨rfl,rfl,rfl,rfl,trivial⟩),w64 (x:=(i:Int)+1) (by omega) (by omega)]
   exact l6_ok k h P l hl m (i+1) (by omega) (by omega)
  ·have e1:=c22_no F (F.bl.length:Int) P (.inr (Int.le_refl _)) k
   have e2:=c22_no F (-1) 0 (.inl (by omega)) k
   rw [if_neg (by omega),e1,Option.bind_some,res22_eq,e2,Option.bind_some,res22_eq,if_pos rfl]
   rfl
theorem arcs_true (k:Nat) (s0:List Int) (s1 s2:List S66) (s3:List Int) (s4:List S75) (a:Int) (h0:0≤a) (h1:a≤255) (P:Int) (hP:0≤P∧P≤65535) (h4:s4.length<4000000000000) (hk:1100000+s4.length≤k)
  (mk:FewOk s0 s1 s2 s3 s4→∃ F,FnOk F∧evF T k 11 [skv s0 s1 s2 s3 s4] []=some ([F.v],[])) :
  evF T (k+1) 6 [skv s0 s1 s2 s3 s4,.int .u8 a,.int .u16 P] []=some ([.bool true],[]):=by
 refine (f6_eq k _ _ _ _ _ _ _).trans ?_
 obtain ⟨j,rfl⟩:∃ j,k=j+60:=⟨k - 60,by omega⟩
 rw [awake j,Option.bind_some,res9_eq,if_neg (by simp)]
 obtain ⟨B,eB,hB⟩:=l10_ok (j+59) s0 s1 s2 s3 s4 h4 (j+59) 0 (by omega) (by omega) (fun q hq=>absurd hq (by omega))
 have e10:evF T (j+60) 10 [skv s0 s1 s2 s3 s4] []=some ([.bool B],[]):=(f10_eq (j+59) _ _ _ _ _).trans eB
 rw [e10,Option.bind_some,res10_eq]
 cases B
 ·rw [if_pos (show (!false)=true from rfl),Option.bind_some,res9_eq]
 ·rw [if_neg (by simp)]
  obtain ⟨F,hF,e11⟩:=mk (hB rfl)
  obtain ⟨b,hb,e12⟩:=c12 (j+59) hF a h0 h1
  have e21:=c21 hF (j+16) (by omega)
  rw [e11,Option.bind_some,res11_eq,e12,Option.bind_some,res12_eq,w64 (x:=P) (by omega) (by omega)]
  by_cases cP:P<lsZ F
  ·have e22:=c22_low hF hb P cP (j+15) (by omega)
   rw [e22,Option.bind_some,res22_eq,e21,Option.bind_some,res21_eq,if_pos cP,if_pos rfl]
   rfl
  ·have e22:=c22 hF hb P (by omega) (by omega) (j+15) (by omega)
   have e23:=c23 hF hb P (by omega) (j+15) (by omega)
   have hl:=arcZ_len (hF.bk b hb) P
   rw [e22,Option.bind_some,res22_eq,e21,Option.bind_some,res21_eq,if_neg cP,e23,Option.bind_some,res23_eq,if_neg (fun hh=>hh rfl),if_neg (fun hh=>hh rfl)]
   exact l6_ok (j+59) hF P _ hl (j+60) 0 (by omega) (by omega)
theorem lg_le {F:FV} {l:List S72} (s:List Int) {P:Int} (hP:30+endZ (szL F.bl)≤P) :
  lgZ F l s≤P↔∀ i,i<l.length→(chOf F l fun q=>s.getD q 0).cb i=true→(chOf F l fun q=>s.getD q 0).M i≤P - 30 - endZ (szL F.bl):=by
 unfold lgZ
 constructor
 ·intro h i hi hc
  have:=(fm_ge (tmL F l s) 30).2 _ (List.mem_map.mpr ⟨i,List.mem_range.mpr hi,rfl⟩)
  unfold Tm at this
  rw [if_pos hc] at this
  omega
 ·intro h
  rcases fm_mem (tmL F l s) 30 with e | e
  ·omega
  ·obtain ⟨q,hq,e2⟩:=List.mem_map.mp e
   rw [List.mem_range] at hq
   rw [← e2];unfold Tm
   by_cases c:(chOf F l fun q=>s.getD q 0).cb q=true
   ·rw [if_pos c];have:=h q hq c;omega
   ·rw [if_neg c];omega
def allH (s:List Int):List S64→Bool
 | []=>true
 | x::l=>decide (s.getD x.f0.toNat 0+x.f2≤s.getD x.f1.toNat 0)&&allH s l
theorem allH_iff (s:List Int):∀ l:List S64,allH s l=true↔∀ x∈l,s.getD x.f0.toNat 0+x.f2≤s.getD x.f1.toNat 0
 | []=>⟨fun _ x h=>absurd h (by simp),fun _=>rfl⟩
 | y::l=>by
  unfold allH
  rw [Bool.and_eq_true,decide_eq_true_eq,allH_iff s l]
  constructor
  ·rintro ⟨h1,h2⟩ x hx
   rcases List.mem_cons.mp hx with rfl | hx
   ·exact h1
   ·exact h2 x hx
  ·exact fun h=>⟨h y List.mem_cons_self,fun x hx=>h x (List.mem_cons_of_mem _ hx)⟩
theorem arcs_iff {F:FV} {l:List S72} (h:BkOk F l) (s:List Int) (up:∀ p q,p<q→q<l.length→lkB (l.getD p z72) (l.getD q z72)=true→s.getD p 0≤s.getD q 0) {P:Int} (hP:30+endZ (szL F.bl)≤P):allH s (arcZ F l P)=decide (lgZ F l s≤P):=by
 have ok:=chOf_ok h (fun q=>s.getD q 0)
 have key:=Ch.arcs_iff ok (s:=fun q=>s.getD q 0) (fun k i=>rfl) (fun k i e=>by
  obtain ⟨a1,a2,a3,a4,a5⟩:=chOf_lk.1 e
  exact up k i a1 a2 (by unfold lkB;rw [a3,a4,decide_eq_true a5];rfl)) (n:=l.length) (room:=P - 30 - endZ (szL F.bl)) (by omega)
 rw [Bool.eq_iff_iff,allH_iff,decide_eq_true_eq,lg_le s hP,← key]
 constructor
 ·intro H u i hu hi hr
  exact H ⟨(u:Int),(i:Int),1,0⟩ ((arcA_mem _ _ _ _ _).2 ⟨u,i,hu,hi,hr,rfl⟩)
 ·intro H x hx
  obtain ⟨u,w,hu,hw,hr,rfl⟩:=(arcA_mem _ _ _ _ _).1 hx
  exact H u w hu hw hr
end Go.Proofs.Ytabcdpddhmekkaa.vm
