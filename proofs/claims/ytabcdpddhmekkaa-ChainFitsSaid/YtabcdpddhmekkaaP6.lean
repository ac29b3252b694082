-- Written for this claim by programs of this session (wip in its repo). Lean checks it.
import Derived.Test.YtabcdpddhmekkaaP5
set_option linter.all false
namespace Go.Proofs.Ytabcdpddhmekkaa.vm
open Go Go.RowKit Go.Vm
noncomputable def chOf (F:FV) (l:List S72) (s:Nat→Int):Ch where
 cb:=fun i=>decide (i<l.length)&&combB (l.getD i z72).f0
 d:=fun i=>if i<l.length then dZ F (l.getD i z72) else 0
 lk:=fun k i=>decide (k<i∧i<l.length)&&lkB (l.getD k z72) (l.getD i z72)
 sm:=fun k i=>decide (s k=s i)
theorem chOf_d {F:FV} {l:List S72} (h:BkOk F l) (s:Nat→Int) (i:Nat):0≤(chOf F l s).d i∧(chOf F l s).d i≤500:=by
 show 0≤(if i<l.length then dZ F (l.getD i z72) else 0)∧(if i<l.length then dZ F (l.getD i z72) else 0)≤500
 by_cases c:i<l.length
 ·rw [if_pos c]
  obtain ⟨_,_,_,_,_,_,hu⟩:=dZ_ok h.fo (h.ins i c)
  exact hu.d
 ·rw [if_neg c];omega
theorem chOf_lk {F:FV} {l:List S72} {s:Nat→Int} {k i:Nat}:(chOf F l s).lk k i=true↔k<i∧i<l.length∧combB (l.getD k z72).f0=true∧combB (l.getD i z72).f0=true∧(l.getD k z72).f1∈(l.getD i z72).f2:=by
 show (decide (k<i∧i<l.length)&&lkB (l.getD k z72) (l.getD i z72))=true↔_
 unfold lkB
 simp only [Bool.and_eq_true,decide_eq_true_eq,and_assoc]
theorem chOf_cb {F:FV} {l:List S72} {s:Nat→Int} {i:Nat} (hi:i<l.length):(chOf F l s).cb i=combB (l.getD i z72).f0:=by
 show (decide (i<l.length)&&_)=_
 rw [decide_eq_true hi,Bool.true_and]
theorem chOf_ok {F:FV} {l:List S72} (h:BkOk F l) (s:Nat→Int):(chOf F l s).Ok where
 d0:=fun i=>(chOf_d h s i).1
 lk:=fun k i e=>by
  obtain ⟨h1,h2,h3,h4,_⟩:=chOf_lk.1 e
  exact ⟨h1,by rw [chOf_cb (by omega)];exact h3,by rw [chOf_cb h2];exact h4⟩
theorem atF_spec {F:FV} {l:List S72} (h:BkOk F l) (v q:Int):∀ i,i≤l.length→(atF l i v=some q↔∃ k:Nat,k<i∧q=k∧combB (l.getD k z72).f0=true∧(l.getD k z72).f1=v)
 | 0,_=>⟨fun e=>absurd e (by simp [atF]),fun ⟨k,hk,_⟩=>absurd hk (by omega)⟩
 | i+1,hi=>by
  have ih:=atF_spec h v q i (by omega)
  unfold atF
  by_cases c:combB (l.getD i z72).f0=true
  ·rw [if_pos c]
   unfold setI
   by_cases e:v=(l.getD i z72).f1
   ·rw [if_pos e]
    constructor
    ·intro he
     exact ⟨i,by omega,(Option.some.inj he).symm,c,e.symm⟩
    ·rintro ⟨k,hk,rfl,hc,hv⟩
     by_cases ek:k=i
     ·subst ek;rfl
     ·exact absurd (hv.trans e) (h.uniq k i (by omega) (by omega) hc c)
   ·rw [if_neg e,ih]
    constructor
    ·rintro ⟨k,hk,h1⟩;exact ⟨k,by omega,h1⟩
    ·rintro ⟨k,hk,h1,h2,h3⟩
     have:k≠i:=fun hh=>e (by rw [← h3,hh])
     exact ⟨k,by omega,h1,h2,h3⟩
  ·rw [if_neg c,ih]
   constructor
   ·rintro ⟨k,hk,h1⟩;exact ⟨k,by omega,h1⟩
   ·rintro ⟨k,hk,h1,h2,h3⟩
    have:k≠i:=fun hh=>c (by rw [← hh];exact h2)
    exact ⟨k,by omega,h1,h2,h3⟩
def frN (l:List S72) (i:Nat):List Nat:=(frF l i).map Int.toNat
theorem frF_mem {F:FV} {l:List S72} (h:BkOk F l) (s:Nat→Int) {i:Nat} (hi:i<l.length) (q:Int):q∈frF l i↔∃ k:Nat,q=k∧(chOf F l s).lk k i=true:=by
 unfold frF
 by_cases c:combB (l.getD i z72).f0=true
 ·rw [if_pos c,List.mem_filterMap]
  constructor
  ·rintro ⟨v,hv,e⟩
   obtain ⟨k,hk,rfl,hc,rfl⟩:=(atF_spec h v q i (by omega)).1 e
   exact ⟨k,rfl,chOf_lk.2 ⟨hk,hi,hc,c,hv⟩⟩
  ·rintro ⟨k,rfl,e⟩
   obtain ⟨hk,_,hc,_,hv⟩:=chOf_lk.1 e
   exact ⟨_,hv,(atF_spec h _ _ i (by omega)).2 ⟨k,hk,rfl,hc,rfl⟩⟩
 ·rw [if_neg c]
  refine ⟨fun e=>absurd e (by simp),?_⟩
  rintro ⟨k,rfl,e⟩
  exact absurd (chOf_lk.1 e).2.2.2.1 c
theorem frN_cast {F:FV} {l:List S72} (h:BkOk F l) {i:Nat} (hi:i<l.length):frF l i=(frN l i).map fun q:Nat=>(q:Int):=by
 unfold frN
 rw [List.map_map]
 conv=>lhs;rw [← List.map_id (frF l i)]
 refine List.map_congr_left fun q hq=>?_
 obtain ⟨k,rfl,_⟩:=(frF_mem h (fun _=>0) hi q).1 hq
 rfl
theorem frN_mem {F:FV} {l:List S72} (h:BkOk F l) (s:Nat→Int) {i:Nat} (hi:i<l.length) (k:Nat):k∈frN l i↔(chOf F l s).lk k i=true:=by
 unfold frN
 rw [List.mem_map]
 constructor
 ·rintro ⟨q,hq,rfl⟩
  obtain ⟨k,rfl,e⟩:=(frF_mem h s hi q).1 hq
  exact e
 ·intro e
  exact ⟨(k:Int),(frF_mem h s hi _).2 ⟨k,rfl,e⟩,rfl⟩
theorem frF_len {F:FV} {l:List S72} (h:BkOk F l) {i:Nat} (hi:i<l.length):(frF l i).length≤10:=by
 unfold frF
 split
 ·exact Nat.le_trans (List.length_filterMap_le _ _) (h.args i hi)
 ·simp
theorem Ch.M_le {X:Ch} (h:X.Ok) (hd:∀ i,X.d i≤500):∀ i:Nat,X.M i≤500*((i:Int)+1):=by
 intro i
 induction i using Nat.strongRecOn with
 | _ i ih=>
  rw [X.M_eq]
  have:=hd i
  rcases mx_cases (fun k=>X.lk k i&&X.sm k i) X.M 0 i with c | ⟨k,hk,_,c⟩
  ·rw [c];omega
  ·rw [c];have:=ih k hk;omega
def Tm (X:Ch) (B:Int) (q:Nat):Int:=if X.cb q=true then B+X.M q else 0
def BfOk (X:Ch) (q:Nat) (b:Int):Prop:=
 (X.cb q=false→b = -1)∧(X.cb q=true→(b = -1∧X.M q=X.d q∧∀ k,X.lk k q=true→X.sm k q=false)∨∃ k:Nat,b=k∧X.lk k q=true∧X.sm k q=true∧X.M q=X.M k+X.d q)
theorem l30_out (k:Nat) (F:FV) (l:List S72) (h:BkOk F l) (s:List Int) (hsl:s.length=l.length) (E Z:Int) :
  ∀ (m i:Nat) (r1 r2:List Int),i≤l.length→l.length - i<m→r1.length=l.length→r2.length=l.length →
   (∀ q,q<i→r1.getD q 0=Tm (chOf F l fun q=>s.getD q 0) 30 q∧BfOk (chOf F l fun q=>s.getD q 0) q (r2.getD q 0))→(∀ q,i≤q→r1.getD q 0=0) →
   ∃ r1' r2':List Int,l30_0 (k+20) m s (s.length:Int) (i:Int) 30 E Z (cbF l l.length) (dF F l l.length) (fromF l l.length) r1 r2=some ([.vsl none (.int .i64) r1',.vsl none (.int .i64) r2'],[]) ∧
    r1'.length=l.length∧r2'.length=l.length∧∀ q,q<l.length→r1'.getD q 0=Tm (chOf F l fun q=>s.getD q 0) 30 q∧BfOk (chOf F l fun q=>s.getD q 0) q (r2'.getD q 0)
 | 0,_,_,_,_,h,_,_,_,_=>absurd h (by omega)
 | m+1,i,r1,r2,hi,hm,h1,h2,hq,hz=>by
  rw [l30_0_eq]
  have hlen:=h.len
  have hok:=chOf_ok h (fun q=>s.getD q 0)
  have hM:=Ch.M_le hok (fun i=>(chOf_d h _ i).2)
  by_cases c:i<l.length
  ·have lc:=cbF_len l l.length
   have lf:=fromF_len l l.length
   rw [if_pos (by omega),if_pos (by omega),if_pos (by omega),if_pos (by omega),if_pos (by omega),Int.toNat_natCast,cbF_get l l.length i c]
   have hcb:=chOf_cb (F:=F) (s:=fun q=>s.getD q 0) c
   cases cc:combB (l.getD i z72).f0
   ·rw [if_pos (show (!false)=true from rfl),w64 (x:=(i:Int)+1) (by omega) (by omega),show (i:Int)+1=((i+1:Nat):Int) from rfl]
    rw [cc] at hcb
    refine l30_out k F l h s hsl E Z m (i+1) r1 (r2.set i (-1)) (by omega) (by omega) h1 (by rw [List.length_set,h2]) (fun q hq'=>?_) (fun q hq'=>hz q (by omega))
    by_cases e:q=i
    ·subst e
     refine ⟨?_,?_⟩
     ·rw [hz q (Nat.le_refl _)];unfold Tm;rw [hcb,if_neg (by simp)]
     ·rw [set_same _ (by omega)]
      exact ⟨fun _=>rfl,fun hh=>by rw [hcb] at hh;exact absurd hh (by simp)⟩
    ·rw [set_other _ e];exact hq q (by omega)
   ·rw [if_neg (show ¬ (!true)=true by simp),if_pos (by omega),if_pos (by omega),if_pos (by omega),if_pos (by omega),fromF_get l l.length i c]
    rw [cc] at hcb
    have ec:=frN_cast h c
    have el:(frF l i).length=(frN l i).length:=by rw [frN,List.length_map]
    have hfl:=frF_len h c
    rw [el,ec]
    have ed:(dF F l l.length).getD i 0=(chOf F l fun q=>s.getD q 0).d i:=by
     rw [dF_get F l l.length i c];show _=if i<l.length then dZ F (l.getD i z72) else 0;rw [if_pos c]
    have db:=chOf_d h (fun q=>s.getD q 0) i
    have hsm:∀ q,q<i→0≤r1.getD q 0∧r1.getD q 0≤1000000000:=fun q hq'=>by
     rw [(hq q hq').1];unfold Tm
     have:=hM q
     have:=Ch.M0 hok q
     split <;> omega
    have g:=l30_in (k+20) m s i (frN l i) 30 E Z (cbF l l.length) (dF F l l.length) (fromF l l.length) r1 r2 (by omega) (by omega) (by omega) (by rw [dF_len];omega) (by omega) (by omega)
     (fun q hq'=>(chOf_lk.1 ((frN_mem h (fun q=>s.getD q 0) c q).1 hq')).1) (by rw [ed];exact db) hsm (k+20) 0 30 (-1) (by omega) (by omega) (by omega)
    refine (congrArg (fun o=>∃ r1' r2':List Int,o=some ([PV.vsl none (.int .i64) r1',PV.vsl none (.int .i64) r2'],[])∧r1'.length=l.length∧r2'.length=l.length∧∀ q,q<l.length→r1'.getD q 0=Tm (chOf F l fun q=>s.getD q 0) 30 q∧BfOk (chOf F l fun q=>s.getD q 0) q (r2'.getD q 0)) g).mpr ?_
    rw [List.drop_zero]
    obtain ⟨p1,p2⟩:=Ch.step_pf hok (B:=30) (i:=i) (l:=frN l i) (frN_mem h (fun q=>s.getD q 0) c) (t:=fun q=>r1.getD q 0) (fun q hq'=>by
     have h3:=chOf_lk.1 hq'
     rw [(hq q h3.1).1];unfold Tm;rw [chOf_cb (by omega),if_pos h3.2.2.1])
    refine l30_out k F l h s hsl E Z m (i+1) _ _ (by omega) (by omega) (by rw [List.length_set,h1]) (by rw [List.length_set,h2]) (fun q hq'=>?_) (fun q hq'=>by rw [set_other _ (by omega:q≠i)];exact hz q (by omega))
    by_cases e:q=i
    ·subst e
     refine ⟨?_,?_⟩
     ·rw [set_same _ (by omega),ed];unfold Tm;rw [hcb,if_pos rfl];exact p1
     ·rw [set_same _ (by omega)]
      exact ⟨fun hh=>by rw [hcb] at hh;exact absurd hh (by simp),fun _=>p2⟩
    ·rw [set_other _ e,set_other _ e];exact hq q (by omega)
  ·rw [if_neg (by omega)]
   exact ⟨r1,r2,rfl,h1,h2,fun q hq'=>hq q (by omega)⟩
end Go.Proofs.Ytabcdpddhmekkaa.vm
