-- Written for this claim by programs of this session (wip in its repo). Lean checks it.
import Derived.Test.YtabcdpddhmekkaaP5
set_option linter.all false
namespace Go.Proofs.Ytabcdpddhmekkaa.vm
open Go Go.RowKit Go.Vm
noncomputable def chOf (F:FV) (l:List S72) (s:Nat→Int):Ch where
 cb:=fun i=>decide (i<l.length)&&combB (l.getD i z72).f0
 d:=fun i=>if i<l.length then dZ F (l.getD i z72) else 0
 lk:=fun k i=>decide (k<i∧i<l.length)&&lkB (l.getD k z72) (l.getD i z72)
 sm:=fun k i=>decide (s k=s i)
theorem chOf_d {F:FV} {l:List S72} (h:BkOk F l) (s:Nat→Int) (i:Nat):0≤(chOf F l s).d i∧(chOf F l s).d i≤500:=by
 show 0≤(if i<l.length then dZ F (l.getD i z72) else 0)∧(if i<l.length then dZ F (l.getD i z72) else 0)≤500
 by_cases c:i<l.length
 ·rw [if_pos c]
  obtain ⟨_,_,_,_,_,_,hu⟩:=dZ_ok h.fo (h.ins i c)
  exact hu.d
 ·rw [if_neg c];omega
theorem chOf_lk {F:FV} {l:List S72} {s:Nat→Int} {k i:Nat}:(chOf F l s).lk k i=true↔k<i∧i<l.length∧combB (l.getD k z72).f0=true∧combB (l.getD i z72).f0=true∧(l.getD k z72).f1∈(l.getD i z72).f2:=by
 show (decide (k<i∧i<l.length)&&lkB (l.getD k z72) (l.getD i z72))=true↔_
 unfold lkB
 simp only [Bool.and_eq_true,decide_eq_true_eq,and_assoc]
theorem chOf_cb {F:FV} {l:List S72} {s:Nat→Int} {i:Nat} (hi:i<l.length):(chOf F l s).cb i=combB (l.getD i z72).f0:=by
 show (decide (i<l.length)&&_)=_
 rw [decide_eq_true hi,Bool.true_and]
theorem chOf_ok {F:FV} {l:List S72} (h:BkOk F l) (s:Nat→Int):(chOf F l s).Ok where
 d0:=fun i=>(chOf_d h s i).1
 lk:=fun k i e=>by
  obtain ⟨h1,h2,h3,h4,_⟩:=chOf_lk.1 e
  exact ⟨h1,by rw [chOf_cb (by omega)];exact h3,by rw [chOf_cb h2];exact h4⟩
theorem atF_spec {F:FV} {l:List S72} (h:BkOk F l) (v q:Int):∀ i,i≤l.length→(atF l i v=some q↔∃ k:Nat,k<i∧q=k∧combB (l.getD k z72).f0=true∧(l.getD k z72).f1=v)
 | 0,_=>⟨fun e=>absurd e (by simp [atF]),fun ⟨k,hk,_⟩=>absurd hk (by omega)⟩
 | i+1,hi=>by
  have ih:=atF_spec h v q i (by omega)
  unfold atF
  by_cases c:combB (l.getD i z72).f0=true
  ·rw [if_pos c]
   unfold setI
   by_cases e:v=(l.getD i z72).f1
   ·rw [if_pos e]
    constructor
    ·intro he
     exact ⟨i,by omega,(Option.some.inj he).symm,c,e.symm⟩
    ·rintro ⟨k,hk,rfl,hc,hv⟩
     by_cases ek:k=i
     ·subst ek;rfl
     ·exact absurd (hv.trans e) (h.uniq k i (by omega) (by omega) hc c)
   ·rw [if_neg e,ih]
    constructor
    ·rintro ⟨k,hk,h1⟩;exact ⟨k,by omega,h1⟩
    ·rintro ⟨k,hk,h1,h2,h3⟩
     have:k≠i:=fun hh=>e (by rw [← h3,hh])
     exact ⟨k,by omega,h1,h2,h3⟩
  ·rw [if_neg c,ih]
   constructor
   ·rintro ⟨k,hk,h1⟩;exact ⟨k,by omega,h1⟩
   ·rintro ⟨k,hk,h1,h2,h3⟩
    have:k≠i:=fun hh=>c (by rw [← hh];exact h2)
    exact ⟨k,by omega,h1,h2,h3⟩
def frN (l:List S72) (i:Nat):List Nat:=(frF l i).map Int.toNat
theorem frF_mem {F:FV} {l:List S72} (h:BkOk F l) (s:Nat→Int) {i:Nat} (hi:i<l.length) (q:Int):q∈frF l i↔∃ k:Nat,q=k∧(chOf F l s).lk k i=true:=by
 unfold frF
 by_cases c:combB (l.getD i z72).f0=true
 ·rw [if_pos c,List.mem_filterMap]
  constructor
  ·rintro ⟨v,hv,e⟩
   obtain ⟨k,hk,rfl,hc,rfl⟩:=(atF_spec h v q i (by omega)).1 e
   exact ⟨k,rfl,chOf_lk.2 ⟨hk,hi,hc,c,hv⟩⟩
  ·rintro ⟨k,rfl,e⟩
   obtain ⟨hk,_,hc,_,hv⟩:=chOf_lk.1 e
   exact ⟨_,hv,(atF_spec h _ _ i (by omega)).2 ⟨k,hk,rfl,hc,rfl⟩⟩
 ·rw [if_neg c]
  refine ⟨fun e=>absurd e (by simp),?_⟩
  rintro ⟨k,rfl,e⟩
  exact absurd (chOf_lk.1 e).2.2.2.1 c
theorem frN_cast {F:FV} {l:List S72} (h:BkOk F l) {i:Nat} (hi:i<l.length):frF l i=(frN l i).map fun q:Nat=>(q:Int):=by
 unfold frN
 rw [List.map_map]
 conv=>lhs;rw [← List.map_id (frF l i)]
 refine List.map_congr_left fun q hq=>?_
 obtain ⟨k,rfl,_⟩:=(frF_mem h (fun _=>0) hi q).1 hq
 rfl
theorem frN_mem {F:FV} {l:List S72} (h:BkOk F l) (s:Nat→Int) {i:Nat} (hi:i<l.length) (k:Nat):k∈frN l i↔(chOf F l s).lk k i=true:=by
 unfold frN
 rw [List.mem_map]
 constructor
 ·rintro ⟨q,hq,rfl⟩
  obtain ⟨k,rfl,e⟩:=(frF_mem h s hi q).1 hq
  exact e
 ·intro e
  exact ⟨(k:Int),(frF_mem h s hi _).2 ⟨k,rfl,e⟩,rfl⟩
theorem frF_len {F:FV} {l:List S72} (h:BkOk F l) {i:Nat} (hi:i<l.length):(frF l i).length≤10:=by
 unfold frF
 split
 ·exact Nat.le_trans (List.length_filterMap_le _ _) (h.args i hi)
 ·simp
theorem Ch.M_le {X:Ch} (h:X.Ok) (hd:∀ i,X.d i≤500):∀ i:Nat,X.M i≤500*((i:Int)+1):=by
 intro i
 induction i using Nat.strongRecOn with
 | _ i ih=>
  rw [X.M_eq]
  have:=hd i
  rcases mx_cases (fun k=>X.lk k i&&X.sm k i) X.M 0 i with c | ⟨k,hk,_,c⟩
  ·rw [c];omega
  ·rw [c];have:=ih k hk;omega
def Tm (X:Ch) (B:Int) (q:Nat):Int:=if X.cb q=true then B+X.M q else 0
end Go.Proofs.Ytabcdpddhmekkaa.vm
