-- Written for this claim by programs of this session (wip in its repo). Lean checks it.
import Derived.Test.YtabcdpddhmekkaaP21
set_option linter.all false
namespace Go.Proofs.Ytabcdpddhmekkaa.vm
open Go Go.RowKit Go.Vm
def mf (c:Nat→Bool) (v:Nat→Int):List Nat→Int→Int
 | [],a=>a
 | k::l,a=>mf c v l (if c k=true then (if a<v k then v k else a) else a)
theorem mf_t {c:Nat→Bool} {v:Nat→Int} {k:Nat} {l:List Nat} {a:Int} (h:c k=true):mf c v (k::l) a=mf c v l (if a<v k then v k else a):=by
 show mf c v l (if c k=true then _ else _)=_
 rw [if_pos h]
theorem mf_f {c:Nat→Bool} {v:Nat→Int} {k:Nat} {l:List Nat} {a:Int} (h:¬ c k=true):mf c v (k::l) a=mf c v l a:=by
 show mf c v l (if c k=true then _ else _)=_
 rw [if_neg h]
theorem mf_ge (c:Nat→Bool) (v:Nat→Int):∀ (l:List Nat) (a:Int),a≤mf c v l a∧∀ k∈l,c k=true→v k≤mf c v l a
 | [],a=>⟨Int.le_refl _,fun x h=>absurd h (by simp)⟩
 | y::l,a=>by
  obtain ⟨h1,h2⟩:=mf_ge c v l (if c y=true then (if a<v y then v y else a) else a)
  unfold mf
  by_cases hc:c y=true
  ·rw [if_pos hc] at h1 h2 ⊢
   have q:a≤(if a<v y then v y else a)∧v y≤(if a<v y then v y else a):=by split <;> omega
   refine ⟨Int.le_trans q.1 h1,fun k hk hck=>?_⟩
   rcases List.mem_cons.mp hk with rfl | hk
   ·exact Int.le_trans q.2 h1
   ·exact h2 k hk hck
  ·rw [if_neg hc] at h1 h2 ⊢
   refine ⟨h1,fun k hk hck=>?_⟩
   rcases List.mem_cons.mp hk with rfl | hk
   ·exact absurd hck hc
   ·exact h2 k hk hck
theorem mf_cases (c:Nat→Bool) (v:Nat→Int):∀ (l:List Nat) (a:Int),mf c v l a=a∨∃ k∈l,c k=true∧mf c v l a=v k
 | [],a=>.inl rfl
 | y::l,a=>by
  unfold mf
  rcases mf_cases c v l (if c y=true then (if a<v y then v y else a) else a) with h | ⟨k,hk,hc,h⟩
  ·by_cases hc:c y=true
   ·rw [if_pos hc] at h ⊢
    by_cases h2:a<v y
    ·rw [if_pos h2] at h ⊢;exact .inr ⟨y,by simp,hc,h⟩
    ·rw [if_neg h2] at h ⊢;exact .inl h
   ·rw [if_neg hc] at h ⊢;exact .inl h
  ·exact .inr ⟨k,by simp [hk],hc,h⟩
theorem mf_mx {c g:Nat→Bool} {v:Nat→Int} {l:List Nat} {a:Int} {n:Nat} (hl:∀ k,k∈l↔g k=true) (hn:∀ k,g k=true→k<n):mf c v l a=mx (fun k=>c k&&g k) v a n:=by
 apply Int.le_antisymm
 ·rcases mf_cases c v l a with h | ⟨k,hk,hc,h⟩
  ·rw [h];exact mx_ge _ _ _ _
  ·rw [h];exact mx_of (fun k=>c k&&g k) v a n k (hn k ((hl k).1 hk)) (by simp [hc,(hl k).1 hk])
 ·rcases mx_cases (fun k=>c k&&g k) v a n with h | ⟨k,hk,hc,h⟩
  ·rw [h];exact (mf_ge c v l a).1
  ·rw [h];rw [Bool.and_eq_true] at hc;exact (mf_ge c v l a).2 k ((hl k).2 hc.2) hc.1
def rowA (fr:Nat→Nat→Int) (room:Int) (u:Nat):Nat→List S64
 | 0=>[]
 | v+1=>rowA fr room u v++if room<fr u v then [⟨(u:Int),(v:Int),1,0⟩] else []
def arcA (fr:Nat→Nat→Int) (room:Int) (n:Nat):Nat→List S64
 | 0=>[]
 | u+1=>arcA fr room n u++rowA fr room u n
theorem rowA_len (fr:Nat→Nat→Int) (room:Int) (u:Nat):∀ v,(rowA fr room u v).length≤v
 | 0=>Nat.le_refl _
 | v+1=>by
  have:=rowA_len fr room u v
  unfold rowA;rw [List.length_append];split <;> simp <;> omega
theorem arcA_len (fr:Nat→Nat→Int) (room:Int) (n:Nat) (hn:n≤1000):∀ u:Nat,(arcA fr room n u).length≤1000*u
 | 0=>Nat.le_refl _
 | u+1=>by
  have:=arcA_len fr room n hn u
  have:=rowA_len fr room u n
  unfold arcA;rw [List.length_append];omega
theorem rowA_none {fr:Nat→Nat→Int} {room:Int} {u:Nat} (h:∀ v,fr u v≤room):∀ v,rowA fr room u v = []
 | 0=>rfl
 | v+1=>by unfold rowA;rw [rowA_none h v,if_neg (by have:=h v;omega)];rfl
theorem rowA_sub (fr:Nat→Nat→Int) {r s:Int} (h:r≤s) (u:Nat):∀ v,(rowA fr s u v).Sublist (rowA fr r u v)
 | 0=>.slnil
 | v+1=>by
  unfold rowA
  refine (rowA_sub fr h u v).append ?_
  by_cases c:s<fr u v
  ·rw [if_pos c,if_pos (by omega)];exact List.Sublist.refl _
  ·rw [if_neg c];exact List.nil_sublist _
theorem arcA_sub (fr:Nat→Nat→Int) {r s:Int} (h:r≤s) (n:Nat):∀ u,(arcA fr s n u).Sublist (arcA fr r n u)
 | 0=>.slnil
 | u+1=>by unfold arcA;exact (arcA_sub fr h n u).append (rowA_sub fr h u n)
theorem rowA_mem (fr:Nat→Nat→Int) (room:Int) (u:Nat) (x:S64):∀ v,x∈rowA fr room u v↔∃ w:Nat,w<v∧room<fr u w∧x=⟨(u:Int),(w:Int),1,0⟩
 | 0=>⟨fun h=>absurd h (by simp [rowA]),fun ⟨w,h,_⟩=>absurd h (by omega)⟩
 | v+1=>by
  unfold rowA
  rw [List.mem_append,rowA_mem fr room u x v]
  constructor
  ·rintro (⟨w,h1,h2⟩ | h)
   ·exact ⟨w,by omega,h2⟩
   ·by_cases c:room<fr u v
    ·rw [if_pos c,List.mem_singleton] at h;exact ⟨v,by omega,c,h⟩
    ·rw [if_neg c] at h;exact absurd h (by simp)
  ·rintro ⟨w,h1,h2,h3⟩
   by_cases e:w=v
   ·subst e;exact .inr (by rw [if_pos h2];simp [h3])
   ·exact .inl ⟨w,by omega,h2,h3⟩
theorem arcA_mem (fr:Nat→Nat→Int) (room:Int) (n:Nat) (x:S64):∀ m,x∈arcA fr room n m↔∃ u w:Nat,u<m∧w<n∧room<fr u w∧x=⟨(u:Int),(w:Int),1,0⟩
 | 0=>⟨fun h=>absurd h (by simp [arcA]),fun ⟨_,_,h,_⟩=>absurd h (by omega)⟩
 | m+1=>by
  unfold arcA
  rw [List.mem_append,arcA_mem fr room n x m,rowA_mem]
  constructor
  ·rintro (⟨u,w,h1,h2⟩ | ⟨w,h1,h2⟩)
   ·exact ⟨u,w,by omega,h2⟩
   ·exact ⟨m,w,by omega,h1,h2⟩
  ·rintro ⟨u,w,h1,h2,h3,h4⟩
   by_cases e:u=m
   ·subst e;exact .inr ⟨w,h2,h3,h4⟩
   ·exact .inl ⟨u,w,by omega,h2,h3,h4⟩
noncomputable def chA (F:FV) (l:List S72):Ch:=chS F l fun _ _=>true
theorem chA_ok {F:FV} {l:List S72} (h:BkOk F l):(chA F l).Ok:=chS_ok h _
theorem chA_le {F:FV} {l:List S72} (h:BkOk F l) (u q:Nat):(chA F l).fr u q≤500*((q:Int)+1):=chS_le h _ u q
theorem l22_in (k m0 m1:Nat) (room:Int) (u v n:Nat) (x43 x44 x58 x59:Int) (fl:List Nat) (B E Z:Int) (cb:List Bool) (dl:List Int) (fs:List (List Int)) (r1:List S64) (r2:List Int)
  (hv:v<n) (h2:r2.length=n) (hn:n<100000) (hd:n≤dl.length) (hfl:fl.length<100000) (hk:∀ q∈fl,q<v) (hd0:0≤dl.getD v 0∧dl.getD v 0≤500) (hr:∀ q,q<v→r2.getD q 0≤1000000000) (h1:r1.length<10000000) :
  ∀ (m j:Nat) (a:Int),j≤fl.length→fl.length - j<m →
   l22_2 k m0 m1 m room (u:Int) (v:Int) x43 x44 x58 x59 (fl.map fun q:Nat=>(q:Int)) (fl.length:Int) (j:Int) B E Z cb dl fs r1 (r2.set v a) =
    l22_1 k m0 m1 room (u:Int) x43 x44 x58 (wrap64 (x59+1)) B E Z cb dl fs
     (r1++if room<mf (fun q=>decide (u<v)&&decide (0≤r2.getD q 0)) (fun q=>r2.getD q 0+dl.getD v 0) (fl.drop j) a then [⟨(u:Int),(v:Int),1,0⟩] else [])
     (r2.set v (mf (fun q=>decide (u<v)&&decide (0≤r2.getD q 0)) (fun q=>r2.getD q 0+dl.getD v 0) (fl.drop j) a))
 | 0,_,_,_,h=>absurd h (by omega)
 | m+1,j,a,hj,hm=>by
  rw [l22_2_eq]
  have L2:(r2.set v a).length=n:=by rw [List.length_set,h2]
  have G2:=set_same (l:=r2) a (by omega:v<r2.length)
  have vp:(0:Int)≤(v:Int):=by omega
  have vL:(v:Int)<((r2.set v a).length:Int):=by omega
  have vN:v<(r2.set v a).length:=by omega
  by_cases c:j<fl.length
  ·have ek:(fl.map fun q:Nat=>(q:Int)).getD j 0=((fl.getD j 0:Nat):Int):=by
    rw [List.getD_eq_getElem?_getD,List.getD_eq_getElem?_getD,List.getElem?_map,List.getElem?_eq_getElem c];rfl
   rw [if_pos (by omega),if_pos (by omega),if_pos (by rw [List.length_map];omega)]
   simp only [Int.toNat_natCast]
   rw [ek]
   have hq:fl.getD j 0<v:=hk _ (by rw [List.getD_eq_getElem?_getD,List.getElem?_eq_getElem c];exact List.getElem_mem _)
   rw [drop_cons fl 0 c]
   generalize fl.getD j 0=q at hq
   simp only [Int.toNat_natCast]
   have G3:=set_other (l:=r2) a (by omega:q≠v)
   have rq:=hr q hq
   have qp:(0:Int)≤(q:Int):=by omega
   have qL:(q:Int)<((r2.set v a).length:Int):=by omega
   have qN:q<(r2.set v a).length:=by omega
   have vD:(v:Int)<(dl.length:Int):=by omega
   rw [w64 (x:=(j:Int)+1) (by omega) (by omega),show (j:Int)+1=((j+1:Nat):Int) from rfl]
   have go:=fun a=>l22_in k m0 m1 room u v n x43 x44 x58 x59 fl B E Z cb dl fs r1 r2 hv h2 hn hd hfl hk hd0 hr h1 m (j+1) a (by omega) (by omega)
   by_cases cu:u<v
   ·rw [if_pos (show (v:Int)>(u:Int) by omega),if_pos qp,if_pos qL,if_pos qN,G3]
    by_cases c0:r2.getD q 0≥0
    ·rw [if_pos c0,if_pos vp,if_pos vL,if_pos vN,if_pos qp,if_pos qL,if_pos qN,if_pos vp,if_pos vD,if_pos vp,if_pos vL,G2,w64 (by omega) (by omega),List.set_set,go,mf_t (show (decide (u<v)&&decide (0≤r2.getD q 0))=true by rw [decide_eq_true cu,decide_eq_true (show 0≤r2.getD q 0 from c0)];rfl)]
    ·rw [if_neg c0,go,mf_f (show ¬ (decide (u<v)&&decide (0≤r2.getD q 0))=true by rw [decide_eq_false (show ¬ 0≤r2.getD q 0 from c0),Bool.and_false];simp)]
   ·rw [if_neg (show ¬ (v:Int)>(u:Int) by omega),go,mf_f (show ¬ (decide (u<v)&&decide (0≤r2.getD q 0))=true by rw [decide_eq_false cu,Bool.false_and];simp)]
  ·rw [if_neg (by omega),List.drop_eq_nil_of_le (by omega)]
   simp only [Int.toNat_natCast]
   rw [if_pos vp,if_pos vL,if_pos vN]
   by_cases cr:(r2.set v a).getD v 0>room
   ·unfold chk
    rw [if_pos cr,if_pos (by simp only [List.length_cons,List.length_nil];omega)]
    rw [G2] at cr
    show _=l22_1 k m0 m1 room (u:Int) x43 x44 x58 (wrap64 (x59+1)) B E Z cb dl fs (r1++if room<a then _ else _) (r2.set v a)
    rw [if_pos (show room<a from cr)]
   ·rw [if_neg cr]
    rw [G2] at cr
    show _=l22_1 k m0 m1 room (u:Int) x43 x44 x58 (wrap64 (x59+1)) B E Z cb dl fs (r1++if room<a then _ else _) (r2.set v a)
    rw [if_neg (show ¬ room<a from cr),List.append_nil]
theorem l22_mid (k m0:Nat) (F:FV) (l:List S72) (h:BkOk F l) (u:Nat) (hu:u<l.length) (hc:combB (l.getD u z72).f0=true) (room:Int) (E Z:Int) (r1:List S64) (h1:r1.length<5000000) (hk:2000≤k) :
  ∀ (m v:Nat) (r2:List Int),v≤l.length→l.length - v<m→r2.length=l.length→(∀ q,q<v→r2.getD q 0=(chA F l).fr u q) →
   l22_1 k m0 m room (u:Int) (l.length:Int) (u:Int) (l.length:Int) (v:Int) 30 E Z (cbF l l.length) (dF F l l.length) (fromF l l.length) (r1++rowA (chA F l).fr room u v) r2 =
    l22_0 k m0 room (l.length:Int) (wrap64 ((u:Int)+1)) 30 E Z (cbF l l.length) (dF F l l.length) (fromF l l.length) (r1++rowA (chA F l).fr room u l.length)
 | 0,_,_,_,h,_,_=>absurd h (by omega)
 | m+1,v,r2,hv,hm,h2,hq=>by
  rw [l22_1_eq]
  have hlen:=h.len
  have ok:=chA_ok h
  by_cases c:v<l.length
  ·have vp:(0:Int)≤(v:Int):=by omega
   have vL:(v:Int)<(r2.length:Int):=by omega
   have lf:=fromF_len l l.length
   have ld:=dF_len F l l.length
   have ec:=frN_cast h c
   have el:(frF l v).length=(frN l v).length:=by rw [frN,List.length_map]
   have hfl:=frF_len h c
   have lkv:∀ k,k∈frN l v↔(chA F l).lk k v=true:=frN_mem h (fun _=>0) c
   have dv:(dF F l l.length).getD v 0=(chA F l).d v:=by
    rw [dF_get F l l.length v c];show _=if v<l.length then dZ F (l.getD v z72) else 0;rw [if_pos c]
   have du:(dF F l l.length).getD u 0=(chA F l).d u:=by
    rw [dF_get F l l.length u hu];show _=if u<l.length then dZ F (l.getD u z72) else 0;rw [if_pos hu]
   have db:0≤(chA F l).d v∧(chA F l).d v≤500:=chOf_d h (fun _=>0) v
   have cu:(chA F l).cb u=true:=by show (chOf F l fun _=>0).cb u=true;rw [chOf_cb hu];exact hc
   have rl:=rowA_len (chA F l).fr room u v
   have hr:∀ q,q<v→r2.getD q 0≤1000000000:=fun q hqv=>by rw [hq q hqv];have:=chA_le h u q;omega
   have fin:∀ a:Int,a=(if v=u∧(chA F l).cb v=true then (chA F l).d v else -1) →
     j22_0 k m0 m room (u:Int) (v:Int) (l.length:Int) (u:Int) (l.length:Int) (v:Int) 30 E Z (cbF l l.length) (dF F l l.length) (fromF l l.length) (r1++rowA (chA F l).fr room u v) (r2.set v a) =
      l22_0 k m0 room (l.length:Int) (wrap64 ((u:Int)+1)) 30 E Z (cbF l l.length) (dF F l l.length) (fromF l l.length) (r1++rowA (chA F l).fr room u l.length):=by
    intro a ha
    rw [j22_0_eq,if_pos vp,if_pos (by omega),Int.toNat_natCast,fromF_get l l.length v c,el,ec]
    refine (l22_in k m0 m room u v l.length (l.length:Int) (u:Int) (l.length:Int) (v:Int) (frN l v) 30 E Z (cbF l l.length) (dF F l l.length) (fromF l l.length) (r1++rowA (chA F l).fr room u v) r2 c h2 (by omega) (by omega) (by omega)
     (fun q hq'=>(ok.lk q v ((lkv q).1 hq')).1) (by rw [dv];exact db) hr (by rw [List.length_append];omega) k 0 a (by omega) (by omega)).trans ?_
    rw [List.drop_zero]
    have val:mf (fun q=>decide (u<v)&&decide (0≤r2.getD q 0)) (fun q=>r2.getD q 0+(dF F l l.length).getD v 0) (frN l v) a=(chA F l).fr u v:=by
     rw [mf_mx (g:=fun k=>(chA F l).lk k v) lkv (fun k hk=>(ok.lk k v hk).1),(chA F l).fr_eq u v,← ha,dv]
     refine mx_congr (fun q hqv=>?_) (fun q hqv _=>by rw [hq q hqv])
     rw [hq q hqv]
     have e1:(chA F l).sm q v=true:=rfl
     rw [e1,Bool.and_true]
     by_cases cuv:u<v
     ·rw [decide_eq_true cuv,Bool.true_and]
     ·have:(chA F l).fr u q = -1:=Ch.fr_before ok (by omega)
      rw [this,decide_eq_false cuv,Bool.false_and,Bool.false_and,decide_eq_false (by omega),Bool.false_and]
    rw [val,List.append_assoc,w64 (x:=(v:Int)+1) (by omega) (by omega)]
    exact l22_mid k m0 F l h u hu hc room E Z r1 h1 hk m (v+1) (r2.set v ((chA F l).fr u v)) (by omega) (by omega) (by rw [List.length_set,h2]) (fun q hqv=>by
     by_cases e:q=v
     ·subst e;exact set_same _ (by omega)
     ·rw [set_other _ e];exact hq q (by omega))
   rw [if_pos (by omega),if_pos vp,if_pos vL]
   simp only [Int.toNat_natCast]
   by_cases e:(v:Int)=(u:Int)
   ·have e':v=u:=by omega
    rw [if_pos e,if_pos (by omega),if_pos (by omega),if_pos vp,if_pos (by rw [List.length_set];omega),List.set_set]
    exact fin _ (by rw [du,e',if_pos ⟨rfl,cu⟩])
   ·rw [if_neg e]
    exact fin _ (by rw [if_neg (fun hh=>e (by omega))])
  ·rw [if_neg (by omega),show v=l.length from by omega]
theorem l22_out (k:Nat) (F:FV) (l:List S72) (h:BkOk F l) (room:Int) (hroom:0≤room) (E Z:Int) (hk:2000≤k) :
  ∀ (m u:Nat),u≤l.length→l.length - u<m →
   l22_0 k m room (l.length:Int) (u:Int) 30 E Z (cbF l l.length) (dF F l l.length) (fromF l l.length) (arcA (chA F l).fr room l.length u)=some ([.vsl none (.named 64) (arcA (chA F l).fr room l.length l.length),.int .i64 0],[])
 | 0,_,_,h=>absurd h (by omega)
 | m+1,u,hu,hm=>by
  rw [l22_0_eq]
  have hlen:=h.len
  have lc:=cbF_len l l.length
  have al:=arcA_len (chA F l).fr room l.length hlen u
  by_cases c:u<l.length
  ·rw [if_pos (by omega),if_pos (by omega),if_pos (by omega),Int.toNat_natCast,cbF_get l l.length u c]
   have e1:wrap64 ((u:Int)+1)=((u+1:Nat):Int):=by rw [w64 (by omega) (by omega)];rfl
   cases hc:combB (l.getD u z72).f0
   ·rw [if_pos (show (!false)=true from rfl),e1]
    have:rowA (chA F l).fr room u l.length = []:=rowA_none (fun v=>by
     by_cases c1:0≤(chA F l).fr u v
     ·have:=(Ch.fr_le (chA_ok h) u v c1).2.2.1
      have e2:(chA F l).cb u=combB (l.getD u z72).f0:=chOf_cb (F:=F) (s:=fun _=>0) c
      rw [e2,hc] at this;exact absurd this (by simp)
     ·omega) _
    have go:=l22_out k F l h room hroom E Z hk m (u+1) (by omega) (by omega)
    rw [show arcA (chA F l).fr room l.length (u+1)=arcA (chA F l).fr room l.length u++rowA (chA F l).fr room u l.length from rfl,this,List.append_nil] at go
    exact go
   ·unfold chk
    rw [if_neg (show ¬ (!true)=true by simp),lc,if_pos (by omega),if_pos (by omega),if_pos (by omega),if_pos (by omega),Int.toNat_natCast,List.length_replicate]
    have g:=l22_mid k m F l h u c hc room E Z (arcA (chA F l).fr room l.length u) (by omega) hk k 0 (List.replicate l.length 0) (by omega) (by omega) (by simp) (fun q hq=>absurd hq (by omega))
    have go:=l22_out k F l h room hroom E Z hk m (u+1) (by omega) (by omega)
    rw [show arcA (chA F l).fr room l.length (u+1)=arcA (chA F l).fr room l.length u++rowA (chA F l).fr room u l.length from rfl] at go
    rw [e1] at g
    rw [show rowA (chA F l).fr room u 0 = [] from rfl,List.append_nil] at g
    exact g.trans go
  ·rw [if_neg (by omega),show u=l.length from by omega]
noncomputable def arcZ (F:FV) (l:List S72) (P:Int):List S64:=arcA (chA F l).fr (P - 30 - endZ (szL F.bl)) l.length l.length
theorem c22 {F:FV} (h:FnOk F) {b:Nat} (hb:b<F.bl.length) (P:Int) (hP:lsZ F≤P) (hP2:P≤1000000) (k:Nat) (hk:2000≤k):evF T (k+45) 22 [F.v,.int .i64 (b:Int),.int .i64 P] []=some ([.vsl none (.named 64) (arcZ F ((F.bl.getD b z53).f1) P),.int .i64 0],[]):=by
 refine (f22_eq (k+44) _ _ _ _ _ _ _ _).trans ?_
 have e39:=c39 h k (by omega)
 have e29:=c29 h hb k (by omega)
 have he:=end_ok h
 have hl:=ls_ok h
 have hm:=mBl_ok h
 have hlen:=(h.bk b hb).len
 have lc:=cbF_len ((F.bl.getD b z53).f1) ((F.bl.getD b z53).f1).length
 rw [if_neg (by omega),if_neg (by omega),e39,Option.bind_some,res39_eq,if_neg (by omega),e29,Option.bind_some,res29_eq,lc,w64 (x:=P - 30) (by omega) (by omega),w64 (x:=P - 30 - endZ (szL F.bl)) (by omega) (by omega)]
 exact l22_out (k+44) F _ (h.bk b hb) _ (by omega) _ _ (by omega) (k+44) 0 (by omega) (by omega)
end Go.Proofs.Ytabcdpddhmekkaa.vm
