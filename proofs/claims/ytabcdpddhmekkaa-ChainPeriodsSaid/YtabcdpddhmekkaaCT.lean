-- Written for this claim by programs of this session (wip in its repo). Lean checks it.
set_option linter.all false
namespace Go.Proofs.Ytabcdpddhmekkaa
def mx (c:Nat→Bool) (v:Nat→Int) (a:Int):Nat→Int
 | 0=>a
 | n+1=>if c n then max (mx c v a n) (v n) else mx c v a n
theorem mx_ge (c:Nat→Bool) (v:Nat→Int) (a:Int):∀ n,a≤mx c v a n
 | 0=>Int.le_refl _
 | n+1=>by
  have h:=mx_ge c v a n
  unfold mx;split <;> omega
theorem mx_of (c:Nat→Bool) (v:Nat→Int) (a:Int):∀ n k,k<n→c k=true→v k≤mx c v a n
 | n+1,k,hk,hc=>by
  unfold mx
  by_cases e:k=n
  ·subst e;rw [if_pos hc];omega
  ·have h:=mx_of c v a n k (by omega) hc
   split <;> omega
theorem mx_cases (c:Nat→Bool) (v:Nat→Int) (a:Int):∀ n,mx c v a n=a∨∃ k,k<n∧c k=true∧mx c v a n=v k
 | 0=>.inl rfl
 | n+1=>by
  unfold mx
  by_cases hc:c n=true
  ·rw [if_pos hc]
   rcases Int.le_total (mx c v a n) (v n) with h | h
   ·exact .inr ⟨n,by omega,hc,by omega⟩
   ·rw [Int.max_eq_left h]
    exact (mx_cases c v a n).imp id fun ⟨k,hk,h1,h2⟩=>⟨k,by omega,h1,h2⟩
  ·rw [if_neg hc]
   exact (mx_cases c v a n).imp id fun ⟨k,hk,h1,h2⟩=>⟨k,by omega,h1,h2⟩
theorem mx_congr {c c':Nat→Bool} {v v':Nat→Int} {a:Int}:∀ {n},(∀ k,k<n→c k=c' k)→(∀ k,k<n→c k=true→v k=v' k)→mx c v a n=mx c' v' a n
 | 0,_,_=>rfl
 | n+1,h,g=>by
  unfold mx
  rw [mx_congr (n:=n) (fun k hk=>h k (by omega)) (fun k hk=>g k (by omega)),← h n (by omega)]
  by_cases hc:c n=true
  ·rw [if_pos hc,if_pos hc,g n (by omega) hc]
  ·rw [if_neg hc,if_neg hc]
def tabF (step:(Nat→Int)→Nat→Int):Nat→List Int
 | 0=>[]
 | i+1=>tabF step i++[step (fun k=>(tabF step i).getD k 0) i]
def fixF (step:(Nat→Int)→Nat→Int) (i:Nat):Int:=(tabF step (i+1)).getD i 0
theorem tab_len (step:(Nat→Int)→Nat→Int):∀ i,(tabF step i).length=i
 | 0=>rfl
 | i+1=>by simp [tabF,tab_len step i]
theorem tab_get (step:(Nat→Int)→Nat→Int):∀ i k,k<i→(tabF step i).getD k 0=fixF step k
 | i+1,k,hk=>by
  by_cases e:k=i
  ·subst e;rfl
  ·rw [← tab_get step i k (by omega)]
   show (tabF step i++_).getD k 0=_
   rw [List.getD_eq_getElem?_getD,List.getElem?_append_left (by rw [tab_len];omega),← List.getD_eq_getElem?_getD]
def Looks (step:(Nat→Int)→Nat→Int):Prop:=∀ g h i,(∀ k,k<i→g k=h k)→step g i=step h i
theorem fix_eq {step:(Nat→Int)→Nat→Int} (hl:Looks step) (i:Nat):fixF step i=step (fixF step) i:=by
 have:fixF step i=step (fun k=>(tabF step i).getD k 0) i:=by
  unfold fixF
  show (tabF step i++[_]).getD i 0=_
  rw [List.getD_eq_getElem?_getD,List.getElem?_append_right (by rw [tab_len];omega),tab_len]
  simp
 rw [this]
 exact hl _ _ i fun k hk=>tab_get step i k hk
structure Ch where
 cb:Nat→Bool
 d:Nat→Int
 lk:Nat→Nat→Bool
 sm:Nat→Nat→Bool
structure Ch.Ok (X:Ch):Prop where
 d0:∀ i,0≤X.d i
 lk:∀ k i,X.lk k i=true→k<i∧X.cb k=true∧X.cb i=true
def Ch.stepF (X:Ch) (u:Nat) (g:Nat→Int) (i:Nat):Int:=
 mx (fun k=>decide (0≤g k)&&X.lk k i&&X.sm k i) (fun k=>g k+X.d i) (if i=u∧X.cb i=true then X.d i else -1) i
def Ch.fr (X:Ch) (u:Nat):Nat→Int:=fixF (X.stepF u)
def Ch.stepM (X:Ch) (g:Nat→Int) (i:Nat):Int:=X.d i+mx (fun k=>X.lk k i&&X.sm k i) g 0 i
def Ch.M (X:Ch):Nat→Int:=fixF X.stepM
theorem Ch.looksF (X:Ch) (u:Nat):Looks (X.stepF u):=fun g h i e=>by
 unfold Ch.stepF
 exact mx_congr (fun k hk=>by rw [e k hk]) (fun k hk _=>by rw [e k hk])
theorem Ch.looksM (X:Ch):Looks X.stepM:=fun g h i e=>by
 unfold Ch.stepM
 rw [mx_congr (fun k hk=>rfl) (fun k hk _=>e k hk)]
theorem Ch.fr_eq (X:Ch) (u i:Nat):X.fr u i=mx (fun k=>decide (0≤X.fr u k)&&X.lk k i&&X.sm k i) (fun k=>X.fr u k+X.d i) (if i=u∧X.cb i=true then X.d i else -1) i:=fix_eq (X.looksF u) i
theorem Ch.M_eq (X:Ch) (i:Nat):X.M i=X.d i+mx (fun k=>X.lk k i&&X.sm k i) X.M 0 i:=fix_eq X.looksM i
theorem Ch.M_ge {X:Ch} (h:X.Ok) (i:Nat):X.d i≤X.M i:=by
 rw [X.M_eq]
 have:=mx_ge (fun k=>X.lk k i&&X.sm k i) X.M 0 i
 omega
theorem Ch.M0 {X:Ch} (h:X.Ok) (i:Nat):0≤X.M i:=Int.le_trans (h.d0 i) (Ch.M_ge h i)
theorem Ch.fr_le {X:Ch} (h:X.Ok) (u:Nat):∀ i,0≤X.fr u i→X.cb i=true∧u≤i∧X.cb u=true∧X.fr u i≤X.M i:=by
 intro i
 induction i using Nat.strongRecOn with
 | _ i ih=>
  intro h0
  have e:=X.fr_eq u i
  rcases mx_cases (fun k=>decide (0≤X.fr u k)&&X.lk k i&&X.sm k i) (fun k=>X.fr u k+X.d i) (if i=u∧X.cb i=true then X.d i else -1) i with c | ⟨k,hk,hc,c⟩
  ·rw [c] at e
   by_cases hu:i=u∧X.cb i=true
   ·rw [if_pos hu] at e
    obtain ⟨rfl,hb⟩:=hu
    exact ⟨hb,Nat.le_refl _,hb,by rw [e];exact Ch.M_ge h i⟩
   ·rw [if_neg hu] at e;omega
  ·rw [c] at e
   simp only [Bool.and_eq_true,decide_eq_true_eq] at hc
   obtain ⟨⟨c1,c2⟩,c3⟩:=hc
   obtain ⟨_,hu,hbu,hle⟩:=ih k hk c1
   refine ⟨(h.lk k i c2).2.2,by omega,hbu,?_⟩
   rw [e,X.M_eq i]
   have:=mx_of (fun k=>X.lk k i&&X.sm k i) X.M 0 i k hk (by simp [c2,c3])
   omega
theorem Ch.fr_of {X:Ch} (h:X.Ok):∀ i,X.cb i=true→∃ u,u≤i∧X.fr u i=X.M i:=by
 intro i
 induction i using Nat.strongRecOn with
 | _ i ih=>
  intro hb
  have e:=X.M_eq i
  rcases mx_cases (fun k=>X.lk k i&&X.sm k i) X.M 0 i with c | ⟨k,hk,hc,c⟩
  ·rw [c] at e
   refine ⟨i,Nat.le_refl _,Int.le_antisymm ?_ ?_⟩
   ·have h0:0≤X.fr i i:=by
     rw [X.fr_eq,if_pos ⟨rfl,hb⟩]
     exact Int.le_trans (h.d0 i) (mx_ge _ _ _ _)
    exact (Ch.fr_le h i i h0).2.2.2
   ·rw [e,X.fr_eq,if_pos ⟨rfl,hb⟩,Int.add_zero]
    exact mx_ge _ _ _ _
  ·rw [c] at e
   simp only [Bool.and_eq_true] at hc
   obtain ⟨u,hu,hf⟩:=ih k hk (h.lk k i hc.1).2.1
   have hk0:=Ch.M0 h k
   have g:X.fr u k+X.d i≤X.fr u i:=by
    rw [X.fr_eq u i]
    exact mx_of (fun k=>decide (0≤X.fr u k)&&X.lk k i&&X.sm k i) (fun k=>X.fr u k+X.d i) _ i k hk (by simp only [Bool.and_eq_true,decide_eq_true_eq];exact ⟨⟨by omega,hc.1⟩,hc.2⟩)
   have h0:0≤X.fr u i:=by have:=h.d0 i;omega
   have:=(Ch.fr_le h u i h0).2.2.2
   exact ⟨u,by omega,by omega⟩
theorem Ch.fr_neg {X:Ch} (u i:Nat) : -1≤X.fr u i∨∃ k,X.d k<0:=by
 rw [X.fr_eq]
 have:=mx_ge (fun k=>decide (0≤X.fr u k)&&X.lk k i&&X.sm k i) (fun k=>X.fr u k+X.d i) (if i=u∧X.cb i=true then X.d i else -1) i
 by_cases hu:i=u∧X.cb i=true
 ·rw [if_pos hu] at this ⊢
  by_cases hd:X.d i<0
  ·exact .inr ⟨i,hd⟩
  ·exact .inl (by omega)
 ·rw [if_neg hu] at this ⊢;exact .inl this
theorem Ch.arr {X:Ch} (h:X.Ok) {B:Int} (hB:0≤B) {n i:Nat} (hi:i<n):mx (fun u=>decide (0≤X.fr u i)) (fun u=>B+X.fr u i) 0 n=if X.cb i=true then B+X.M i else 0:=by
 by_cases hb:X.cb i=true
 ·rw [if_pos hb]
  obtain ⟨u,hu,hf⟩:=Ch.fr_of h i hb
  have h0:=Ch.M0 h i
  apply Int.le_antisymm
  ·rcases mx_cases (fun u=>decide (0≤X.fr u i)) (fun u=>B+X.fr u i) 0 n with c | ⟨k,_,hc,c⟩
   ·rw [c];omega
   ·rw [c]
    have:=(Ch.fr_le h k i (by simpa using hc)).2.2.2
    omega
  ·have:B+X.fr u i≤_:=mx_of (fun u=>decide (0≤X.fr u i)) (fun u=>B+X.fr u i) 0 n u (by omega) (by simp only [decide_eq_true_eq];omega)
   omega
 ·rw [if_neg hb]
  rcases mx_cases (fun u=>decide (0≤X.fr u i)) (fun u=>B+X.fr u i) 0 n with c | ⟨k,_,hc,c⟩
  ·exact c
  ·exact absurd (Ch.fr_le h k i (by simpa using hc)).1 hb
theorem Ch.fr_before {X:Ch} (h:X.Ok) {u i:Nat} (hi:i<u):X.fr u i = -1:=by
 rcases Ch.fr_neg (X:=X) u i with c | ⟨k,hk⟩
 ·by_cases h0:0≤X.fr u i
  ·have:=(Ch.fr_le h u i h0).2.1;omega
  ·omega
 ·have:=h.d0 k;omega
theorem Ch.fr_self {X:Ch} (h:X.Ok) (u:Nat):X.fr u u=if X.cb u=true then X.d u else -1:=by
 rw [X.fr_eq]
 rcases mx_cases (fun k=>decide (0≤X.fr u k)&&X.lk k u&&X.sm k u) (fun k=>X.fr u k+X.d u) (if u=u∧X.cb u=true then X.d u else -1) u with c | ⟨k,hk,hc,c⟩
 ·rw [c];simp
 ·simp only [Bool.and_eq_true,decide_eq_true_eq] at hc
  have:=Ch.fr_before h hk
  omega
def Ch.all (X:Ch):Ch:={ X with sm:=fun _ _=>true }
theorem Ch.fr_all {X:Ch} (h:X.Ok) {s:Nat→Int} (hs:∀ k i,X.sm k i=decide (s k=s i)) (u:Nat):∀ i,0≤X.fr u i→X.fr u i≤X.all.fr u i∧s u=s i:=by
 intro i
 induction i using Nat.strongRecOn with
 | _ i ih=>
  intro h0
  have e:=X.fr_eq u i
  rcases mx_cases (fun k=>decide (0≤X.fr u k)&&X.lk k i&&X.sm k i) (fun k=>X.fr u k+X.d i) (if i=u∧X.cb i=true then X.d i else -1) i with c | ⟨k,hk,hc,c⟩
  ·rw [c] at e
   by_cases hu:i=u∧X.cb i=true
   ·rw [if_pos hu] at e
    refine ⟨?_,by rw [hu.1]⟩
    have:=mx_ge (fun k=>decide (0≤X.all.fr u k)&&X.all.lk k i&&X.all.sm k i) (fun k=>X.all.fr u k+X.all.d i) (if i=u∧X.all.cb i=true then X.all.d i else -1) i
    rw [← X.all.fr_eq u i,if_pos (show i=u∧X.all.cb i=true from hu)] at this
    rw [e];exact this
   ·rw [if_neg hu] at e;omega
  ·rw [c] at e
   simp only [Bool.and_eq_true,decide_eq_true_eq] at hc
   obtain ⟨⟨c1,c2⟩,c3⟩:=hc
   obtain ⟨g1,g2⟩:=ih k hk c1
   rw [hs,decide_eq_true_eq] at c3
   refine ⟨?_,by omega⟩
   have:=mx_of (fun k=>decide (0≤X.all.fr u k)&&X.all.lk k i&&X.all.sm k i) (fun k=>X.all.fr u k+X.all.d i) (if i=u∧X.all.cb i=true then X.all.d i else -1) i k hk (by simp only [Bool.and_eq_true,decide_eq_true_eq];exact ⟨⟨by omega,c2⟩,rfl⟩)
   rw [← X.all.fr_eq u i] at this
   have e2:X.all.d i=X.d i:=rfl
   omega
theorem Ch.fr_cycle {X:Ch} (h:X.Ok) {s:Nat→Int} (hs:∀ k i,X.sm k i=decide (s k=s i)) (up:∀ k i,X.lk k i=true→s k≤s i) (u:Nat):∀ i,0≤X.all.fr u i→s u≤s i∧(s u=s i→X.fr u i=X.all.fr u i):=by
 intro i
 induction i using Nat.strongRecOn with
 | _ i ih=>
  intro h0
  have e:=X.all.fr_eq u i
  rcases mx_cases (fun k=>decide (0≤X.all.fr u k)&&X.all.lk k i&&X.all.sm k i) (fun k=>X.all.fr u k+X.all.d i) (if i=u∧X.all.cb i=true then X.all.d i else -1) i with c | ⟨k,hk,hc,c⟩
  ·rw [c] at e
   by_cases hu:i=u∧X.all.cb i=true
   ·rw [if_pos hu] at e
    refine ⟨by rw [hu.1];exact Int.le_refl _,fun _=>?_⟩
    rw [e]
    obtain ⟨rfl,hb⟩:=hu
    rw [Ch.fr_self h,if_pos (show X.cb i=true from hb)];rfl
   ·rw [if_neg hu] at e;omega
  ·rw [c] at e
   simp only [Bool.and_eq_true,decide_eq_true_eq] at hc
   obtain ⟨⟨c1,c2⟩,_⟩:=hc
   obtain ⟨g1,g2⟩:=ih k hk c1
   have u1:=up k i c2
   refine ⟨by omega,fun es=>?_⟩
   have ek:=g2 (by omega)
   have hd:X.all.d i=X.d i:=rfl
   have:=mx_of (fun k=>decide (0≤X.fr u k)&&X.lk k i&&X.sm k i) (fun k=>X.fr u k+X.d i) (if i=u∧X.cb i=true then X.d i else -1) i k hk (by simp only [Bool.and_eq_true,decide_eq_true_eq];exact ⟨⟨by omega,c2⟩,by rw [hs,decide_eq_true_eq];omega⟩)
   rw [← X.fr_eq u i] at this
   have d0:=h.d0 i
   have:=(Ch.fr_all h hs u i (by omega)).1
   omega
theorem Ch.arcs_iff {X:Ch} (h:X.Ok) {s:Nat→Int} (hs:∀ k i,X.sm k i=decide (s k=s i)) (up:∀ k i,X.lk k i=true→s k≤s i) {n:Nat} {room:Int} (hr:0≤room) :
  (∀ u i,u<n→i<n→room<X.all.fr u i→s u+1≤s i)↔∀ i,i<n→X.cb i=true→X.M i≤room:=by
 constructor
 ·intro H i hi hb
  obtain ⟨u,hu,hf⟩:=Ch.fr_of h i hb
  have h0:=Ch.M0 h i
  obtain ⟨g1,g2⟩:=Ch.fr_all h hs u i (by omega)
  by_cases c:X.M i≤room
  ·exact c
  ·have:=H u i (by omega) hi (by omega);omega
 ·intro H u i hu hi hf
  obtain ⟨g1,g2⟩:=Ch.fr_cycle h hs up u i (by omega)
  by_cases c:s u=s i
  ·have e:=g2 c
   obtain ⟨b1,_,_,b2⟩:=Ch.fr_le h u i (by omega)
   have:=H i hi b1
   omega
  ·omega
def pf (sm:Nat→Bool) (t:Nat→Int):List Nat→Int→Int→Int × Int
 | [],x,b=>(x,b)
 | k::l,x,b=>if sm k=true∧(b<0∨x<t k) then pf sm t l (t k) k else pf sm t l x b
end Go.Proofs.Ytabcdpddhmekkaa
