-- Written for this claim by programs of this session (wip in its repo). Lean checks it.
/- The maker of the document's sketches ends on every sketch of a size that is looked at, and the function that it makes is valid. -/
import Derived.Test.YtabcdpddhmekkaaMk
set_option linter.all false
namespace Go.Proofs.Ytabcdpddhmekkaa.PAll
open Go.RowKit Go.Proofs.YtabcdpddhmekkaaW.PrintWords Go.Proofs.YtabcdpddhmekkaaW.PrintLast Go.Proofs.YtabcdpddhmekkaaW.PrintMore
attribute [local go_sem] max2_int min2_int max_two min_two max_three min_three max_four min_four
set_option linter.unusedVariables false
set_option linter.unusedSimpArgs false
def dests (l:List S72):List Int:=(l.map (fun x=>x.f1)).filter (fun v=>decide (0≤v))
theorem dests_push_some (l:List S72) (x:S72) (h:0≤x.f1):dests (l++[x])=dests l++[x.f1]:=by simp [dests,h]
theorem dests_push_none (l:List S72) (x:S72) (h:x.f1 = -1):dests (l++[x])=dests l:=by simp [dests,h]
structure InstOk (ar st:Nat) (V:List Int) (x:S72):Prop where
 op:1≤x.f0∧x.f0≤28
 args:∀ v∈x.f2,v∈V
 two:2≤x.f0→x.f0≤20→x.f2.length=2
 dst:(x.f1 = -1∧(x.f0=26∨x.f0=28))∨(0≤x.f1∧x.f0≠26∧x.f0≠28)
 mar:x.f0=25∨x.f0=26→0≤x.f4∧x.f4<(ar:Int)
 mst:x.f0=27∨x.f0=28→0≤x.f4∧x.f4<(st:Int)
 len:x.f2.length≤3
def InstsOk (ar st:Nat) (P:List Int) (l:List S72):Prop:=∀ j (hj:j<l.length),InstOk ar st (P++dests (l.take j)) l[j]
theorem InstsOk.push {ar st:Nat} {P:List Int} {l:List S72} {x:S72} (h:InstsOk ar st P l) (hx:InstOk ar st (P++dests l) x):InstsOk ar st P (l++[x]):=by
 intro j hj
 by_cases h1:j<l.length
 ·rw [List.take_append_of_le_length (by omega),List.getElem_append_left h1]
  exact h j h1
 ·obtain rfl:j=l.length:=by simp at hj;omega
  rw [List.take_append_of_le_length (Nat.le_refl _),List.take_length,List.getElem_append_right (Nat.le_refl _)]
  simpa using hx
structure BlkOk (ws ar st:Nat) (x:S53):Prop where
 up:(x.f0++dests x.f1).Pairwise (· < ·)
 lt:∀ v∈x.f0++dests x.f1,0≤v∧v<(ws:Int)
 five:x.f0.length≤5
 ok:InstsOk ar st x.f0 x.f1
def Wide (w:Int):Prop:=1≤w∧w≤64
structure Inv (F:FN) (b:Int) (vals:List Int) (n s:Nat):Prop where
 hn:F.bl.length=n
 hb:0≤b∧b<(n:Int)
 hs:F.ws.length≤s
 hl:vals.length≤s
 hi:(rd_T53 F.bl b).f1.length≤s
 hv:vals=(rd_T53 F.bl b).f0++dests (rd_T53 F.bl b).f1
 B:∀ i:Int,0≤i→i<(n:Int)→BlkOk F.ws.length F.ar.length F.st.length (rd_T53 F.bl i)
 W:∀ w∈F.ws,Wide w
 A:F.ar.length≤3∧∀ x∈F.ar,Wide x.f1
 S:F.st.length≤4∧∀ x∈F.st,Wide x.f1
 R:F.rt.length≤3∧∀ w∈F.rt,Wide w
structure Grow (F:FN) (b:Int) (vals:List Int) (F':FN) (vals':List Int):Prop where
 same:SameF F F'
 ws:F.ws <+: F'.ws
 other:∀ i:Int,0≤i→i≠b→rd_T53 F'.bl i=rd_T53 F.bl i
 pars:(rd_T53 F'.bl b).f0=(rd_T53 F.bl b).f0
 term:(rd_T53 F'.bl b).f2=(rd_T53 F.bl b).f2
 vals:∀ v∈vals,v∈vals'
theorem Grow.refl (F:FN) (b:Int) (vals:List Int):Grow F b vals F vals:=⟨SameF.refl _,List.prefix_refl _,fun _ _ _=>rfl,rfl,rfl,fun _ h=>h⟩
theorem Grow.trans {F F' F'':FN} {b:Int} {v v' v'':List Int} (h:Grow F b v F' v') (k:Grow F' b v' F'' v''):Grow F b v F'' v'':=
 ⟨h.same.trans k.same,h.ws.trans k.ws,fun i hi hb=>(k.other i hi hb).trans (h.other i hi hb),k.pars.trans h.pars,k.term.trans h.term,fun x hx=>k.vals x (h.vals x hx)⟩
theorem blk_set_same (l:List S53) (b:Int) (x:S53) (h:0≤b∧b<(l.length:Int)):rd_T53 (l.set b.toNat x) b=x:=by
 unfold rd_T53
 rw [List.getD_eq_getElem?_getD,List.getElem?_set_self (by omega)]
 rfl
theorem blk_set_other (l:List S53) (b i:Int) (x:S53) (hi:0≤i) (hb:0≤b) (h:i≠b):rd_T53 (l.set b.toNat x) i=rd_T53 l i:=by
 unfold rd_T53
 rw [List.getD_eq_getElem?_getD,List.getD_eq_getElem?_getD,List.getElem?_set_ne (by omega)]
theorem BlkOk.wider {ws ws' ar st:Nat} {x:S53} (h:BlkOk ws ar st x) (hw:ws≤ws'):BlkOk ws' ar st x:=
 ⟨h.up,fun v hv=>⟨(h.lt v hv).1,by have:=(h.lt v hv).2;omega⟩,h.five,h.ok⟩
theorem Inv.more {F:FN} {b:Int} {vals:List Int} {n s s':Nat} (h:Inv F b vals n s) (hs:s≤s'):Inv F b vals n s':=
 ⟨h.hn,h.hb,Nat.le_trans h.hs hs,Nat.le_trans h.hl hs,Nat.le_trans h.hi hs,h.hv,h.B,h.W,h.A,h.S,h.R⟩
theorem Inv.lt {F:FN} {b:Int} {vals:List Int} {n s:Nat} (h:Inv F b vals n s):∀ v∈vals,0≤v∧v<(F.ws.length:Int):=by
 intro v hv
 rw [h.hv] at hv
 exact (h.B b h.hb.1 h.hb.2).lt v hv
def Made {α : Type} (F:FN) (b:Int) (vals:List Int) (n s:Nat) (o:Option (FN × List Int × α)) (Q:FN→List Int → α → Prop):Prop:=
 ∃ F' vals' d,o=some (F',vals',d)∧Inv F' b vals' n s∧Grow F b vals F' vals'∧Q F' vals' d
theorem Made.mono {α : Type} {F:FN} {b:Int} {vals:List Int} {n s s':Nat} {o:Option (FN × List Int × α)} {Q Q':FN→List Int → α → Prop} (h:Made F b vals n s o Q) (hs:s≤s') (hq:∀ F' v d,Q F' v d→Q' F' v d):Made F b vals n s' o Q':=by
 obtain ⟨F',v,d,e,i,g,q⟩:=h
 exact ⟨F',v,d,e,i.more hs,g,hq _ _ _ q⟩
theorem Made.bind {α β : Type} {F:FN} {b:Int} {vals:List Int} {n s s':Nat} {o:Option (FN × List Int × α)} {Q:FN→List Int → α → Prop} {g:FN × List Int × α → Option (FN × List Int × β)} {Q':FN→List Int → β → Prop}
  (h:Made F b vals n s o Q) (k:∀ F' v d,Inv F' b v n s→Grow F b vals F' v→Q F' v d→Made F' b v n s' (g (F',v,d)) Q'):Made F b vals n s' (o.bind g) Q':=by
 obtain ⟨F',v,d,rfl,i,gr,q⟩:=h
 obtain ⟨F2,v2,d2,e2,i2,gr2,q2⟩:=k F' v d i gr q
 exact ⟨F2,v2,d2,e2,i2,gr.trans gr2,q2⟩
theorem Made.now {α : Type} {F:FN} {b:Int} {vals:List Int} {n s:Nat} {d : α} {Q:FN→List Int → α → Prop} (h:Inv F b vals n s) (q:Q F vals d):Made F b vals n s (some (F,vals,d)) Q:=
 ⟨F,vals,d,rfl,h,Grow.refl _ _ _,q⟩
def In (_:FN) (vals:List Int) (d:Int):Prop:=d∈vals
theorem BlkOk.push_some {ws ar st:Nat} {x:S53} {y:S72} (h:BlkOk ws ar st x) (hy:InstOk ar st (x.f0++dests x.f1) y) (hd:y.f1=(ws:Int)):BlkOk (ws+1) ar st { x with f1:=x.f1++[y] }:=by
 have e:x.f0++dests (x.f1++[y])=(x.f0++dests x.f1)++[(ws:Int)]:=by rw [dests_push_some _ _ (by omega),hd,List.append_assoc]
 refine ⟨?_,?_,h.five,h.ok.push hy⟩
 ·show (x.f0++dests (x.f1++[y])).Pairwise (· < ·)
  rw [e,List.pairwise_append]
  exact ⟨h.up,by simp,fun a ha b hb=>by simp at hb;subst hb;exact (h.lt a ha).2⟩
 ·show ∀ v∈x.f0++dests (x.f1++[y]),_
  rw [e]
  intro v hv
  rcases List.mem_append.mp hv with hv | hv
  ·have:=h.lt v hv;omega
  ·simp at hv;omega
theorem BlkOk.push_none {ws ar st:Nat} {x:S53} {y:S72} (h:BlkOk ws ar st x) (hy:InstOk ar st (x.f0++dests x.f1) y) (hd:y.f1 = -1):BlkOk ws ar st { x with f1:=x.f1++[y] }:=by
 have e:x.f0++dests (x.f1++[y])=x.f0++dests x.f1:=by rw [dests_push_none _ _ hd]
 exact ⟨by show (x.f0++dests (x.f1++[y])).Pairwise (· < ·);rw [e];exact h.up,by show ∀ v∈x.f0++dests (x.f1++[y]),_;rw [e];exact h.lt,h.five,h.ok.push hy⟩
theorem mkAdd_ok {F:FN} {b:Int} {vals:List Int} {n s:Nat} {x:S72} {wd:Int} (h:Inv F b vals n s) (hs:s<1000000) (hw:Wide wd)
  (hx:∀ d:Int,0≤d→InstOk F.ar.length F.st.length vals { x with f1:=d }):Made F b vals n (s+1) (mkAdd F b vals x wd) (fun F' v d=>d∈v∧rd F'.ws d=wd):=by
 have hn:=h.hn
 have hb:=h.hb
 have hsz:=h.hs
 have hbl:0≤b∧b<(F.bl.length:Int):=by rw [hn];exact hb
 have OB:=h.B b hb.1 hb.2
 have hX:=hx (F.ws.length:Int) (by omega)
 rw [h.hv] at hX
 have e0:=blk_set_same F.bl b { rd_T53 F.bl b with f1:=(rd_T53 F.bl b).f1++[{ x with f1:=(F.ws.length:Int) }] } hbl
 refine ⟨_,_,_,if_pos ⟨hb.1,by omega,by omega,by have:=h.hi;omega,by have:=h.hl;omega⟩,⟨?_,hb,?_,?_,?_,?_,?_,?_,h.A,h.S,h.R⟩,⟨⟨rfl,rfl,rfl,rfl,by simp⟩,List.prefix_append _ _,?_,?_,?_,?_⟩,?_,?_⟩
 ·simp [hn]
 ·simp;omega
 ·have:=h.hl;simp;omega
 ·dsimp only;rw [e0];have:=h.hi;simp;omega
 ·dsimp only;rw [e0];show vals++[(F.ws.length:Int)]=(rd_T53 F.bl b).f0++dests ((rd_T53 F.bl b).f1++[_]);rw [dests_push_some _ _ (by show (0:Int)≤(F.ws.length:Int);omega),← List.append_assoc,← h.hv]
 ·intro i h0 h1
  dsimp only
  rw [List.length_append,List.length_singleton]
  by_cases hi:i=b
  ·subst hi
   rw [e0]
   exact OB.push_some hX rfl
  ·rw [blk_set_other _ _ _ _ h0 hb.1 hi]
   exact (h.B i h0 h1).wider (by omega)
 ·intro w hw'
  rcases List.mem_append.mp hw' with h1 | h1
  ·exact h.W w h1
  ·simp at h1;subst h1;exact hw
 ·exact fun i h0 hi=>blk_set_other _ _ _ _ h0 hb.1 hi
 ·dsimp only;rw [e0]
 ·dsimp only;rw [e0]
 ·exact fun v hv=>List.mem_append_left _ hv
 ·simp
 ·show (F.ws++[wd]).getD ((F.ws.length:Int).toNat) 0=wd
  rw [List.getD_eq_getElem?_getD,Int.toNat_natCast,List.getElem?_append_right (Nat.le_refl _)]
  simp
theorem mkPush_ok {F:FN} {b:Int} {vals:List Int} {n s:Nat} {x:S72} (h:Inv F b vals n s) (hs:s<1000000) (hd:x.f1 = -1) (hx:InstOk F.ar.length F.st.length vals x) :
  ∃ F' v,mkPush F b vals x=some (F',v)∧Inv F' b v n (s+1)∧Grow F b vals F' v:=by
 have hn:=h.hn
 have hb:=h.hb
 have hbl:0≤b∧b<(F.bl.length:Int):=by rw [hn];exact hb
 have OB:=h.B b hb.1 hb.2
 rw [h.hv] at hx
 have e0:=blk_set_same F.bl b { rd_T53 F.bl b with f1:=(rd_T53 F.bl b).f1++[x] } hbl
 refine ⟨_,_,if_pos ⟨hb.1,by omega,by have:=h.hi;omega⟩,⟨?_,hb,?_,?_,?_,?_,?_,h.W,h.A,h.S,h.R⟩,⟨⟨rfl,rfl,rfl,rfl,by simp⟩,List.prefix_refl _,?_,?_,?_,fun _ hv=>hv⟩⟩
 ·simp [hn]
 ·have:=h.hs;dsimp only;omega
 ·have:=h.hl;omega
 ·dsimp only;rw [e0];have:=h.hi;simp;omega
 ·dsimp only;rw [e0];show vals=(rd_T53 F.bl b).f0++dests ((rd_T53 F.bl b).f1++[x]);rw [dests_push_none _ _ hd,← h.hv]
 ·intro i h0 h1
  dsimp only
  by_cases hi:i=b
  ·subst hi
   rw [e0]
   exact OB.push_none hx hd
  ·rw [blk_set_other _ _ _ _ h0 hb.1 hi]
   exact h.B i h0 h1
 ·exact fun i h0 hi=>blk_set_other _ _ _ _ h0 hb.1 hi
 ·dsimp only;rw [e0]
 ·dsimp only;rw [e0]
theorem w64' {x:Int} (h : -9223372036854775808≤x) (h':x≤9223372036854775807):wrap64 x=x:=by
 unfold wrap64
 omega
theorem rd_mem {l:List Int} {i:Int} (h0:0≤i) (h1:i<(l.length:Int)):rd l i∈l:=by
 unfold rd
 rw [List.getD_eq_getElem?_getD,List.getElem?_eq_getElem (show i.toNat<l.length by omega)]
 exact List.getElem_mem _
theorem tm (k:Int) (n:Nat) (hk:0≤k) (hn:0<n):0≤Int.tmod k (n:Int)∧Int.tmod k (n:Int)<(n:Int):=⟨Int.tmod_nonneg _ hk,Int.tmod_lt_of_pos _ (by omega)⟩
theorem wide_one:Wide 1:=⟨by omega,by omega⟩
theorem inst_ok {ar st:Nat} {V:List Int} {op num mem:Int} {args:List Int} (hop:1≤op∧op≤28) (ha:∀ v∈args,v∈V) (h2:2≤op→op≤20→args.length=2) (hn:op≠26∧op≠28)
  (hm:op=25∨op=26→0≤mem∧mem<(ar:Int)) (hs:op=27∨op=28→0≤mem∧mem<(st:Int)) (h3:args.length≤3:=by first | simp | decide) (d:Int) (hd:0≤d):InstOk ar st V { (⟨op,0,args,num,mem⟩:S72) with f1:=d }:=
 ⟨hop,ha,h2,.inr ⟨hd,hn⟩,hm,hs,h3⟩
theorem mkAny_ok {F:FN} {b:Int} {vals:List Int} {n s:Nat} {k:Int} (h:Inv F b vals n s) (hs:s<1000000) (hk:0≤k∧k≤255):Made F b vals n (s+1) (mkAny F b vals k) In:=by
 unfold mkAny
 by_cases h0:vals.length=0
 ·rw [if_pos h0]
  exact (mkAdd_ok h hs wide_one (inst_ok (by omega) (by simp) (by omega) (by omega) (by omega) (by omega))).mono (Nat.le_refl _) (fun _ _ _ q=>q.1)
 ·have hl:=h.hl
  have t:=tm k vals.length hk.1 (by omega)
  have e:wrap64 (wrap64 ((vals.length:Int) - 1) - Int.tmod (wrap64 k) (vals.length:Int))=(vals.length:Int) - 1 - Int.tmod k (vals.length:Int):=by
   rw [w64' (x:=k) (by omega) (by omega),w64' (x:=(vals.length:Int) - 1) (by omega) (by omega),w64' (by omega) (by omega)]
  rw [if_neg h0,e,if_pos ⟨by omega,by omega⟩]
  exact (Made.now h (rd_mem (by omega) (by omega))).mono (by omega) (fun _ _ _ q=>q)
theorem mkFrom_ok {F:FN} {b:Int} {vals:List Int} {n s:Nat} {wd k v:Int} (h:Inv F b vals n s) (hs:s<1000000) (hw:Wide wd) (hv:v∈vals):Made F b vals n (s+1) (mkFrom F b vals wd k v) In:=by
 have io:∀ op:Int,op=22∨op=23∨op=24→∀ d:Int,0≤d→InstOk F.ar.length F.st.length vals { (⟨op,0,[v],0,0⟩:S72) with f1:=d }:=fun op ho=>
  inst_ok (by omega) (fun x hx=>by simp at hx;subst hx;exact hv) (by omega) (by omega) (by omega) (by omega)
 unfold mkFrom
 rw [if_pos (h.lt v hv)]
 split
 ·exact (Made.now h hv).mono (by omega) (fun _ _ _ q=>q)
 split
 ·exact (mkAdd_ok h hs hw (io 24 (by omega))).mono (Nat.le_refl _) (fun _ _ _ q=>q.1)
 split
 ·exact (mkAdd_ok h hs hw (io 23 (by omega))).mono (Nat.le_refl _) (fun _ _ _ q=>q.1)
 ·exact (mkAdd_ok h hs hw (io 22 (by omega))).mono (Nat.le_refl _) (fun _ _ _ q=>q.1)
theorem mkValL_ok {ws vals:List Int} {wd:Int} (h:∀ v∈vals,0≤v∧v<(ws.length:Int)):∀ (d:Nat) (acc:List Int),d≤vals.length→(∀ v∈acc,v∈vals)→∃ l,mkValL ws vals wd d acc=some l∧∀ v∈l,v∈vals
 | 0,acc,_,ha=>⟨acc,rfl,ha⟩
 | d+1,acc,hd,ha=>by
  have hm:=rd_mem (l:=vals) (i:=(d:Int)) (by omega) (by omega)
  rw [mkValL,if_pos (h _ hm)]
  refine mkValL_ok h d _ (by omega) ?_
  split
  ·intro v hv
   rcases List.mem_append.mp hv with hv | hv
   ·exact ha v hv
   ·simp at hv;subst hv;exact hm
  ·exact ha
theorem mkValue_ok {F:FN} {b:Int} {vals:List Int} {n s:Nat} {wd k:Int} (h:Inv F b vals n s) (hs:s+2≤1000000) (hw:Wide wd) (hk:0≤k∧k≤255):Made F b vals n (s+2) (mkValue F b vals wd k) In:=by
 unfold mkValue
 rw [if_pos (by have:=h.hl;omega)]
 obtain ⟨l,e,hl⟩:=mkValL_ok (wd:=wd) h.lt vals.length [] (Nat.le_refl _) (by simp)
 rw [e]
 simp only [Option.bind_some]
 split
 ·rename_i hc
  have t:=tm k l.length hk.1 hc.1
  rw [w64' (x:=k) (by omega) (by omega),if_pos t]
  exact (Made.now h (hl _ (rd_mem t.1 t.2))).mono (by omega) (fun _ _ _ q=>q)
 ·exact (mkAny_ok h (by omega) hk).bind (fun F' v d i g q=>mkFrom_ok i (by omega) hw q)
theorem Wide.at {l:List Int} (h:∀ w∈l,Wide w) {i:Int} (h0:0≤i) (h1:i<(l.length:Int)):Wide (rd l i):=h _ (rd_mem h0 h1)
theorem mod256 (x:Int):0≤x % 256∧x % 256≤255:=⟨Int.emod_nonneg _ (by decide),by have:=Int.emod_lt_of_pos x (show (0:Int)<256 by decide);omega⟩
theorem mkEdgeL_ok {b k:Int} {p:List Int} {n:Nat}:∀ (d:Nat) {i:Int} {F:FN} {vals acc:List Int} {s:Nat},Inv F b vals n s→s+2*d≤1000000→0≤i→i+d=p.length→(acc.length:Int)=i→(∀ v∈acc,v∈vals)→(∀ v∈p,0≤v∧v<(F.ws.length:Int)) →
  Made F b vals n (s+2*d) (mkEdgeL b p k d i F vals acc) (fun _ v r=>r.length=p.length∧∀ x∈r,x∈v)
 | 0,i,F,vals,acc,s,h,hs,h0,hi,hl,ha,hp=>Made.now h ⟨by omega,ha⟩
 | d+1,i,F,vals,acc,s,h,hs,h0,hi,hl,ha,hp=>by
  have hr:=hp _ (rd_mem (l:=p) h0 (by omega))
  rw [mkEdgeL,if_pos hr]
  refine (mkValue_ok h (by omega) (Wide.at h.W hr.1 hr.2) (mod256 _)).bind (fun F' v x iv g q=>?_)
  refine (mkEdgeL_ok d iv (by omega) (by omega) (by omega) (by simp;omega) (fun y hy=>?_) (fun y hy=>?_)).mono (by omega) (fun _ _ _ q=>q)
  ·rcases List.mem_append.mp hy with hy | hy
   ·exact g.vals y (ha y hy)
   ·simp at hy;subst hy;exact q
  ·have:=hp y hy
   have:=g.ws.length_le
   omega
def EdgeOk (n:Nat) (bl:List S53) (V:List Int) (e:S111):Prop:=(0≤e.f0∧e.f0<(n:Int))∧e.f1.length=(rd_T53 bl e.f0).f0.length∧∀ v∈e.f1,v∈V
theorem mkEdge_ok {F:FN} {b tb k:Int} {vals:List Int} {n s:Nat} (h:Inv F b vals n s) (hs:s+10≤1000000) (ht:0≤tb∧tb<(n:Int)):Made F b vals n (s+10) (mkEdge F b vals tb k) (fun _ v e=>EdgeOk n F.bl v e):=by
 have B:=h.B tb ht.1 ht.2
 have f5:=B.five
 unfold mkEdge
 rw [if_pos ⟨ht.1,by rw [h.hn];exact ht.2,by omega⟩]
 have hp:∀ v∈(rd_T53 F.bl tb).f0,0≤v∧v<(F.ws.length:Int):=fun v hv=>B.lt v (List.mem_append_left _ hv)
 have M:=(mkEdgeL_ok (b:=b) (k:=k) (rd_T53 F.bl tb).f0.length (i:=0) (acc:=[]) h (by omega) (by omega) (by omega) rfl (by simp) hp).mono (s':=s+10) (by omega) (fun _ _ _ q=>q)
 exact M.bind (fun F' v r iv g q=>Made.now iv ⟨ht,q.1,q.2⟩)
theorem wide_ok (a:Int) (h:0≤a):∃ wd,jacquardref27_wide.f a=some wd∧Wide wd:=by
 have t:0≤Int.tmod a 9∧Int.tmod a 9<9:=⟨Int.tmod_nonneg _ h,Int.tmod_lt_of_pos _ (by decide)⟩
 unfold jacquardref27_wide.f
 simp only [Option.bind_some]
 rw [if_pos t.1,if_pos (by simpa using t.2)]
 refine ⟨_,rfl,?_⟩
 have:Int.tmod a 9=0∨Int.tmod a 9=1∨Int.tmod a 9=2∨Int.tmod a 9=3∨Int.tmod a 9=4∨Int.tmod a 9=5∨Int.tmod a 9=6∨Int.tmod a 9=7∨Int.tmod a 9=8:=by omega
 unfold Wide
 rcases this with e | e | e | e | e | e | e | e | e <;> rw [e] <;> exact ⟨by decide,by decide⟩
theorem mkStrL_ok {st:List S80} {out:Bool}:∀ (d:Nat) (i:Int) (acc:List Int),0≤i→i+d=st.length→(∀ v∈acc,0≤v∧v<(st.length:Int))→(acc.length:Int)≤i→(∀ v∈mkStrL st out d i acc,0≤v∧v<(st.length:Int))∧(mkStrL st out d i acc).length≤st.length
 | 0,i,acc,h0,hi,ha,hl=>⟨ha,by rw [mkStrL];omega⟩
 | d+1,i,acc,h0,hi,ha,hl=>by
  rw [mkStrL]
  refine mkStrL_ok d (i+1) _ (by omega) (by omega) ?_ ?_
  ·split
   ·intro v hv
    rcases List.mem_append.mp hv with hv | hv
    ·exact ha v hv
    ·simp at hv;subst hv;omega
   ·exact ha
  ·split
   ·simp;omega
   ·omega
theorem mkStream_ok {st:List S80} {out:Bool} {k:Int} (hs:st.length≤4) (hk:0≤k∧k≤255):∃ r,mkStream st out k=some r∧(0≤r→r<(st.length:Int)):=by
 obtain ⟨h1,h2⟩:=mkStrL_ok (st:=st) (out:=out) st.length 0 [] (by omega) (by omega) (by simp) (by simp)
 unfold mkStream
 rw [if_pos (by omega)]
 split
 ·exact ⟨_,rfl,by omega⟩
 ·rename_i hc
  have t:=tm k (mkStrL st out st.length 0 []).length hk.1 (by omega)
  rw [w64' (x:=k) (by omega) (by omega),if_pos t]
  exact ⟨_,rfl,fun _=>(h1 _ (rd_mem t.1 t.2)).2⟩
def Made2 (F:FN) (b:Int) (vals:List Int) (n s:Nat) (o:Option (FN × List Int)):Prop:=∃ F' vals',o=some (F',vals')∧Inv F' b vals' n s∧Grow F b vals F' vals'
section
variable {F:FN} {b:Int} {vals:List Int} {n s s':Nat}
theorem Made2.mono {o:Option (FN × List Int)} (h:Made2 F b vals n s o) (hs:s≤s'):Made2 F b vals n s' o:=by
 obtain ⟨F',v,e,i,g⟩:=h
 exact ⟨F',v,e,i.more hs,g⟩
theorem Made.bind2 {α : Type} {o:Option (FN × List Int × α)} {Q:FN→List Int → α → Prop} {g:FN × List Int × α → Option (FN × List Int)}
  (h:Made F b vals n s o Q) (k:∀ F' v d,Inv F' b v n s→Grow F b vals F' v→Q F' v d→Made2 F' b v n s' (g (F',v,d))):Made2 F b vals n s' (o.bind g):=by
 obtain ⟨F',v,d,rfl,i,gr,q⟩:=h
 obtain ⟨F2,v2,e2,i2,gr2⟩:=k F' v d i gr q
 exact ⟨F2,v2,e2,i2,gr.trans gr2⟩
theorem Made.two {α : Type} {o:Option (FN × List Int × α)} {Q:FN→List Int → α → Prop} (h:Made F b vals n s o Q):Made2 F b vals n s (o.bind fun z=>some (z.1,z.2.1)):=
 h.bind2 (fun F' v d i _ _=>⟨F',v,rfl,i,Grow.refl _ _ _⟩)
theorem Made2.bind {o:Option (FN × List Int)} {g:FN × List Int→Option (FN × List Int)} (h:Made2 F b vals n s o) (k:∀ F' v,Inv F' b v n s→Grow F b vals F' v→Made2 F' b v n s' (g (F',v))):Made2 F b vals n s' (o.bind g):=by
 obtain ⟨F',v,rfl,i,gr⟩:=h
 obtain ⟨F2,v2,e2,i2,gr2⟩:=k F' v i gr
 exact ⟨F2,v2,e2,i2,gr.trans gr2⟩
theorem Made2.now (h:Inv F b vals n s):Made2 F b vals n s (some (F,vals)):=⟨F,vals,rfl,h,Grow.refl _ _ _⟩
end
theorem bits_total {wd:Int} (hw:Wide wd):∀ (d k:Nat) (x:Int) (acc:List Int) (i:Int),0≤i→i+d=wd→(acc.length:Int)=i→d<k→∃ l,jacquardref01_Bits.l0 k wd x acc i=some l∧(l.length:Int)=wd
 | d,0,_,_,_,_,_,_,hk=>absurd hk (by omega)
 | d,k+1,x,acc,i,h0,hi,ha,hk=>by
  have hwd:jacquardref01_Width.f wd=some wd:=by
   obtain ⟨h1,h2⟩:=hw
   unfold jacquardref01_Width.f mn mx
   rw [if_neg (by omega),if_neg (by omega)]
  rw [jacquardref01_Bits.l0,hwd]
  simp only [Option.bind_some]
  obtain ⟨h1,h2⟩:=hw
  by_cases hc:i<wd
  ·obtain ⟨d,rfl⟩:∃ q,d=q+1:=⟨d - 1,by omega⟩
   rw [if_pos hc,if_pos (by omega),w64' (x:=i+1) (by omega) (by omega)]
   exact bits_total ⟨h1,h2⟩ d k _ _ (i+1) (by omega) (by omega) (by simp;omega) (by omega)
  ·rw [if_neg hc]
   exact ⟨_,rfl,by omega⟩
theorem word_total {l:List Int} (hl:l.length≤64):∀ (d k:Nat) (x:Int) (i:Int),i+1=d→i<l.length→d<k→∃ r,jacquardref01_Word.l0 k l x i=some r
 | d,0,_,_,_,_,hk=>absurd hk (by omega)
 | d,k+1,x,i,hi,h1,hk=>by
  rw [jacquardref01_Word.l0]
  by_cases hc:i≥0
  ·obtain ⟨d,rfl⟩:∃ q,d=q+1:=⟨d - 1,by omega⟩
   rw [if_pos hc,if_pos hc,if_pos h1,w64' (x:=i - 1) (by omega) (by omega)]
   exact word_total hl d k _ (i - 1) (by omega) (by omega) (by omega)
  ·rw [if_neg hc]
   exact ⟨_,rfl⟩
theorem fit_total {wd x:Int} (hw:Wide wd):∃ r,jacquardref01_Fit.f 70 wd x=some r:=by
 obtain ⟨l,e,hl⟩:=bits_total hw wd.toNat 70 x [] 0 (by omega) (by have:=hw.1;omega) rfl (by have:=hw.2;have:=hw.1;omega)
 have h64:l.length≤64:=by have:=hw.2;omega
 have hw1:=hw.1
 obtain ⟨r,e2⟩:=word_total h64 l.length 70 0 ((l.length:Int) - 1) (by omega) (by omega) (by omega)
 unfold jacquardref01_Fit.f jacquardref01_Bits.f jacquardref01_Word.f
 rw [e]
 simp only [Option.bind_some]
 rw [w64' (by omega) (by omega),e2]
 exact ⟨r,rfl⟩
theorem or7 (a:Int):0≤Go.bits .or .u8 a 7∧Go.bits .or .u8 a 7≤255:=by
 have w:∀ e:Int,0≤IntKind.u8.wrap e∧IntKind.u8.wrap e≤255:=fun e=>by
  simp [IntKind.wrap,IntKind.signed,IntKind.bits]
  omega
 unfold Go.bits
 split <;> exact w _
structure StepIn (s:S87):Prop where
 h0:0≤s.f0∧s.f0≤255
 h1:0≤s.f1∧s.f1≤255
 h2:0≤s.f2∧s.f2≤255
 h3:0≤s.f3∧s.f3≤255
 h4:0≤s.f4∧s.f4≤255
section
variable {F:FN} {b:Int} {vals:List Int} {n s:Nat} {x:S87}
theorem mkBin_ok {op wd rw:Int} (h:Inv F b vals n s) (hs:s+5≤1000000) (hx:StepIn x) (hw:Wide wd) (hr:Wide rw) (ho:2≤op∧op≤20):Made2 F b vals n (s+5) (mkBin F b vals x op wd rw):=by
 unfold mkBin
 refine (mkValue_ok h (by omega) hw hx.h1).bind2 (fun F1 v1 d1 i1 g1 q1=>?_)
 refine (mkValue_ok i1 (by omega) hw hx.h2).bind2 (fun F2 v2 d2 i2 g2 q2=>?_)
 refine ((mkAdd_ok i2 (by omega) hr (inst_ok (by omega) (fun v hv=>?_) (by intros;rfl) (by omega) (by omega) (by omega))).mono (by omega) (fun _ _ _ q=>q)).two
 simp at hv
 rcases hv with rfl | rfl
 ·exact g2.vals _ q1
 ·exact q2
theorem mkSel_ok {op wd:Int} (h:Inv F b vals n s) (hs:s+7≤1000000) (hx:StepIn x) (hw:Wide wd) (ho:op=21):Made2 F b vals n (s+7) (mkSel F b vals x op wd):=by
 unfold mkSel
 refine (mkValue_ok h (by omega) wide_one hx.h3).bind2 (fun F0 v0 d0 i0 g0 q0=>?_)
 refine (mkValue_ok i0 (by omega) hw hx.h1).bind2 (fun F1 v1 d1 i1 g1 q1=>?_)
 refine (mkValue_ok i1 (by omega) hw hx.h2).bind2 (fun F2 v2 d2 i2 g2 q2=>?_)
 refine ((mkAdd_ok i2 (by omega) hw (inst_ok (by omega) (fun v hv=>?_) (by omega) (by omega) (by omega) (by omega))).mono (by omega) (fun _ _ _ q=>q)).two
 simp at hv
 rcases hv with rfl | rfl | rfl
 ·exact g2.vals _ (g1.vals _ q0)
 ·exact g2.vals _ q1
 ·exact q2
theorem mkConst_ok {op wd:Int} (h:Inv F b vals n s) (hs:s+7≤1000000) (hw:Wide wd) (ho:op=1):Made2 F b vals n (s+7) (mkConst 70 F b vals x op wd):=by
 obtain ⟨r,e⟩:=fit_total (x:=x.f5) hw
 unfold mkConst
 rw [e]
 simp only [Option.bind_some]
 exact ((mkAdd_ok h (by omega) hw (inst_ok (by omega) (by simp) (by omega) (by omega) (by omega) (by omega))).mono (by omega) (fun _ _ _ q=>q)).two
theorem mkLoad_ok {op kk:Int} (h:Inv F b vals n s) (hs:s+7≤1000000) (hx:StepIn x) (ho:op=25) (hk:0≤kk∧kk<(F.ar.length:Int)):Made2 F b vals n (s+7) (mkLoad F b vals x op kk):=by
 unfold mkLoad
 rw [if_pos hk]
 refine (mkAny_ok h (by omega) hx.h1).bind2 (fun F1 v1 d1 i1 g1 q1=>?_)
 refine (mkValue_ok i1 (by omega) wide_one hx.h3).bind2 (fun F2 v2 d2 i2 g2 q2=>?_)
 have ea:=(g1.trans g2).same.2.1
 have hw:Wide (rd_T78 F.ar kk).f1:=by
  unfold rd_T78
  rw [List.getD_eq_getElem?_getD,List.getElem?_eq_getElem (show kk.toNat<F.ar.length by omega)]
  exact h.A.2 _ (List.getElem_mem _)
 refine ((mkAdd_ok i2 (by omega) hw (inst_ok (by omega) (fun v hv=>?_) (by omega) (by omega) (fun _=>by rw [ea];exact hk) (by omega))).mono (by omega) (fun _ _ _ q=>q)).two
 simp at hv
 rcases hv with rfl | rfl
 ·exact g2.vals _ q1
 ·exact q2
theorem Made2.of_push {y:S72} {s':Nat} (h:Inv F b vals n s) (hs:s<1000000) (hs':s+1≤s') (hd:y.f1 = -1) (hx:InstOk F.ar.length F.st.length vals y):Made2 F b vals n s' (mkPush F b vals y):=by
 obtain ⟨F',v,e,i,g⟩:=mkPush_ok h hs hd hx
 exact ⟨F',v,e,i.more hs',g⟩
theorem mkStore_ok {op kk:Int} (h:Inv F b vals n s) (hs:s+7≤1000000) (hx:StepIn x) (ho:op=26) (hk:0≤kk∧kk<(F.ar.length:Int)):Made2 F b vals n (s+7) (mkStore F b vals x op kk):=by
 unfold mkStore
 rw [if_pos hk]
 have hw:Wide (rd_T78 F.ar kk).f1:=by
  unfold rd_T78
  rw [List.getD_eq_getElem?_getD,List.getElem?_eq_getElem (show kk.toNat<F.ar.length by omega)]
  exact h.A.2 _ (List.getElem_mem _)
 refine (mkAny_ok h (by omega) hx.h1).bind2 (fun F1 v1 d1 i1 g1 q1=>?_)
 refine (mkValue_ok i1 (by omega) hw hx.h4).bind2 (fun F2 v2 d2 i2 g2 q2=>?_)
 refine (mkValue_ok i2 (by omega) wide_one hx.h3).bind2 (fun F3 v3 d3 i3 g3 q3=>?_)
 have ea:=((g1.trans g2).trans g3).same.2.1
 refine Made2.of_push i3 (by omega) (by omega) rfl ⟨by dsimp only;omega,fun v hv=>?_,by dsimp only;omega,.inl ⟨rfl,.inl ho⟩,fun _=>by dsimp only;rw [ea];exact hk,by dsimp only;omega,by simp⟩
 simp at hv
 rcases hv with rfl | rfl | rfl
 ·exact g3.vals _ (g2.vals _ q1)
 ·exact g3.vals _ q2
 ·exact q3
theorem str_wide (h:Inv F b vals n s) {kk:Int} (hk:0≤kk∧kk<(F.st.length:Int)):Wide (rd_T80 F.st kk).f1:=by
 unfold rd_T80
 rw [List.getD_eq_getElem?_getD,List.getElem?_eq_getElem (show kk.toNat<F.st.length by omega)]
 exact h.S.2 _ (List.getElem_mem _)
theorem mkRecv_ok {op kk:Int} (h:Inv F b vals n s) (hs:s+7≤1000000) (hx:StepIn x) (ho:op=27) (hk:0≤kk∧kk<(F.st.length:Int)):Made2 F b vals n (s+7) (mkRecv F b vals x op kk):=by
 unfold mkRecv
 rw [if_pos hk]
 refine (mkValue_ok h (by omega) wide_one hx.h3).bind2 (fun F2 v2 d2 i2 g2 q2=>?_)
 have ea:=g2.same.2.2.1
 refine ((mkAdd_ok i2 (by omega) (str_wide h hk) (inst_ok (by omega) (fun v hv=>?_) (by omega) (by omega) (by omega) (fun _=>by rw [ea];exact hk))).mono (by omega) (fun _ _ _ q=>q)).two
 simp at hv
 subst hv
 exact q2
theorem mkSend_ok {op kk:Int} (h:Inv F b vals n s) (hs:s+7≤1000000) (hx:StepIn x) (ho:op=28) (hk:0≤kk∧kk<(F.st.length:Int)):Made2 F b vals n (s+7) (mkSend F b vals x op kk):=by
 unfold mkSend
 rw [if_pos hk]
 refine (mkValue_ok h (by omega) (str_wide h hk) hx.h1).bind2 (fun F2 v2 d2 i2 g2 q2=>?_)
 refine (mkValue_ok i2 (by omega) wide_one hx.h3).bind2 (fun F3 v3 d3 i3 g3 q3=>?_)
 have ea:=(g2.trans g3).same.2.2.1
 refine Made2.of_push i3 (by omega) (by omega) rfl ⟨by dsimp only;omega,fun v hv=>?_,by dsimp only;omega,.inl ⟨rfl,.inr ho⟩,by dsimp only;omega,fun _=>by dsimp only;rw [ea];exact hk,by simp⟩
 simp at hv
 rcases hv with rfl | rfl
 ·exact g3.vals _ q2
 ·exact q3
theorem mkStep_ok (h:Inv F b vals n s) (hs:s+7≤1000000) (hx:StepIn x):Made2 F b vals n (s+7) (mkStep 70 F b vals x):=by
 obtain ⟨wd,ew,hw⟩:=wide_ok x.f4 hx.h4.1
 have h0:=hx.h0
 have h2:=hx.h2
 have t:0≤Int.tmod x.f0 28∧Int.tmod x.f0 28<28:=⟨Int.tmod_nonneg _ hx.h0.1,Int.tmod_lt_of_pos _ (by decide)⟩
 have nowh:Made2 F b vals n (s+7) (some (F,vals)):=(Made2.now h).mono (by omega)
 unfold mkStep
 rw [ew]
 simp only [Option.bind_some]
 rw [w64' (x:=x.f0) (by omega) (by omega),w64' (by omega) (by omega)]
 generalize ho:1+Int.tmod x.f0 28=op
 unfold mkStepOp
 split
 ·rename_i h1;exact mkConst_ok h hs hw h1
 split
 ·exact (mkBin_ok h (by omega) hx hw wide_one (by omega)).mono (by omega)
 split
 ·exact (mkBin_ok h (by omega) hx hw hw (by omega)).mono (by omega)
 split
 ·rename_i h1;exact mkSel_ok h hs hx hw h1
 split
 ·exact ((mkValue_ok h (by omega) hw (or7 _)).mono (by omega) (fun _ _ _ q=>q)).two
 split
 ·rename_i h1
  split
  ·exact nowh
  ·rw [w64' (x:=x.f2) (by omega) (by omega)]
   exact mkLoad_ok h hs hx h1 (tm _ _ h2.1 (by omega))
 split
 ·rename_i h1
  split
  ·exact nowh
  ·rw [w64' (x:=x.f2) (by omega) (by omega)]
   exact mkStore_ok h hs hx h1 (tm _ _ h2.1 (by omega))
 split
 ·rename_i h1
  obtain ⟨r,e,hr⟩:=mkStream_ok (st:=F.st) (out:=false) h.S.1 h2
  rw [e]
  simp only [Option.bind_some]
  split
  ·rename_i h3;exact mkRecv_ok h hs hx h1 ⟨h3,hr h3⟩
  ·exact nowh
 split
 ·rename_i h1
  obtain ⟨r,e,hr⟩:=mkStream_ok (st:=F.st) (out:=true) h.S.1 h2
  rw [e]
  simp only [Option.bind_some]
  split
  ·rename_i h3;exact mkSend_ok h hs hx h1 ⟨h3,hr h3⟩
  ·exact nowh
 ·omega
end
def TermOk (n:Nat) (bl:List S53) (V:List Int) (t:S51):Prop:=
 (∀ e∈t.f2,EdgeOk n bl V e)∧((t.f0=1∧t.f1 = -1∧t.f2.length=1∧t.f3 = [])∨(t.f0=2∧t.f1∈V∧t.f2.length=2∧t.f3 = [])∨(t.f0=3∧t.f1 = -1∧t.f2 = []∧∀ v∈t.f3,v∈V))
theorem EdgeOk.mono {n:Nat} {bl bl':List S53} {V V':List Int} {e:S111} (h:EdgeOk n bl V e) (hp:∀ i:Int,0≤i→(rd_T53 bl' i).f0=(rd_T53 bl i).f0) (hv:∀ v∈V,v∈V'):EdgeOk n bl' V' e:=
 ⟨h.1,by rw [hp _ h.1.1];exact h.2.1,fun v h'=>hv v (h.2.2 v h')⟩
theorem TermOk.mono {n:Nat} {bl bl':List S53} {V V':List Int} {t:S51} (h:TermOk n bl V t) (hp:∀ i:Int,0≤i→(rd_T53 bl' i).f0=(rd_T53 bl i).f0) (hv:∀ v∈V,v∈V'):TermOk n bl' V' t:=by
 refine ⟨fun e he=>(h.1 e he).mono hp hv,?_⟩
 rcases h.2 with h | h | h
 ·exact .inl h
 ·exact .inr (.inl ⟨h.1,hv _ h.2.1,h.2.2⟩)
 ·exact .inr (.inr ⟨h.1,h.2.1,h.2.2.1,fun v hv'=>hv v (h.2.2.2 v hv')⟩)
theorem Grow.par {F F':FN} {b:Int} {v v':List Int} (g:Grow F b v F' v'):∀ i:Int,0≤i→(rd_T53 F'.bl i).f0=(rd_T53 F.bl i).f0:=fun i hi=>by
 by_cases e:i=b
 ·subst e;exact g.pars
 ·rw [g.other i hi e]
structure Ended (F:FN) (b:Int) (vals:List Int) (n s:Nat) (F':FN) (vals':List Int):Prop where
 inv:Inv F' b vals' n s
 same:SameF F F'
 ws:F.ws <+: F'.ws
 other:∀ i:Int,0≤i→i≠b→rd_T53 F'.bl i=rd_T53 F.bl i
 pars:(rd_T53 F'.bl b).f0=(rd_T53 F.bl b).f0
 term:TermOk n F'.bl vals' (rd_T53 F'.bl b).f2
theorem Ended.par {F F':FN} {b:Int} {v v':List Int} {n s:Nat} (g:Ended F b v n s F' v'):∀ i:Int,0≤i→(rd_T53 F'.bl i).f0=(rd_T53 F.bl i).f0:=fun i hi=>by
 by_cases e:i=b
 ·subst e;exact g.pars
 ·rw [g.other i hi e]
def MadeE (F:FN) (b:Int) (vals:List Int) (n s:Nat) (o:Option (FN × List Int)):Prop:=∃ F' vals',o=some (F',vals')∧Ended F b vals n s F' vals'
section
variable {F:FN} {b:Int} {vals:List Int} {n s s':Nat}
theorem Made.bindE {α : Type} {o:Option (FN × List Int × α)} {Q:FN→List Int → α → Prop} {g:FN × List Int × α → Option (FN × List Int)}
  (h:Made F b vals n s o Q) (k:∀ F' v d,Inv F' b v n s→Grow F b vals F' v→Q F' v d→MadeE F' b v n s' (g (F',v,d))):MadeE F b vals n s' (o.bind g):=by
 obtain ⟨F',v,d,rfl,i,gr,q⟩:=h
 obtain ⟨F2,v2,e2,E⟩:=k F' v d i gr q
 exact ⟨F2,v2,e2,⟨E.inv,gr.same.trans E.same,gr.ws.trans E.ws,fun i hi hb=>(E.other i hi hb).trans (gr.other i hi hb),E.pars.trans gr.pars,E.term⟩⟩
theorem set_inv {x:S53} (h:Inv F b vals n s) (h0:x.f0=(rd_T53 F.bl b).f0) (h1:x.f1=(rd_T53 F.bl b).f1) :
  Inv { F with bl:=F.bl.set b.toNat x } b vals n s∧SameF F { F with bl:=F.bl.set b.toNat x }∧(∀ i:Int,0≤i→i≠b→rd_T53 (F.bl.set b.toNat x) i=rd_T53 F.bl i)∧rd_T53 (F.bl.set b.toNat x) b=x:=by
 have hb:=h.hb
 have e0:=blk_set_same F.bl b x (by rw [h.hn];exact hb)
 have eo:=fun i hi hib=>blk_set_other F.bl b i x hi hb.1 hib
 refine ⟨⟨by simp [h.hn],hb,h.hs,h.hl,by dsimp only;rw [e0,h1];exact h.hi,by dsimp only;rw [e0,h0,h1];exact h.hv,?_,h.W,h.A,h.S,h.R⟩,⟨rfl,rfl,rfl,rfl,by simp⟩,eo,e0⟩
 intro i hi hn
 dsimp only
 by_cases e:i=b
 ·subst e
  rw [e0]
  have B:=h.B i hi hn
  exact ⟨by rw [h0,h1];exact B.up,by rw [h0,h1];exact B.lt,by rw [h0];exact B.five,by rw [h0,h1];exact B.ok⟩
 ·rw [eo i hi e]
  exact h.B i hi hn
theorem mkTerm_ok {t:S51} (h:Inv F b vals n s) (ht:TermOk n F.bl vals t):MadeE F b vals n s (mkTerm F b vals t):=by
 have hb:=h.hb
 obtain ⟨iv,sm,ot,e0⟩:=set_inv (x:={ rd_T53 F.bl b with f2:=t }) h rfl rfl
 refine ⟨_,_,if_pos (by rw [h.hn];exact hb),⟨iv,sm,List.prefix_refl _,ot,by dsimp only;rw [e0],?_⟩⟩
 dsimp only
 rw [e0]
 refine ht.mono (fun i hi=>?_) (fun _ h=>h)
 by_cases e:i=b
 ·subst e;rw [e0]
 ·rw [ot i hi e]
theorem endTo_in {p:Int} (hp:0≤p∧p≤255) (hn:2≤n) (hn5:n≤5):1≤endTo (n:Int) p∧endTo (n:Int) p<(n:Int):=by
 unfold endTo
 rw [w64' (x:=(n:Int) - 1) (by omega) (by omega),if_neg (by omega),w64' (x:=p) (by omega) (by omega)]
 have t:0≤Int.tmod p ((n:Int) - 1)∧Int.tmod p ((n:Int) - 1)<(n:Int) - 1:=⟨Int.tmod_nonneg _ hp.1,Int.tmod_lt_of_pos _ (by omega)⟩
 rw [w64' (by omega) (by omega)]
 omega
theorem mkEndJ_ok {pt:Int} (h:Inv F b vals n s) (hs:s+30≤1000000) (hp:0≤pt∧pt≤255) (hn:2≤n) (hn5:n≤5):MadeE F b vals n (s+30) (mkEndJ F b vals pt):=by
 have e:=endTo_in hp hn hn5
 unfold mkEndJ
 rw [h.hn]
 refine (mkEdge_ok h (by omega) ⟨by omega,e.2⟩).bindE (fun F' v d i g q=>mkTerm_ok (i.more (by omega)) ⟨fun x hx=>?_,.inl ⟨rfl,rfl,rfl,rfl⟩⟩)
 simp at hx
 subst hx
 exact q.mono g.par (fun _ h=>h)
theorem mkEndB_ok {pc pt pf:Int} (h:Inv F b vals n s) (hs:s+30≤1000000) (hc:0≤pc∧pc≤255) (hp:0≤pt∧pt≤255) (hf:0≤pf∧pf≤255) (hn:2≤n) (hn5:n≤5):MadeE F b vals n (s+30) (mkEndB F b vals pc pt pf):=by
 have e1:=endTo_in hp hn hn5
 have e2:=endTo_in hf hn hn5
 unfold mkEndB
 rw [h.hn]
 refine (mkValue_ok h (by omega) wide_one hc).bindE (fun F0 v0 d0 i0 g0 q0=>?_)
 refine (mkEdge_ok i0 (by omega) ⟨by omega,e1.2⟩).bindE (fun F1 v1 d1 i1 g1 q1=>?_)
 refine (mkEdge_ok i1 (by omega) ⟨by omega,e2.2⟩).bindE (fun F2 v2 d2 i2 g2 q2=>mkTerm_ok (i2.more (by omega)) ⟨fun x hx=>?_,.inr (.inl ⟨rfl,g2.vals _ (g1.vals _ q0),rfl,rfl⟩)⟩)
 simp at hx
 rcases hx with rfl | rfl
 ·exact q1.mono (fun i hi=>(g2.par i hi).trans (g1.par i hi)) g2.vals
 ·exact q2.mono g2.par (fun _ h=>h)
theorem mkRetsL_ok {b k:Int} {p:List Int} {n:Nat} (hp:∀ w∈p,Wide w):∀ (d:Nat) {i:Int} {F:FN} {vals acc:List Int} {s:Nat},Inv F b vals n s→s+2*d≤1000000→0≤i→i+d=p.length→(∀ v∈acc,v∈vals) →
  Made F b vals n (s+2*d) (mkRetsL b p k d i F vals acc) (fun _ v r=>∀ x∈r,x∈v)
 | 0,i,F,vals,acc,s,h,hs,h0,hi,ha=>Made.now h ha
 | d+1,i,F,vals,acc,s,h,hs,h0,hi,ha=>by
  rw [mkRetsL]
  refine (mkValue_ok h (by omega) (Wide.at hp h0 (by omega)) (mod256 _)).bind (fun F' v x iv g q=>?_)
  refine (mkRetsL_ok hp d iv (by omega) (by omega) (by omega) (fun y hy=>?_)).mono (by omega) (fun _ _ _ q=>q)
  rcases List.mem_append.mp hy with hy | hy
  ·exact g.vals y (ha y hy)
  ·simp at hy;subst hy;exact q
theorem mkEndR_ok {pt:Int} (h:Inv F b vals n s) (hs:s+30≤1000000):MadeE F b vals n (s+30) (mkEndR F b vals pt):=by
 have r3:=h.R.1
 unfold mkEndR
 rw [if_pos (by omega)]
 exact (mkRetsL_ok (k:=pt) h.R.2 F.rt.length (i:=0) (acc:=[]) h (by omega) (by omega) (by omega) (by simp)).bindE (fun F' v d i g q=>mkTerm_ok (i.more (by omega)) ⟨fun x hx=>absurd hx (by simp),.inr (.inr ⟨rfl,rfl,rfl,q⟩)⟩)
theorem mkEndL_ok {pk pc pt pf:Int} (h:Inv F b vals n s) (hs:s+30≤1000000) (hk:0≤pk∧pk≤255) (hc:0≤pc∧pc≤255) (hp:0≤pt∧pt≤255) (hf:0≤pf∧pf≤255) (hn:2<n) (hn5:n≤5) (hb:0<b):MadeE F b vals n (s+30) (mkEndL F b vals pk pc pt pf):=by
 have e2:=endTo_in hf (show 2≤n by omega) hn5
 have hbn:=h.hb
 have e3:0≤(if endTo (n:Int) pf=b then wrap64 (1+Int.tmod (endTo (n:Int) pf) (wrap64 ((n:Int) - 1))) else endTo (n:Int) pf)∧(if endTo (n:Int) pf=b then wrap64 (1+Int.tmod (endTo (n:Int) pf) (wrap64 ((n:Int) - 1))) else endTo (n:Int) pf)<(n:Int):=by
  split
  ·rw [w64' (x:=(n:Int) - 1) (by omega) (by omega)]
   have t:0≤Int.tmod (endTo (n:Int) pf) ((n:Int) - 1)∧Int.tmod (endTo (n:Int) pf) ((n:Int) - 1)<(n:Int) - 1:=⟨Int.tmod_nonneg _ (by omega),Int.tmod_lt_of_pos _ (by omega)⟩
   rw [w64' (by omega) (by omega)]
   omega
  ·omega
 unfold mkEndL
 rw [h.hn]
 refine (mkValue_ok h (by omega) wide_one hc).bindE (fun F0 v0 d0 i0 g0 q0=>?_)
 refine (mkEdge_ok i0 (by omega) ⟨by omega,hbn.2⟩).bindE (fun F1 v1 d1 i1 g1 q1=>?_)
 refine (mkEdge_ok i1 (by omega) e3).bindE (fun F2 v2 d2 i2 g2 q2=>?_)
 dsimp only
 rw [if_pos (by rw [i2.hn];exact hbn)]
 obtain ⟨iv,sm,ot,e0⟩:=set_inv (x:={ rd_T53 F2.bl b with f3:=wrap64 (1+wrap64 (Int.tmod pk 4)) }) i2 rfl rfl
 have pr:∀ i:Int,0≤i→(rd_T53 (F2.bl.set b.toNat { rd_T53 F2.bl b with f3:=wrap64 (1+wrap64 (Int.tmod pk 4)) }) i).f0=(rd_T53 F2.bl i).f0:=fun i hi=>by
  by_cases e:i=b
  ·subst e;rw [e0]
  ·rw [ot i hi e]
 have k1:EdgeOk n (F2.bl.set b.toNat { rd_T53 F2.bl b with f3:=wrap64 (1+wrap64 (Int.tmod pk 4)) }) v2 d1:=q1.mono (fun i hi=>(pr i hi).trans ((g2.par i hi).trans (g1.par i hi))) g2.vals
 have k2:EdgeOk n (F2.bl.set b.toNat { rd_T53 F2.bl b with f3:=wrap64 (1+wrap64 (Int.tmod pk 4)) }) v2 d2:=q2.mono (fun i hi=>(pr i hi).trans (g2.par i hi)) (fun _ h=>h)
 obtain ⟨F3,v3,e,E⟩:=mkTerm_ok (t:=⟨2,d0,if Int.tmod pc 2=1 then [d2,d1] else [d1,d2],[]⟩) (iv.more (s':=s+30) (by omega)) ⟨fun x hx=>by
   dsimp only at hx
   split at hx <;> simp at hx <;> rcases hx with rfl | rfl
   ·exact k2
   ·exact k1
   ·exact k1
   ·exact k2,.inr (.inl ⟨rfl,g2.vals _ (g1.vals _ q0),by dsimp only;split <;> rfl,rfl⟩)⟩
 refine ⟨F3,v3,e,⟨E.inv,sm.trans E.same,E.ws,fun i hi hb=>(E.other i hi hb).trans (ot i hi hb),E.pars.trans (by dsimp only;rw [e0]),E.term⟩⟩
theorem mkEnd_ok {pk pc pt pf:Int} {pl:Bool} (h:Inv F b vals n s) (hs:s+30≤1000000) (hk:0≤pk∧pk≤255) (hc:0≤pc∧pc≤255) (hp:0≤pt∧pt≤255) (hf:0≤pf∧pf≤255) (hn1:1≤n) (hn5:n≤5):MadeE F b vals n (s+30) (mkEnd F b vals pk pc pt pf pl):=by
 unfold mkEnd
 rw [h.hn]
 split
 ·rename_i hl
  unfold endLoop at hl
  simp only [Bool.and_eq_true,decide_eq_true_eq] at hl
  exact mkEndL_ok h hs hk hc hp hf (by omega) hn5 (by omega)
 split
 ·exact mkEndR_ok h hs
 rename_i hk0
 have hn2:2≤n:=by
  by_cases e:n=1
  ·exact absurd (show endKind (n:Int) b pk pl=0 by subst e;rfl) hk0
  ·omega
 split
 ·exact mkEndJ_ok h hs hp hn2 hn5
 ·exact mkEndB_ok h hs hc hp hf hn2 hn5
end
theorem step_mem {l:List S87} {i:Int} (h0:0≤i) (h1:i<(l.length:Int)):rd_T87 l i∈l:=by
 unfold rd_T87
 rw [List.getD_eq_getElem?_getD,List.getElem?_eq_getElem (show i.toNat<l.length by omega)]
 exact List.getElem_mem _
theorem mkSteps_ok {b:Int} {n:Nat} {l:List S87} (hl:∀ x∈l,StepIn x):∀ (d:Nat) {i:Int} {F:FN} {vals:List Int} {s:Nat},Inv F b vals n s→s+7*d≤1000000→0≤i→i+d=l.length→Made2 F b vals n (s+7*d) (mkSteps 70 b l d i F vals)
 | 0,_,_,_,_,h,_,_,_=>Made2.now h
 | d+1,i,F,vals,s,h,hs,h0,hi=>by
  rw [mkSteps]
  exact (mkStep_ok h (by omega) (hl _ (step_mem h0 (by omega)))).bind (fun F' v iv g=>(mkSteps_ok hl d iv (by omega) (by omega) (by omega)).mono (by omega))
def valsOf (x:S53):List Int:=x.f0++dests x.f1
structure Base (F:FN) (b:Int) (n s:Nat):Prop where
 hn:F.bl.length=n
 n1:1≤n∧n≤5
 hs:F.ws.length≤s
 L:∀ i:Int,0≤i→i<(n:Int)→(rd_T53 F.bl i).f1.length≤s
 E:∀ i:Int,b≤i→i<(n:Int)→(rd_T53 F.bl i).f1 = []
 T:∀ i:Int,0≤i→i<b→TermOk n F.bl (valsOf (rd_T53 F.bl i)) (rd_T53 F.bl i).f2
 B:∀ i:Int,0≤i→i<(n:Int)→BlkOk F.ws.length F.ar.length F.st.length (rd_T53 F.bl i)
 W:∀ w∈F.ws,Wide w
 A:F.ar.length≤3∧∀ x∈F.ar,Wide x.f1
 S:F.st.length≤4∧∀ x∈F.st,Wide x.f1
 R:F.rt.length≤3∧∀ w∈F.rt,Wide w
structure PartIn (p:S75):Prop where
 par:p.f0.length≤5∧∀ v∈p.f0,0≤v∧v≤255
 stp:p.f1.length≤14∧∀ x∈p.f1,StepIn x
 h2:0≤p.f2∧p.f2≤255
 h3:0≤p.f3∧p.f3≤255
 h4:0≤p.f4∧p.f4≤255
 h5:0≤p.f5∧p.f5≤255
theorem partIn_zero:PartIn z75:=⟨⟨by decide,fun v hv=>absurd hv (List.not_mem_nil)⟩,⟨by decide,fun v hv=>absurd hv (List.not_mem_nil)⟩,by decide,by decide,by decide,by decide⟩
theorem part_mem {l:List S75} {i:Int} (h0:0≤i) (h1:i<(l.length:Int)):rd_T75 l i∈l:=by
 unfold rd_T75
 rw [List.getD_eq_getElem?_getD,List.getElem?_eq_getElem (show i.toNat<l.length by omega)]
 exact List.getElem_mem _
theorem partAt_in {l:List S75} (hl:∀ p∈l,PartIn p) {b:Int} (hb:0≤b):PartIn (partAt l b):=by
 unfold partAt
 split
 ·rename_i h;exact hl _ (part_mem hb h)
 ·exact partIn_zero
theorem mkBodies_ok {parts:List S75} (hl:∀ p∈parts,PartIn p) {n:Nat}:∀ (d:Nat) {b:Int} {F:FN} {s:Nat},Base F b n s→5≤s→s+130*d≤1000000→0≤b→b+d=n→∃ F',mkBodies 70 parts d b F=some F'∧Base F' (n:Int) n (s+130*d)∧SameF F F'
 | 0,b,F,s,h,_,_,_,hb=>⟨F,rfl,(by have e:b=(n:Int):=(by omega);subst e;exact h),SameF.refl _⟩
 | d+1,b,F,s,h,h5,hs,h0,hb=>by
  have P:=partAt_in hl (b:=b) h0
  have B:=h.B b h0 (by omega)
  have f5:=B.five
  have n1:=h.n1
  have i0:Inv F b (rd_T53 F.bl b).f0 n s:=⟨h.hn,⟨h0,by omega⟩,h.hs,by omega,h.L b h0 (by omega),by rw [h.E b (Int.le_refl _) (by omega)];simp [dests],h.B,h.W,h.A,h.S,h.R⟩
  obtain ⟨F1,v1,e1,i1,g1⟩:=mkSteps_ok (b:=b) P.stp.2 (partAt parts b).f1.length i0 (by have:=P.stp.1;omega) (Int.le_refl _) (by omega)
  obtain ⟨F2,v2,e2,E⟩:=mkEnd_ok (pl:=(partAt parts b).f6) (i1.more (s':=s+98) (by have:=P.stp.1;omega)) (by omega) P.h2 P.h3 P.h4 P.h5 n1.1 n1.2
  have i2:=E.inv
  have hother:∀ i:Int,0≤i→i≠b→rd_T53 F2.bl i=rd_T53 F.bl i:=fun i hi hib=>(E.other i hi hib).trans (g1.other i hi hib)
  have hpar:∀ i:Int,0≤i→(rd_T53 F2.bl i).f0=(rd_T53 F.bl i).f0:=fun i hi=>(E.par i hi).trans (g1.par i hi)
  have bs:Base F2 (b+1) n (s+130):=by
   refine ⟨i2.hn,n1,by have:=i2.hs;omega,fun i hi hin=>?_,fun i hi hin=>?_,fun i hi hib=>?_,i2.B,i2.W,i2.A,i2.S,i2.R⟩
   ·by_cases e:i=b
    ·subst e;have:=i2.hi;omega
    ·rw [hother i hi e];have:=h.L i hi hin;omega
   ·rw [hother i (by omega) (by omega)];exact h.E i (by omega) hin
   ·by_cases e:i=b
    ·subst e
     have t:=E.term
     rw [i2.hv] at t
     exact t
    ·rw [hother i hi e]
     exact (h.T i hi (by omega)).mono hpar (fun _ h=>h)
  obtain ⟨F3,e3,b3,s3⟩:=mkBodies_ok hl d bs (by omega) (by omega) (by omega) (by omega)
  refine ⟨F3,?_,by rw [show s+130*(d+1)=s+130+130*d by omega];exact b3,(g1.same.trans E.same).trans s3⟩
  rw [mkBodies,if_pos ⟨by omega,by have:=P.stp.1;omega⟩,e1]
  simp only [Option.bind_some]
  rw [e2]
  exact e3
structure TwoIn (x:S66):Prop where
 h0:0≤x.f0∧x.f0≤255
 h1:0≤x.f1∧x.f1≤255
theorem two_mem {l:List S66} {i:Int} (h0:0≤i) (h1:i<(l.length:Int)):rd_T66 l i∈l:=by
 unfold rd_T66
 rw [List.getD_eq_getElem?_getD,List.getElem?_eq_getElem (show i.toNat<l.length by omega)]
 exact List.getElem_mem _
theorem mkArrs_ok {l:List S66} (hl:∀ x∈l,TwoIn x):∀ (d:Nat) {i:Int} {acc:List S78},0≤i→i+d=l.length→(acc.length:Int)=i→(∀ x∈acc,Wide x.f1)→∃ r,mkArrs l d i acc=some r∧r.length=l.length∧∀ x∈r,Wide x.f1
 | 0,i,acc,h0,hi,ha,hw=>⟨acc,rfl,by omega,hw⟩
 | d+1,i,acc,h0,hi,ha,hw=>by
  obtain ⟨wd,e,w⟩:=wide_ok _ (hl _ (two_mem (i:=i) h0 (by omega))).h0.1
  rw [mkArrs,e]
  refine mkArrs_ok hl d (by omega) (by omega) (by simp;omega) (fun x hx=>?_)
  rcases List.mem_append.mp hx with hx | hx
  ·exact hw x hx
  ·simp at hx;subst hx;exact w
theorem mkStrs_ok {l:List S66} (hl:∀ x∈l,TwoIn x):∀ (d:Nat) {i:Int} {acc:List S80},0≤i→i+d=l.length→(acc.length:Int)=i→(∀ x∈acc,Wide x.f1)→∃ r,mkStrs l d i acc=some r∧r.length=l.length∧∀ x∈r,Wide x.f1
 | 0,i,acc,h0,hi,ha,hw=>⟨acc,rfl,by omega,hw⟩
 | d+1,i,acc,h0,hi,ha,hw=>by
  obtain ⟨wd,e,w⟩:=wide_ok _ (hl _ (two_mem (i:=i) h0 (by omega))).h0.1
  rw [mkStrs,e]
  refine mkStrs_ok hl d (by omega) (by omega) (by simp;omega) (fun x hx=>?_)
  rcases List.mem_append.mp hx with hx | hx
  ·exact hw x hx
  ·simp at hx;subst hx;exact w
theorem mkRts_ok {l:List Int} (hl:∀ x∈l,0≤x∧x≤255):∀ (d:Nat) {i:Int} {acc:List Int},0≤i→i+d=l.length→(acc.length:Int)=i→(∀ x∈acc,Wide x)→∃ r,mkRts l d i acc=some r∧r.length=l.length∧∀ x∈r,Wide x
 | 0,i,acc,h0,hi,ha,hw=>⟨acc,rfl,by omega,hw⟩
 | d+1,i,acc,h0,hi,ha,hw=>by
  obtain ⟨wd,e,w⟩:=wide_ok _ (hl _ (rd_mem (i:=i) h0 (by omega))).1
  rw [mkRts,e]
  refine mkRts_ok hl d (by omega) (by omega) (by simp;omega) (fun x hx=>?_)
  rcases List.mem_append.mp hx with hx | hx
  ·exact hw x hx
  ·simp at hx;subst hx;exact w
structure ParOk (ws:Nat) (p:List Int):Prop where
 up:p.Pairwise (· < ·)
 lt:∀ v∈p,0≤v∧v<(ws:Int)
theorem mkPars_ok {l:List Int} (hl:∀ x∈l,0≤x∧x≤255):∀ (d:Nat) {i:Int} {ws ps:List Int},0≤i→i+d=l.length→(ps.length:Int)=i→(∀ x∈ws,Wide x)→ParOk ws.length ps →
  ∃ ws' ps',mkPars l d i ws ps=some (ws',ps')∧ws'.length=ws.length+d∧ps'.length=l.length∧(∀ x∈ws',Wide x)∧ParOk ws'.length ps'
 | 0,i,ws,ps,h0,hi,hp,hw,hk=>⟨ws,ps,rfl,by omega,by omega,hw,hk⟩
 | d+1,i,ws,ps,h0,hi,hp,hw,hk=>by
  obtain ⟨wd,e,w⟩:=wide_ok _ (hl _ (rd_mem (i:=i) h0 (by omega))).1
  obtain ⟨ws',ps',e2,l1,l2,h1,h2⟩:=mkPars_ok hl d (i:=i+1) (ws:=ws++[wd]) (ps:=ps++[(ws.length:Int)]) (by omega) (by omega) (by simp;omega) (fun x hx=>by
    rcases List.mem_append.mp hx with hx | hx
    ·exact hw x hx
    ·simp at hx;subst hx;exact w)
   ⟨by rw [List.pairwise_append];exact ⟨hk.up,by simp,fun a ha b hb=>by simp at hb;subst hb;exact (hk.lt a ha).2⟩,fun v hv=>by
    rw [List.length_append,List.length_singleton]
    rcases List.mem_append.mp hv with hv | hv
    ·have:=hk.lt v hv;omega
    ·simp at hv;omega⟩
  refine ⟨ws',ps',?_,by rw [List.length_append,List.length_singleton] at l1;omega,l2,h1,h2⟩
  rw [mkPars,e]
  exact e2
theorem mkBlks_ok {ins:List Int} {parts:List S75} (hi0:ins.length≤5∧∀ x∈ins,0≤x∧x≤255) (hl:∀ p∈parts,PartIn p) {n:Nat} (hn:(n:Int)=if (parts.length:Int)<1 then 1 else (parts.length:Int)) :
  ∀ (d:Nat) {i:Int} {ws:List Int} {bl:List S53},0≤i→i+d=n→(bl.length:Int)=i→(∀ x∈ws,Wide x)→(ws.length:Int)≤5*i→(∀ x∈bl,x.f1 = []∧x.f0.length≤5∧ParOk ws.length x.f0) →
  ∃ ws' bl',mkBlks ins parts d i ws bl=some (ws',bl')∧bl'.length=n∧(ws'.length:Int)≤5*n∧(∀ x∈ws',Wide x)∧(∀ x∈bl',x.f1 = []∧x.f0.length≤5∧ParOk ws'.length x.f0)
 | 0,i,ws,bl,h0,hi,hb,hw,hlw,hx=>⟨ws,bl,rfl,by omega,by omega,hw,hx⟩
 | d+1,i,ws,bl,h0,hi,hb,hw,hlw,hx=>by
  have hp:(if i>0 then (rd_T75 parts i).f0 else ins).length≤5∧∀ x∈(if i>0 then (rd_T75 parts i).f0 else ins),0≤x∧x≤255:=by
   split
   ·exact (hl _ (part_mem h0 (by split at hn <;> omega))).par
   ·exact hi0
  rw [mkBlks]
  generalize (if i>0 then (rd_T75 parts i).f0 else ins)=L at hp ⊢
  rw [if_pos (by omega)]
  obtain ⟨ws1,ps1,e,l1,l2,w1,p1⟩:=mkPars_ok hp.2 L.length (i:=0) (ws:=ws) (ps:=[]) (by omega) (by omega) rfl hw ⟨by simp,by simp⟩
  rw [e]
  refine mkBlks_ok hi0 hl hn d (by omega) (by omega) (by simp;omega) w1 (by dsimp only;omega) (fun x hx'=>?_)
  rcases List.mem_append.mp hx' with h | h
  ·obtain ⟨a,b,c⟩:=hx x h
   exact ⟨a,b,c.up,fun v hv=>by have:=c.lt v hv;dsimp only;omega⟩
  ·simp at h;subst h;exact ⟨rfl,by dsimp only;omega,p1⟩
theorem blk_mem {l:List S53} {i:Int} (h0:0≤i) (h1:i<(l.length:Int)):rd_T53 l i∈l:=by
 unfold rd_T53
 rw [List.getD_eq_getElem?_getD,List.getElem?_eq_getElem (show i.toNat<l.length by omega)]
 exact List.getElem_mem _
theorem mkFunc_ok {l0 l3:List Int} {l1 l2:List S66} {l4:List S75} (h0:l0.length≤4∧∀ x∈l0,0≤x∧x≤255) (h1:l1.length≤3∧∀ x∈l1,TwoIn x) (h2:l2.length≤4∧∀ x∈l2,TwoIn x) (h3:l3.length≤3∧∀ x∈l3,0≤x∧x≤255) (h4:l4.length≤5∧∀ p∈l4,PartIn p) :
  ∃ (F:FN) (n:Nat),mkFunc 70 l0 l1 l2 l3 l4=some F∧Base F (n:Int) n 1000∧F.nm=⟨#[102]⟩∧F.ar.length=l1.length∧F.st.length=l2.length∧F.rt.length=l3.length∧(n:Int)=(if (l4.length:Int)<1 then 1 else (l4.length:Int)):=by
 obtain ⟨ar,ea,la,wa⟩:=mkArrs_ok h1.2 l1.length (i:=0) (acc:=[]) (by omega) (by omega) rfl (by simp)
 obtain ⟨st,es,ls,wst⟩:=mkStrs_ok h2.2 l2.length (i:=0) (acc:=[]) (by omega) (by omega) rfl (by simp)
 obtain ⟨rt,er,lr,wr⟩:=mkRts_ok h3.2 l3.length (i:=0) (acc:=[]) (by omega) (by omega) rfl (by simp)
 have hn:(((if (l4.length:Int)<1 then 1 else l4.length:Nat):Nat):Int)=(if (l4.length:Int)<1 then 1 else (l4.length:Int)):=by split <;> rfl
 generalize hN:(if (l4.length:Int)<1 then 1 else l4.length:Nat)=n at hn
 have hn5:1≤n∧n≤5:=by split at hn <;> omega
 obtain ⟨ws,bl,eb,lb,lw,ww,wb⟩:=mkBlks_ok (ins:=l0) (parts:=l4) ⟨by omega,h0.2⟩ h4.2 hn n (i:=0) (ws:=[]) (bl:=[]) (by omega) (by omega) rfl (by simp) (by simp) (by simp)
 have ob:∀ i:Int,0≤i→i<(n:Int)→(rd_T53 bl i).f1 = []∧(rd_T53 bl i).f0.length≤5∧ParOk ws.length (rd_T53 bl i).f0:=fun i hi hin=>wb _ (blk_mem hi (by omega))
 have bs:Base ⟨⟨#[102]⟩,ws,ar,st,rt,bl⟩ 0 n 25:=⟨lb,hn5,by dsimp only;omega,fun i hi hin=>by dsimp only;rw [(ob i hi hin).1];simp,fun i hi hin=>(ob i hi hin).1,fun i hi hib=>by omega,fun i hi hin=>by
   obtain ⟨a,b,c⟩:=ob i hi hin
   dsimp only
   refine ⟨by rw [a];simpa [dests] using c.up,by rw [a];simpa [dests] using c.lt,b,by rw [a];exact fun j hj=>absurd hj (by simp)⟩,ww,⟨by dsimp only;omega,wa⟩,⟨by dsimp only;omega,wst⟩,⟨by dsimp only;omega,wr⟩⟩
 obtain ⟨F,eF,bF,sF⟩:=mkBodies_ok h4.2 n bs (by omega) (by omega) (by omega) (by omega)
 refine ⟨F,n,?_,⟨bF.hn,bF.n1,by have:=bF.hs;omega,fun i hi hin=>by have:=bF.L i hi hin;omega,bF.E,bF.T,bF.B,bF.W,bF.A,bF.S,bF.R⟩,sF.1,by rw [sF.2.1];exact la,by rw [sF.2.2.1];exact ls,by rw [sF.2.2.2.1];exact lr,hn⟩
 unfold mkFunc
 rw [if_pos ⟨by omega,h1.1,h2.1,by omega,by omega⟩,ea,es,er]
 simp only [Option.bind_some]
 rw [hN,eb]
 simp only [Option.bind_some]
 rw [lb]
 exact eF
end Go.Proofs.Ytabcdpddhmekkaa.PAll
