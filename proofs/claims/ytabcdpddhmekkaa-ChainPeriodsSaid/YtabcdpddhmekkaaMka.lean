-- Written for this claim by programs of this session (wip/print2 in its repo: a changed printer, a shortener, a packer). Lean checks it.
import Derived.Test.YtabcdpddhmekkaaP0
import Derived.Test.YtabcdpddhmekkaaF24
import Derived.Test.YtabcdpddhmekkaaF56
set_option linter.all false
namespace Go.Proofs.Ytabcdpddhmekkaa.PAll
open Go.RowKit Go.Proofs.YtabcdpddhmekkaaW.PrintWords Go.Proofs.YtabcdpddhmekkaaW.PrintLast Go.Proofs.YtabcdpddhmekkaaW.PrintMore
attribute [local go_sem] max2_int min2_int max_two min_two max_three min_three max_four min_four
set_option linter.unusedVariables false
set_option linter.unusedSimpArgs false
structure FN where
 nm:ByteArray
 ws:List Int
 ar:List S78
 st:List S80
 rt:List Int
 bl:List S53
structure MKv (w0 W:World) (P:Nat→Prop) (gm gf:Nat) (F:FN) (b:Int) (vals:List Int) (vW vA vS vR vB vV:Value):Prop where
 hm:W.heap[gm]? = some (.cells #[.pointer (some ⟨gf,0,none⟩),.int .i64 b,vV] 84 (0,0))
 hf:W.heap[gf]? = some (.cells #[.string F.nm,vW,vA,vS,vR,vB] 34 (0,0))
 pm:P gm
 pf:P gf
 gem:w0.heap.size≤gm
 gef:w0.heap.size≤gf
 rW:Kd.R (Kd.int .i64) 3 W w0.heap.size (fun k=>P k∧some k≠vV.ownBlock) vW F.ws
 rV:Kd.R (Kd.int .i64) 3 W w0.heap.size (fun k=>P k∧some k≠vW.ownBlock) vV vals
 rA:Kd.R k78 78 W w0.heap.size P vA F.ar
 rS:Kd.R k80 80 W w0.heap.size P vS F.st
 rR:Kd.R (Kd.int .i64) 3 W w0.heap.size (fun k=>(P k∧some k≠vW.ownBlock)∧some k≠vV.ownBlock) vR F.rt
 sB:Kd.S k53 53 W w0.heap.size (fun k=>((P k∧some k≠vW.ownBlock)∧some k≠vV.ownBlock)∧some k≠vR.ownBlock) vB F.bl
 hB:Below w0.heap.size w0 W
def Turn (w:World) (P:Nat→Prop) (gm gf:Nat) (vW vV:Value) (k:Nat):Prop:=
 P k∧(k=gm∨k=gf∨some k=vW.ownBlock∨some k=vV.ownBlock∨(∃ cs,w.heap[k]? = some (.cells cs 53 (0,0)))∨∃ cs,w.heap[k]? = some (.cells cs 72 (0,0)))
def SameB (w:World) (v v':Value):Prop:=v'.ownBlock=v.ownBlock∨∃ c,v'.ownBlock=some c∧w.heap.size≤c
theorem SameB.refl (w:World) (v:Value):SameB w v v:=.inl rfl
theorem SameB.trans {w W:World} {v v' v'':Value} (h:SameB w v v') (k:SameB W v' v'') (hs:w.heap.size≤W.heap.size):SameB w v v'':=by
 rcases k with k | ⟨c,k,hc⟩
 ·rcases h with h | ⟨c,h,hc⟩
  ·exact .inl (k.trans h)
  ·exact .inr ⟨c,k.trans h,hc⟩
 ·exact .inr ⟨c,k,Nat.le_trans hs hc⟩
theorem SameB.ne {w:World} {v v':Value} (h:SameB w v v') {k:Nat} (hk:some k≠v.ownBlock) (hl:k<w.heap.size):some k≠v'.ownBlock:=by
 rcases h with h | ⟨c,h,hc⟩
 ·rw [h];exact hk
 ·rw [h];intro e;injection e with e;omega
def After (w0 w:World) (P:Nat→Prop) (gm gf:Nat) (vW vA vS vR vB vV:Value) (F:FN) (b:Int) (vals:List Int) (W:World):Prop:=
 ∃ vW' vV',MKv w0 W (fun k=>P k∨w.heap.size≤k) gm gf F b vals vW' vA vS vR vB vV'∧Kept w W (Turn w P gm gf vW vV)∧SameB w vW vW'∧SameB w vV vV'
section
variable {w0 w W W1:World} {P P':Nat→Prop} {gm gf:Nat} {F F':FN} {b:Int} {vals vals':List Int} {vW vA vS vR vB vV v1:Value}
theorem MKv.mono (h:MKv w0 W P gm gf F b vals vW vA vS vR vB vV) (hp:∀ k,P k→P' k):MKv w0 W P' gm gf F b vals vW vA vS vR vB vV:=
  ⟨h.hm,h.hf,hp _ h.pm,hp _ h.pf,h.gem,h.gef,Kd.R_mono h.rW (fun k hk=>⟨hp k hk.1,hk.2⟩),Kd.R_mono h.rV (fun k hk=>⟨hp k hk.1,hk.2⟩),Kd.R_mono h.rA hp,Kd.R_mono h.rS hp,
   Kd.R_mono h.rR (fun k hk=>⟨⟨hp k hk.1.1,hk.1.2⟩,hk.2⟩),Kd.S_mono h.sB (fun k hk=>⟨⟨⟨hp k hk.1.1.1,hk.1.1.2⟩,hk.1.2⟩,hk.2⟩),h.hB⟩
theorem MKv.bound (h:MKv w0 W P gm gf F b vals vW vA vS vR vB vV):MKv w0 W (fun k=>P k∧k<W.heap.size) gm gf F b vals vW vA vS vR vB vV:=
  ⟨h.hm,h.hf,⟨h.pm,blk_lt h.hm⟩,⟨h.pf,blk_lt h.hf⟩,h.gem,h.gef,Kd.R_mono (Kd.R_bound h.rW) (fun k hk=>⟨⟨hk.1.1,hk.2.2.1⟩,hk.1.2⟩),Kd.R_mono (Kd.R_bound h.rV) (fun k hk=>⟨⟨hk.1.1,hk.2.2.1⟩,hk.1.2⟩),
   Kd.R_mono (Kd.R_bound h.rA) (fun k hk=>⟨hk.1,hk.2.2.1⟩),Kd.R_mono (Kd.R_bound h.rS) (fun k hk=>⟨hk.1,hk.2.2.1⟩),Kd.R_mono (Kd.R_bound h.rR) (fun k hk=>⟨⟨⟨hk.1.1.1,hk.2.2.1⟩,hk.1.1.2⟩,hk.1.2⟩),
   Kd.S_mono (Kd.S_bound h.sB) (fun k hk=>⟨⟨⟨⟨hk.1.1.1.1,hk.2.2.1⟩,hk.1.1.1.2⟩,hk.1.1.2⟩,hk.1.2⟩),h.hB⟩
theorem MKv.move (h:MKv w0 W P gm gf F b vals vW vA vS vR vB vV) (hm:∀ k,P k→k<W.heap.size→W1.heap[k]? = W.heap[k]?) (hB:Below w0.heap.size w0 W1):MKv w0 W1 P gm gf F b vals vW vA vS vR vB vV:=
  ⟨(hm _ h.pm (blk_lt h.hm)).trans h.hm,(hm _ h.pf (blk_lt h.hf)).trans h.hf,h.pm,h.pf,h.gem,h.gef,Kd.R_step h.rW (fun k hk=>hm k hk.1),Kd.R_step h.rV (fun k hk=>hm k hk.1),Kd.R_step h.rA hm,Kd.R_step h.rS hm,
   Kd.R_step h.rR (fun k hk=>hm k hk.1.1),Kd.S_step h.sB (fun k hk=>hm k hk.1.1.1),hB⟩
theorem MKv.below (h:MKv w0 W P gm gf F b vals vW vA vS vR vB vV) (hb:Below W.heap.size W W1):MKv w0 W1 P gm gf F b vals vW vA vS vR vB vV:=
 h.move (fun k _ hk=>hb.block k hk) (below_weaken h.hB (below_size h.hB) hb)
theorem MKv.alloc (h:MKv w0 W P gm gf F b vals vW vA vS vR vB vV) (o:Obj):MKv w0 (W.alloc o) P gm gf F b vals vW vA vS vR vB vV:=h.below (below_alloc (Below.refl _ _) o)
theorem MKv.drewN (h:MKv w0 W P gm gf F b vals vW vA vS vR vB vV) (n:Nat):MKv w0 (W.drewN n) P gm gf F b vals vW vA vS vR vB vV:=h.below (pw_below_drewN (Below.refl _ _) n)
theorem MKv.drew (h:MKv w0 W P gm gf F b vals vW vA vS vR vB vV):MKv w0 W.drew P gm gf F b vals vW vA vS vR vB vV:=h.below (below_drew1 (Below.refl _ _))
theorem MKv.far (h:MKv w0 W P gm gf F b vals vW vA vS vR vB vV) {g j:Nat} (hp:¬ P g) (hg:w0.heap.size≤g) (u:Value):MKv w0 (W.setCell ⟨g,j,none⟩ u) P gm gf F b vals vW vA vS vR vB vV:=
 h.move (fun k hk _=>Below.heap_setCell W ⟨g,j,none⟩ u k (fun (e:k=g)=>hp (e ▸ hk))) (below_set h.hB hg)
theorem MKv.ge (h:MKv w0 W P gm gf F b vals vW vA vS vR vB vV):w0.heap.size≤W.heap.size:=below_size h.hB
theorem After.refl (h:MKv w0 w P gm gf F b vals vW vA vS vR vB vV):After w0 w P gm gf vW vA vS vR vB vV F b vals w:=
 ⟨vW,vV,h.mono (fun _ hk=>.inl hk),Kept.refl _ _,SameB.refl _ _,SameB.refl _ _⟩
theorem Turn.trans {vW' vV':Value} (hP:∀ k,P' k→P k∨w.heap.size≤k) (hk:Kept w W (Turn w P gm gf vW vV)) (hW:SameB w vW vW') (hV:SameB w vV vV'):∀ k,Turn W P' gm gf vW' vV' k→Turn w P gm gf vW vV k∨w.heap.size≤k:=by
 intro k h
 by_cases hl:k<w.heap.size
 case neg=>exact .inr (Nat.le_of_not_lt hl)
 by_cases ht:Turn w P gm gf vW vV k
 ·exact .inl ht
 ·exfalso
  have e:=hk.2 k hl ht
  obtain ⟨hp,h⟩:=h
  have pk:P k:=(hP k hp).elim id (fun h=>by omega)
  rcases h with h | h | h | h | h | h
  ·exact ht ⟨pk,.inl h⟩
  ·exact ht ⟨pk,.inr (.inl h)⟩
  ·exact absurd h (hW.ne (fun e=>ht ⟨pk,.inr (.inr (.inl e))⟩) hl)
  ·exact absurd h (hV.ne (fun e=>ht ⟨pk,.inr (.inr (.inr (.inl e)))⟩) hl)
  ·rw [e] at h;exact ht ⟨pk,.inr (.inr (.inr (.inr (.inl h))))⟩
  ·rw [e] at h;exact ht ⟨pk,.inr (.inr (.inr (.inr (.inr h))))⟩
theorem After.trans {vW' vV':Value} (hk:Kept w W (Turn w P gm gf vW vV)) (hW:SameB w vW vW') (hV:SameB w vV vV')
  (h':After w0 W (fun k=>P k∨w.heap.size≤k) gm gf vW' vA vS vR vB vV' F' b vals' W1):After w0 w P gm gf vW vA vS vR vB vV F' b vals' W1:=by
 obtain ⟨a1,a6,m,k,s,t⟩:=h'
 exact ⟨a1,a6,m.mono (fun i hi=>hi.elim id (fun h=>.inr (Nat.le_trans hk.1 h))),hk.then_ k (Turn.trans (fun _ h=>h) hk hW hV),hW.trans s hk.1,hV.trans t hk.1⟩
end
section
variable {w0 W W1:World} {P PA:Nat→Prop} {gm gf:Nat} {F:FN} {b x:Int} {vals:List Int} {vW vA vS vR vB vV v1:Value}
theorem MKv.ne_mf (h:MKv w0 W P gm gf F b vals vW vA vS vR vB vV):gm≠gf:=blk_ne h.hm h.hf (by decide)
theorem MKv.ltW (h:MKv w0 W P gm gf F b vals vW vA vS vR vB vV):∀ k,vW.ownBlock=some k→k<W.heap.size:=Kd.R_lt h.rW
theorem MKv.ltV (h:MKv w0 W P gm gf F b vals vW vA vS vR vB vV):∀ k,vV.ownBlock=some k→k<W.heap.size:=Kd.R_lt h.rV
theorem MKv.okW (h:MKv w0 W P gm gf F b vals vW vA vS vR vB vV):Kd.R (Kd.int .i64) 3 W w0.heap.size (fun k=>(P k∨W.heap.size≤k)∧some k≠vV.ownBlock) vW F.ws:=Kd.R_mono h.rW (fun k hk=>⟨.inl hk.1,hk.2⟩)
theorem MKv.freshW (h:MKv w0 W P gm gf F b vals vW vA vS vR vB vV):∀ k,W.heap.size≤k→(P k∨W.heap.size≤k)∧some k≠vV.ownBlock:=fun k hk=>⟨.inr hk,Kd.fresh' h.ltV k hk⟩
theorem MKv.okV (h:MKv w0 W P gm gf F b vals vW vA vS vR vB vV):Kd.R (Kd.int .i64) 3 W w0.heap.size (fun k=>(P k∨W.heap.size≤k)∧some k≠vW.ownBlock) vV vals:=Kd.R_mono h.rV (fun k hk=>⟨.inl hk.1,hk.2⟩)
theorem MKv.freshV (h:MKv w0 W P gm gf F b vals vW vA vS vR vB vV):∀ k,W.heap.size≤k→(P k∨W.heap.size≤k)∧some k≠vW.ownBlock:=fun k hk=>⟨.inr hk,Kd.fresh' h.ltW k hk⟩
theorem MKv.push_ws (h:MKv w0 W P gm gf F b vals vW vA vS vR vB vV) (ho:Kd.R (Kd.int .i64) 3 W1 w0.heap.size (fun k=>(P k∨W.heap.size≤k)∧some k≠vV.ownBlock) v1 (F.ws++[x]))
  (hb:Below w0.heap.size w0 W1) (hg:W.grownBy W1 vW.ownBlock) (hat:v1.ownBlock=vW.ownBlock∨∃ c,v1.ownBlock=some c∧W.heap.size≤c) :
  MKv w0 (W1.setCell ⟨gf,1,none⟩ v1) (fun k=>P k∨W.heap.size≤k) gm gf { F with ws:=F.ws++[x] } b vals v1 vA vS vR vB vV∧Kept W (W1.setCell ⟨gf,1,none⟩ v1) (Turn W P gm gf vW vV)∧SameB W vW v1:=by
 have tW:=Kd.R_typed h.rW
 have m1:=blk_grown h.hm hg (Kd.R_ne h.rW h.hm (by decide))
 have f1:=blk_grown h.hf hg (Kd.R_ne h.rW h.hf (by decide))
 have M:=h.mono (P':=fun k=>P k∨W.heap.size≤k) (fun _ hk=>.inl hk)
 refine ⟨⟨blk_far m1 h.ne_mf _,blk_put f1 1 _ rfl,M.pm,M.pf,h.gem,h.gef,Kd.R_set ho f1 (by decide) _ _,Kd.R_set (Kd.R_after M.rV hg hat) f1 (by decide) _ _,Kd.R_set (Kd.R_over' M.rA tW (by decide) hg) f1 (by decide) _ _,Kd.R_set (Kd.R_over' M.rS tW (by decide) hg) f1 (by decide) _ _,?_,?_,below_set hb h.gef⟩,?_,hat⟩
 ·have r:=Kd.R_after (Kd.R_mono M.rR (fun k hk=>(⟨⟨hk.1.1,hk.2⟩,hk.1.2⟩:(_∧some k≠vV.ownBlock)∧some k≠vW.ownBlock))) hg hat
  exact Kd.R_set (Kd.R_mono r (fun k hk=>⟨⟨hk.1.1,hk.2⟩,hk.1.2⟩)) f1 (by decide) _ _
 ·have r:=Kd.S_after (Kd.S_mono M.sB (fun k hk=>(⟨⟨⟨hk.1.1.1,hk.1.2⟩,hk.2⟩,hk.1.1.2⟩:((_∧some k≠vV.ownBlock)∧some k≠vR.ownBlock)∧some k≠vW.ownBlock))) hg hat
  exact Kd.S_set (Kd.S_mono r (fun k hk=>⟨⟨⟨hk.1.1.1,hk.2⟩,hk.1.1.2⟩,hk.1.2⟩)) f1 (by decide) _ _
 ·exact Kept.setCell (Kept.of_grown hg (Kept.refl _ _) (fun k e=>.inl ⟨(h.rW.1 k e).1,.inr (.inr (.inl e.symm))⟩)) (.inl ⟨h.pf,.inr (.inl rfl)⟩) _
theorem MKv.push_vals (h:MKv w0 W P gm gf F b vals vW vA vS vR vB vV) (ho:Kd.R (Kd.int .i64) 3 W1 w0.heap.size (fun k=>(P k∨W.heap.size≤k)∧some k≠vW.ownBlock) v1 (vals++[x]))
  (hb:Below w0.heap.size w0 W1) (hg:W.grownBy W1 vV.ownBlock) (hat:v1.ownBlock=vV.ownBlock∨∃ c,v1.ownBlock=some c∧W.heap.size≤c) :
  MKv w0 (W1.setCell ⟨gm,2,none⟩ v1) (fun k=>P k∨W.heap.size≤k) gm gf F b (vals++[x]) vW vA vS vR vB v1∧Kept W (W1.setCell ⟨gm,2,none⟩ v1) (Turn W P gm gf vW vV)∧SameB W vV v1:=by
 have tV:=Kd.R_typed h.rV
 have m1:=blk_grown h.hm hg (Kd.R_ne h.rV h.hm (by decide))
 have f1:=blk_grown h.hf hg (Kd.R_ne h.rV h.hf (by decide))
 have M:=h.mono (P':=fun k=>P k∨W.heap.size≤k) (fun _ hk=>.inl hk)
 refine ⟨⟨blk_put m1 2 _ rfl,blk_far f1 (Ne.symm h.ne_mf) _,M.pm,M.pf,h.gem,h.gef,Kd.R_set (Kd.R_after M.rW hg hat) m1 (by decide) _ _,Kd.R_set ho m1 (by decide) _ _,Kd.R_set (Kd.R_over' M.rA tV (by decide) hg) m1 (by decide) _ _,Kd.R_set (Kd.R_over' M.rS tV (by decide) hg) m1 (by decide) _ _,Kd.R_set (Kd.R_after M.rR hg hat) m1 (by decide) _ _,Kd.S_set (Kd.S_mono (Kd.S_after (Kd.S_mono M.sB (fun k hk=>(⟨⟨hk.1.1,hk.2⟩,hk.1.2⟩:(_∧some k≠vR.ownBlock)∧some k≠vV.ownBlock))) hg hat) (fun k hk=>⟨⟨hk.1.1,hk.2⟩,hk.1.2⟩)) m1 (by decide) _ _,below_set hb h.gem⟩,?_,hat⟩
 exact Kept.setCell (Kept.of_grown hg (Kept.refl _ _) (fun k e=>.inl ⟨(h.rV.1 k e).1,.inr (.inr (.inr (.inl e.symm)))⟩)) (.inl ⟨h.pm,.inl rfl⟩) _
end
section
variable {w0 W W1:World} {P PA:Nat→Prop} {gm gf:Nat} {F:FN} {b:Int} {vals:List Int} {vW vA vS vR vB vV:Value}
theorem MKv.lend (h:MKv w0 W P gm gf F b vals vW vA vS vR vB vV) {i:Int} (h0:0≤i) (h1:i<F.bl.length) :
  ∃ gB cap oki v0 v1 v4 v5,vB = .slice (some ⟨gB,0,none⟩) F.bl.length cap ∧
   (∀ j u,[v0,v1,.int .i64 (rd_T53 F.bl i).f2.f0,.int .i64 (rd_T53 F.bl i).f2.f1,v4,v5,.int .i64 (rd_T53 F.bl i).f3,.int .i64 (rd_T53 F.bl i).f4,.int .i64 (rd_T53 F.bl i).f5][j]? = some u→W.cell? ⟨gB,i.toNat*9+j,none⟩=some u) ∧
   (Kd.int .i64).R 3 W w0.heap.size oki v0 (rd_T53 F.bl i).f0∧k72.R 72 W w0.heap.size oki v1 (rd_T53 F.bl i).f1∧k111.R 111 W w0.heap.size oki v4 (rd_T53 F.bl i).f2.f2∧(Kd.int .i64).R 3 W w0.heap.size oki v5 (rd_T53 F.bl i).f2.f3 ∧
   (∀ k,oki k→((P k∧some k≠vW.ownBlock)∧some k≠vV.ownBlock)∧k≠gB)∧(∃ cs,W.heap[gB]? = some (.cells cs 53 (0,0)))∧(∀ j,W.frozen? ⟨gB,i.toNat*9+j,none⟩=false) ∧
   Kd.H k53 53 W w0.heap.size (fun k=>(((P k∧k<W.heap.size)∧some k≠vW.ownBlock)∧some k≠vV.ownBlock)∧some k≠vR.ownBlock) vB F.bl i oki [v0,v1,.int .i64 (rd_T53 F.bl i).f2.f0,.int .i64 (rd_T53 F.bl i).f2.f1,v4,v5,.int .i64 (rd_T53 F.bl i).f3,.int .i64 (rd_T53 F.bl i).f4,.int .i64 (rd_T53 F.bl i).f5]:=by
 obtain ⟨gB,cap,rfl,hb,hl,ht⟩:=Kd.S_form h.sB (by omega)
 obtain ⟨oki,c,hcl,hM,hcc,hfr,hok,hH⟩:=Kd.S_elem h.bound.sB z53 i h0 h1
 obtain ⟨v0,v1,v4,v5,rfl,r0,r1,r4,r5⟩:=k53_openM hM
 exact ⟨gB,cap,oki,v0,v1,v4,v5,rfl,hcc,r0,r1,r4,r5,fun k hk=>⟨⟨⟨(hok k hk).1.1.1.1.1,(hok k hk).1.1.1.2⟩,(hok k hk).1.1.2⟩,(hok k hk).2⟩,ht,hfr,hH⟩
end
section
variable {w0 W W1:World} {P PA oki okp:Nat→Prop} {gm gf gB n cap j:Nat} {F:FN} {b i:Int} {vals:List Int} {vW vA vS vR vB vV v1:Value} {c seg:List Value} {x':S53}
theorem MKv.back (h:MKv w0 W P gm gf F b vals vW vA vS vR (.slice (some ⟨gB,0,none⟩) F.bl.length cap) vV) (h0:0≤i) (h1:i<F.bl.length) (hok:∀ k,oki k→((P k∧some k≠vW.ownBlock)∧some k≠vV.ownBlock)∧k≠gB)
  (hH:Kd.H k53 53 W w0.heap.size (fun k=>(((P k∧k<W.heap.size)∧some k≠vW.ownBlock)∧some k≠vV.ownBlock)∧some k≠vR.ownBlock) (.slice (some ⟨gB,0,none⟩) F.bl.length cap) F.bl i oki c)
  (tI:∀ k,v1.ownBlock=some k→∃ cs,W.heap[k]? = some (.cells cs 72 (0,0))) (hrow:∀ k,v1.ownBlock=some k→oki k) (hg:W.grownBy W1 v1.ownBlock) (hb:Below w0.heap.size w0 W1) (hj:j+seg.length≤9)
  (hM:k53.M W1 w0.heap.size okp x' (c.take j++seg++c.drop (j+seg.length))) (hokp:∀ k,okp k→oki k∨PA k∨W.heap.size≤k) (hPA:∀ k,PA k→¬ P k) :
  MKv w0 (W1.setCells gB (i.toNat*9+j) seg) (fun k=>(P k∨PA k)∨W.heap.size≤k) gm gf { F with bl:=F.bl.set i.toNat x' } b vals vW vA vS vR (.slice (some ⟨gB,0,none⟩) F.bl.length cap) vV∧Kept W (W1.setCells gB (i.toNat*9+j) seg) (Turn W P gm gf vW vV):=by
 have tB:=Kd.S_typed h.sB gB rfl
 have lB:=Kd.S_lt h.sB gB rfl
 have neI:some gB≠v1.ownBlock:=by
  intro e
  obtain ⟨cs,hc⟩:=tI gB e.symm
  obtain ⟨cs',hc'⟩:=tB
  rw [hc'] at hc
  injection hc with hc
  injection hc with _ ht
  exact absurd ht (by decide)
 obtain ⟨csB,hcB⟩:=tB
 have hB1:W1.heap[gB]? = some (.cells csB 53 (0,0)):=blk_grown hcB hg neI
 have hH1:Kd.H k53 53 W1 w0.heap.size (fun k=>(((((P k∨PA k)∨W.heap.size≤k)∧some k≠vW.ownBlock)∧some k≠vV.ownBlock)∧some k≠vR.ownBlock)∧¬ (PA k∨W.heap.size≤k)) (.slice (some ⟨gB,0,none⟩) F.bl.length cap) F.bl i oki c:=
  Kd.H_mono (Kd.H_grown hH hg hrow) (fun k hk=>⟨⟨⟨⟨.inl (.inl hk.1.1.1.1),hk.1.1.2⟩,hk.1.2⟩,hk.2⟩,fun e=>e.elim (fun e=>hPA k e hk.1.1.1.1) (fun e=>by have:=hk.1.1.1.2;omega)⟩)
 have hS:=Kd.S_seg (okp:=okp) (okg:=fun k=>PA k∨W.heap.size≤k) hH1 h0 h1 (seg:=seg) (j:=j) hj hM hokp (fun k hk=>by
  rcases hk with hk | hk
  ·exact ⟨⟨⟨⟨.inl (.inr hk),fun e=>hPA k hk (h.rW.1 k e.symm).1⟩,fun e=>hPA k hk (h.rV.1 k e.symm).1⟩,fun e=>hPA k hk (h.rR.1 k e.symm).1.1⟩,fun e=>by
    have:=Kd.S_away h.sB (g:=k) (fun k' hk' e'=>hPA k hk (e' ▸ hk'.1.1.1))
    exact this (by rw [e];rfl)⟩
  ·exact ⟨⟨⟨⟨.inr hk,Kd.fresh' h.ltW k hk⟩,Kd.fresh' h.ltV k hk⟩,Kd.fresh' (Kd.R_lt h.rR) k hk⟩,by omega⟩)
 have hg2:=hS.2
 have mv:∀ {α : Type} {d:Kd α} {e:Nat} {ok:Nat→Prop} {v:Value} {xs:List α},d.R e W w0.heap.size ok v xs→(∀ q,q∈e::d.E→q≠72)→(∀ q,q∈e::d.E→q≠53)→d.R e (W1.setCells gB (i.toNat*9+j) seg) w0.heap.size ok v xs:=fun r t1 t2=>
  Kd.R_mono (Kd.R_grown (Kd.R_types (Kd.R_over' r tI t1 hg) hB1 t2) hg2 (fun k hk e=>hk.2 (by injection e))) (fun k hk=>hk.1)
 have bl2:∀ {g t:Nat} {cs:Array Value},W.heap[g]? = some (.cells cs t (0,0))→t≠72→t≠53→(W1.setCells gB (i.toNat*9+j) seg).heap[g]? = some (.cells cs t (0,0)):=by
  intro g t cs hgt t1 t2
  have n1:some g≠v1.ownBlock:=by
   intro e
   obtain ⟨cs',hc⟩:=tI g e.symm
   rw [hgt] at hc
   injection hc with hc
   injection hc with _ ht
   exact t1 ht
  have n2:some g≠some gB:=by
   intro e
   injection e with e
   subst e
   rw [hgt] at hcB
   injection hcB with hc
   injection hc with _ ht
   exact t2 ht
  exact blk_grown (blk_grown hgt hg n1) hg2 n2
 have hP:∀ k,P k→(P k∨PA k)∨W.heap.size≤k:=fun _ hk=>.inl (.inl hk)
 refine ⟨⟨bl2 h.hm (by decide) (by decide),bl2 h.hf (by decide) (by decide),hP _ h.pm,hP _ h.pf,h.gem,h.gef,Kd.R_mono (mv h.rW (by decide) (by decide)) (fun k hk=>⟨hP _ hk.1,hk.2⟩),Kd.R_mono (mv h.rV (by decide) (by decide)) (fun k hk=>⟨hP _ hk.1,hk.2⟩),Kd.R_mono (mv h.rA (by decide) (by decide)) hP,Kd.R_mono (mv h.rS (by decide) (by decide)) hP,Kd.R_mono (mv h.rR (by decide) (by decide)) (fun k hk=>⟨⟨hP _ hk.1.1,hk.1.2⟩,hk.2⟩),?_,?_⟩,?_⟩
 ·exact hS.1
 ·exact pw_below_grown hb (some gB) (below_size hb) hg2 (fun k e=>by injection e with e;subst e;exact Kd.S_base h.sB _ rfl)
 ·exact Kept.of_grown hg2 (Kept.of_grown hg (Kept.refl _ _) (fun k e=>.inl ⟨(hok k (hrow k e)).1.1.1,.inr (.inr (.inr (.inr (.inr (tI k e)))))⟩)) (fun k e=>.inl (by injection e with e;subst e;exact ⟨Classical.byContradiction (fun hn=>Kd.S_away h.sB (g:=gB) (fun k' hk' e'=>hn (e' ▸ hk'.1.1.1)) rfl),.inr (.inr (.inr (.inr (.inl ⟨_,hcB⟩))))⟩))
end
section
variable {w0 W W1:World} {P PA oki:Nat→Prop} {gm gf gB cap:Nat} {F:FN} {b i:Int} {vals:List Int} {vW vA vS vR vB vV v0 v1 v1' v4 v5:Value} {x:S72} {u2 u3 u6 u7 u8:Value}
theorem MKv.push_inst (h:MKv w0 W P gm gf F b vals vW vA vS vR (.slice (some ⟨gB,0,none⟩) F.bl.length cap) vV) (h0:0≤i) (h1:i<F.bl.length) (hok:∀ k,oki k→((P k∧some k≠vW.ownBlock)∧some k≠vV.ownBlock)∧k≠gB)
  (hH:Kd.H k53 53 W w0.heap.size (fun k=>(((P k∧k<W.heap.size)∧some k≠vW.ownBlock)∧some k≠vV.ownBlock)∧some k≠vR.ownBlock) (.slice (some ⟨gB,0,none⟩) F.bl.length cap) F.bl i oki [v0,v1,.int .i64 (rd_T53 F.bl i).f2.f0,.int .i64 (rd_T53 F.bl i).f2.f1,v4,v5,.int .i64 (rd_T53 F.bl i).f3,.int .i64 (rd_T53 F.bl i).f4,.int .i64 (rd_T53 F.bl i).f5])
  (r0:(Kd.int .i64).R 3 W w0.heap.size oki v0 (rd_T53 F.bl i).f0) (r1:k72.R 72 W w0.heap.size oki v1 (rd_T53 F.bl i).f1) (r4:k111.R 111 W w0.heap.size oki v4 (rd_T53 F.bl i).f2.f2) (r5:(Kd.int .i64).R 3 W w0.heap.size oki v5 (rd_T53 F.bl i).f2.f3)
  (ho:k72.R 72 W1 w0.heap.size (fun k=>oki k∨PA k∨W.heap.size≤k) v1' ((rd_T53 F.bl i).f1++[x])) (hb:Below w0.heap.size w0 W1) (hg:W.grownBy W1 v1.ownBlock) (hPA:∀ k,PA k→¬ P k) :
  MKv w0 (W1.setCell ⟨gB,i.toNat*9+1,none⟩ v1') (fun k=>(P k∨PA k)∨W.heap.size≤k) gm gf { F with bl:=F.bl.set i.toNat { rd_T53 F.bl i with f1:=(rd_T53 F.bl i).f1++[x] } } b vals vW vA vS vR (.slice (some ⟨gB,0,none⟩) F.bl.length cap) vV∧Kept W (W1.setCell ⟨gB,i.toNat*9+1,none⟩ v1') (Turn W P gm gf vW vV):=by
 have tI:=Kd.R_typed r1
 have mv:∀ {α : Type} {d:Kd α} {e:Nat} {v:Value} {xs:List α},d.R e W w0.heap.size oki v xs→(∀ q,q∈e::d.E→q≠72)→d.R e W1 w0.heap.size (fun k=>oki k∨PA k∨W.heap.size≤k) v xs:=fun r t1=>Kd.R_mono (Kd.R_over' r tI t1 hg) (fun k hk=>.inl hk)
 exact h.back h0 h1 hok hH tI r1.1 hg hb (seg:=[v1']) (j:=1) (by show 2≤9;omega) (x':={ rd_T53 F.bl i with f1:=(rd_T53 F.bl i).f1++[x] }) (okp:=fun k=>oki k∨PA k∨W.heap.size≤k)
  (k53_mkM _ _ _ { rd_T53 F.bl i with f1:=(rd_T53 F.bl i).f1++[x] } (mv r0 (by decide)) ho (mv r4 (by decide)) (mv r5 (by decide))) (fun k hk=>hk) hPA
theorem MKv.cells (h:MKv w0 W P gm gf F b vals vW vA vS vR vB vV):W.cell? ⟨gm,0,none⟩=some (.pointer (some ⟨gf,0,none⟩))∧W.cell? ⟨gm,1,none⟩=some (.int .i64 b)∧W.cell? ⟨gm,2,none⟩=some vV ∧
  W.cell? ⟨gf,1,none⟩=some vW∧W.cell? ⟨gf,2,none⟩=some vA∧W.cell? ⟨gf,3,none⟩=some vS∧W.cell? ⟨gf,4,none⟩=some vR∧W.cell? ⟨gf,5,none⟩=some vB:=
 ⟨(blk_cell h.hm 0).trans rfl,(blk_cell h.hm 1).trans rfl,(blk_cell h.hm 2).trans rfl,(blk_cell h.hf 1).trans rfl,(blk_cell h.hf 2).trans rfl,(blk_cell h.hf 3).trans rfl,(blk_cell h.hf 4).trans rfl,(blk_cell h.hf 5).trans rfl⟩
end
def mkAdd (F:FN) (b:Int) (vals:List Int) (x:S72) (wd:Int):Option (FN × List Int × Int):=
 if 0≤b∧b<F.bl.length∧F.ws.length<17592186044415∧(rd_T53 F.bl b).f1.length<2513169434916∧vals.length<17592186044415 then
  some ({ F with ws:=F.ws++[wd],bl:=F.bl.set b.toNat { rd_T53 F.bl b with f1:=(rd_T53 F.bl b).f1++[{ x with f1:=(F.ws.length:Int) }] } },vals++[(F.ws.length:Int)],(F.ws.length:Int))
 else none
theorem info_Inst:(Try.prog.info? 72).map (fun i=>(i.zero,i.size,i.bytes))=some (some (.agg #[(.int .i64 0),(.int .i64 0),(.slice none 0 0),(.int .u64 0),(.int .i64 0)]),5,56):=by kernel_rfl
def mkAdd.T2:Bool × List (List Nat × List Nat):=(true,[([],[]),([0],[0]),([1],[1]),([2],[2]),([],[]),([4],[4]),([5],[5]),([6],[6]),([7],[7]),([8],[8]),([9],[9]),([],[]),([11],[11]),([10,12],[10,12]),([3,0,1,2,3,4,5,6,7,8,9,10,11,12,13],[3]),([14,0,1,2,3,4,5,6,7,8,9,10,11,12,13],[14]),([15,13,13,0,1,2,3,4,5,6,7,8,9,10,11,12,13],[13,15])])
def mkAdd.B2:List Nat:=[0,1,3,7,0,16,48,112,240,496,1008,0,2048,8176,16383,32767,65535]
theorem mkAdd.tab2:rtab .any (opsOf Try.f40 2)=mkAdd.T2:=by kernel_rfl
theorem mkAdd.bits2:waitsOk mkAdd.T2.2 mkAdd.B2=true:=by kernel_rfl
def mkAdd.T3:Bool × List (List Nat × List Nat):=(true,[([],[]),([0],[0]),([1],[1]),([2],[2]),([3],[3]),([4],[4]),([5],[5]),([],[]),([7],[7]),([8],[8]),([9],[9]),([],[]),([11],[11]),([12],[12]),([13],[13]),([14],[14]),([15],[15]),([16],[16]),([],[]),([18],[18]),([19],[19]),([20],[20]),([17,21],[17,21]),([22],[22]),([23],[23]),([],[]),([25],[25]),([24,26],[24,26]),([6,10,0,1,2,3,4,5,6,7,8,9,10,11,12,13,14,15,16,17,18,19,20,21,22,23,24,25,26,27],[6,10]),([28,0,1,2,3,4,5,6,7,8,9,10,11,12,13,14,15,16,17,18,19,20,21,22,23,24,25,26,27],[28]),([29,27,27,0,1,2,3,4,5,6,7,8,9,10,11,12,13,14,15,16,17,18,19,20,21,22,23,24,25,26,27],[27,29])])
def mkAdd.B3:List Nat:=[0,1,3,7,15,31,63,0,128,384,896,0,2048,6144,14336,30720,63488,129024,0,262144,786432,1835008,4192256,8386560,16775168,0,33554432,134215680,268435455,536870911,1073741823]
theorem mkAdd.tab3:rtab .any (opsOf Try.f40 3)=mkAdd.T3:=by kernel_rfl
theorem mkAdd.bits3:waitsOk mkAdd.T3.2 mkAdd.B3=true:=by kernel_rfl
def mkAdd.T4:Bool × List (List Nat × List Nat):=(true,[([],[]),([],[]),([1],[1]),([2],[2]),([3],[3]),([],[]),([5],[5]),([6],[6]),([4,7],[4,7]),([0,0,1,2,3,4,5,6,7,8],[0]),([9,0,1,2,3,4,5,6,7,8],[9]),([10,8,8,0,1,2,3,4,5,6,7,8],[8,10])])
def mkAdd.B4:List Nat:=[0,0,2,6,14,0,32,96,254,511,1023,2047]
theorem mkAdd.tab4:rtab .any (opsOf Try.f40 4)=mkAdd.T4:=by kernel_rfl
theorem mkAdd.bits4:waitsOk mkAdd.T4.2 mkAdd.B4=true:=by kernel_rfl
set_option maxHeartbeats 8000000 in
set_option maxRecDepth 100000 in
theorem mkAdd_calls {w0 w:World} {P PA:Nat→Prop} {gm gf:Nat} {F F':FN} {b d wd:Int} {vals vals':List Int} {vW vA vS vR vB vV vX:Value} {x:S72} (hM:MKv w0 w P gm gf F b vals vW vA vS vR vB vV)
  (hX:Kd.R (Kd.int .i64) 3 w w0.heap.size PA vX x.f2) (hPA:∀ k,PA k→¬ P k) (h:mkAdd F b vals x wd=some (F',vals',d)) :
  Calls Try.prog 40 #[.pointer (some ⟨gm,0,none⟩),.agg #[.int .i64 x.f0,.int .i64 x.f1,vX,.int .u64 x.f3,.int .i64 x.f4],.int .i64 wd] w fun e w'=>e = .returned (.int .i64 d)∧After w0 w (fun k=>P k∨PA k) gm gf vW vA vS vR vB vV F' b vals' w':=by
 unfold mkAdd at h
 split at h
 case isFalse=>exact absurd h (by simp)
 rename_i hc
 obtain ⟨h0,h1,l1,l2,l3⟩:=hc
 injection h with h
 injection h with hF h
 injection h with hv hd
 subst hF hv hd
 obtain ⟨AW,cW,rfl⟩:=Kd.R_slice hM.rW
 obtain ⟨AV,cV,rfl⟩:=Kd.R_slice hM.rV
 obtain ⟨AX,cX,rfl⟩:=Kd.R_slice hX
 replace hM:=hM.bound
 replace hX:=Kd.R_mono (Kd.R_bound hX) (ok':=fun k=>PA k∧k<w.heap.size) (fun k hk=>⟨hk.1,hk.2.2.1⟩)
 replace hPA:∀ k,PA k∧k<w.heap.size→¬ (P k∧k<w.heap.size):=fun k hk hp=>hPA k hk.1 hp.1
 go_enter Try.func40,Try.ntmps40
 go_upto_region 2 with (first | ((with_reducible refine gate_dst (N:=4) rfl ?_);refine box_event ?hg (N:=4) ?hd (cs := #[.int .i64 x.f0,.int .i64 x.f1,.slice AX x.f2.length cX,.int .u64 x.f3,.int .i64 x.f4]) (t:=72) ?hr ?_;(case hd=>rfl);(case hg=>rfl);(case hr=>first | (go_simp;done) | (go_simp;rfl));intro gi hgi w1 hbox hb1;have M1:=hM.below hb1;obtain ⟨c1,c2,c3,c4,c5,c6,c7,c8⟩:=M1.cells;have d1:=blk_frozen hbox 1;have d2:=(blk_cell hbox 1).trans rfl;replace hgi:=Aside0.mk hgi;replace hbox:=Aside0.mk hbox))
 have I1:=blk_put hbox.out 1 (.int .i64 (F.ws.length:Int)) rfl
 have X1:=Kd.R_set (Kd.R_below hX hb1) hbox.out (by decide) 1 (.int .i64 (F.ws.length:Int))
 have M2:=M1.far (g:=gi) (j:=1) (fun hk=>by have:=hgi.out;omega) (by rw [hgi.out];exact hM.ge) (.int .i64 (F.ws.length:Int))
 have K2:Kept w _ (Turn w (fun k=>P k∨PA k) gm gf (.slice AW F.ws.length cW) (.slice AV vals.length cV)):=Kept.setCell (Kept.of_below hb1 _) (p:=⟨gi,1,none⟩) (.inr (Nat.le_of_eq hgi.out.symm)) (.int .i64 (F.ws.length:Int))
 generalize w1.setCell ⟨gi,1,none⟩ (.int .i64 (F.ws.length:Int))=w2 at I1 X1 M2 K2 ⊢
 clear c1 c2 c3 c4 c5 c6 c7 c8 d1 d2 hbox hb1 M1
 try go_wp2
 refine start_ (n:=17) (S:=fun w'=>w'.cell? ⟨gm,0,none⟩=some (.pointer (some ⟨gf,0,none⟩))∧w'.cell? ⟨gf,1,none⟩=some (.slice AW F.ws.length cW)) (ds:=[16]) (bz 17 0) (by kernel_rfl) rfl rfl ⟨(M2.drew.cells.1),(M2.drew.cells.2.2.2.1)⟩ (fun hHeld=>?_)
 refine with_tabW mkAdd.tab2 mkAdd.bits2 (fun HT_ HW_=>?_)
 have M3:=M2.drew
 have I3:=blk_drew I1
 have X3:=Kd.R_drew X1
 have K3:=K2.drew
 generalize w2.drew=w3 at hHeld M3 I3 X3 K3 ⊢
 clear M2 I1 X1 K2
 refine pu_ 0 16 HT_ ?_
 refine pu_ 1 17 HT_ ?_
 refine pu_ 2 18 HT_ ?_
 refine pu_ 4 20 HT_ ?_
 refine pu_ 5 21 HT_ ?_
 refine pu_ 6 22 HT_ ?_
 refine pu_ 11 27 HT_ ?_
 refine tk_ 3 19 HT_ HW_ hHeld ?_ (hy:=by rintro w' ⟨s0,s1⟩;go_simp;with_reducible rfl)
 refine tk_ 7 23 HT_ HW_ hHeld ?_ (hy:=by rintro w' ⟨s0,s1⟩;go_simp;with_reducible rfl)
 refine pu_ 8 24 HT_ ?_
 refine pu_ 9 25 HT_ ?_
 refine tk_ 10 26 HT_ HW_ hHeld ?_ (hy:=by rintro w' ⟨s0,s1⟩;go_simp;with_reducible rfl)
 refine on_ 12 (some 28) HT_ (fun K hK=>?_)
 refine value_ (w1:=?_) (v:=?_) (by rfl) rfl ?_ ?_;rotate_left 2;(go_simp;constructor);(rfl);(rfl)
 refine hK.out _ _ ⟨(M3.alloc _).cells.1,(M3.alloc _).cells.2.2.2.1⟩ (fun hHeld=>?_);clear hK K
 refine no_ 28 ?_
 refine on_ 13 (some 29) HT_ (fun K hK=>?_)
 refine Kd.R_append_step (Kd.int .i64) (w0:=w0) w0.heap.size (by rfl) (.tmp 26) (.tmp 28) 29 3 (.int .i64 0) 8 rfl Try.underlying29 info3 rfl (by decide) (by omega) (.slice AW F.ws.length cW) F.ws wd [.int .i64 wd] _ (fun _=>False) rfl rfl ?aP (fun _ hk=>hk.elim) M3.freshW M3.okW M3.hB M3.ge (by omega) ?_
 (case aP=>exact rfl)
 intro v1 w4 ho hb hg hat
 obtain ⟨A1,c1,e1⟩:=Kd.R_slice ho
 rw [List.length_append,List.length_singleton] at e1
 subst e1
 refine hK.out _ _ ⟨(blk_cell (blk_grown M3.hm hg (Kd.R_ne M3.rW M3.hm (by decide))) 0).trans rfl,(blk_cell (blk_grown M3.hf hg (Kd.R_ne M3.rW M3.hf (by decide))) 1).trans rfl⟩ (fun hHeld=>?_);clear hK K
 refine no_ 29 ?_
 refine pu_ 14 30 HT_ ?_
 refine pu_ 15 31 HT_ ?_
 refine la_ 16 none HT_ (fun K hK=>?_)
 have s1:w4.cell? ⟨gf,1,none⟩=some (.slice AW F.ws.length cW):=(blk_cell (blk_grown M3.hf hg (Kd.R_ne M3.rW M3.hf (by decide))) 1).trans rfl
 have s2:=blk_frozen (blk_grown M3.hf hg (Kd.R_ne M3.rW M3.hf (by decide))) 1
 refine skip_ (w1:=?_) (by rfl) rfl ?_ ?_;rotate_left;(go_simp)
 rfl
 clear s1 s2
 refine hK.out _ _ ?_;clear hK K
 refine done_ (done_of HT_.out (by kernel_rfl)) ?_
 obtain ⟨M4,K4,S4⟩:=M3.push_ws ho hb hg hat
 have I4:=blk_far (blk_grown I3 hg (Kd.R_ne M3.rW I3 (by decide))) (p:=⟨gf,1,none⟩) (blk_ne I3 M3.hf (by decide)) (.slice A1 (F.ws.length+1) c1)
 have X4:=Kd.R_set (Kd.R_grown X3 hg (fun k hk e=>hPA k hk (M3.rW.1 k e.symm).1)) (blk_grown M3.hf hg (Kd.R_ne M3.rW M3.hf (by decide))) (by decide) 1 (.slice A1 (F.ws.length+1) c1)
 replace K4:=K3.then_ K4 (Turn.trans (fun k hk=>.inl (.inl hk.1)) K3 (SameB.refl _ _) (SameB.refl _ _))
 replace S4:=(SameB.refl w _).trans S4 K3.1
 have hs3:=K3.1
 have hgi3:=blk_lt I3
 have hPA4:∀ k,PA k∧k<w.heap.size→¬ ((P k∧k<w.heap.size)∨w3.heap.size≤k):=fun k hk hp=>hp.elim (hPA k hk) (fun h=>by have:=hk.2;omega)
 have hgi4:¬ ((P gi∧gi<w.heap.size)∨w3.heap.size≤gi):=fun hp=>hp.elim (fun h=>by have:=hgi.out;omega) (fun h=>by omega)
 clear M3 I3 X3 K3 ho hb hg hat hHeld
 generalize w4.setCell ⟨gf,1,none⟩ (.slice A1 (F.ws.length+1) c1)=w5 at M4 I4 X4 K4 ⊢
 try go_wp2
 have M5:=M4.drew
 have I5:=blk_drew I4
 have X5:=Kd.R_drew X4
 have K5:=K4.drew
 clear M4 I4 X4 K4
 obtain ⟨gB,cap,oki,v0,v1,v4,v5,rfl,hcc,r0,r1,r4,r5,hok,⟨csB,tB⟩,hfr,hH⟩:=M5.lend h0 h1
 obtain ⟨A2,c2,rfl⟩:=Kd.R_slice r1
 refine start_ (n:=31) (S:=fun w'=>w'.cell? ⟨gm,0,none⟩=some (.pointer (some ⟨gf,0,none⟩))∧w'.cell? ⟨gm,1,none⟩=some (.int .i64 b)∧w'.cell? ⟨gf,5,none⟩=some (.slice (some ⟨gB,0,none⟩) F.bl.length cap)∧w'.cell? ⟨gB,b.toNat*9+1,none⟩=some (.slice A2 (rd_T53 F.bl b).f1.length c2)∧w'.cell? ⟨gi,0,none⟩=some (.int .i64 x.f0)∧w'.cell? ⟨gi,1,none⟩=some (.int .i64 (F.ws.length:Int))∧w'.cell? ⟨gi,2,none⟩=some (.slice AX x.f2.length cX)∧w'.cell? ⟨gi,3,none⟩=some (.int .u64 x.f3)∧w'.cell? ⟨gi,4,none⟩=some (.int .i64 x.f4)) (ds:=[30]) (bz 31 0) (by kernel_rfl) rfl rfl ⟨(M5.cells.1),(M5.cells.2.1),(M5.cells.2.2.2.2.2.2.2),(hcc 1 _ rfl),((blk_cell I5 0).trans rfl),((blk_cell I5 1).trans rfl),((blk_cell I5 2).trans rfl),((blk_cell I5 3).trans rfl),((blk_cell I5 4).trans rfl)⟩ (fun hHeld=>?_)
 refine with_tabW mkAdd.tab3 mkAdd.bits3 (fun HT_ HW_=>?_)
 generalize w5.drew=w6 at hHeld M5 I5 X5 K5 hcc r0 r1 r4 r5 tB hfr hH ⊢
 have bd0:(0≤b)=True:=eq_true h0
 have bd1:(b<(F.bl.length:Int))=True:=eq_true h1
 refine pu_ 0 32 HT_ ?_
 refine pu_ 1 33 HT_ ?_
 refine pu_ 2 34 HT_ ?_
 refine pu_ 7 39 HT_ ?_
 refine pu_ 8 40 HT_ ?_
 refine pu_ 9 41 HT_ ?_
 refine pu_ 11 43 HT_ ?_
 refine pu_ 12 44 HT_ ?_
 refine pu_ 13 45 HT_ ?_
 refine pu_ 18 50 HT_ ?_
 refine pu_ 19 51 HT_ ?_
 refine pu_ 20 52 HT_ ?_
 refine tk_ 3 35 HT_ HW_ hHeld ?_ (hy:=by rintro w' ⟨s0,s1,s2,s3,s4,s5,s6,s7,s8⟩;go_simp;with_reducible rfl)
 refine pu_ 4 36 HT_ ?_
 refine pu_ 5 37 HT_ ?_
 refine tk_ 6 38 HT_ HW_ hHeld ?_ (hy:=by rintro w' ⟨s0,s1,s2,s3,s4,s5,s6,s7,s8⟩;go_simp;with_reducible rfl)
 refine tk_ 10 42 HT_ HW_ hHeld ?_ (hy:=by rintro w' ⟨s0,s1,s2,s3,s4,s5,s6,s7,s8⟩;go_simp;with_reducible rfl)
 refine tk_ 14 46 HT_ HW_ hHeld ?_ (hy:=by rintro w' ⟨s0,s1,s2,s3,s4,s5,s6,s7,s8⟩;go_simp;with_reducible rfl)
 refine pu_ 15 47 HT_ ?_
 refine pu_ 16 48 HT_ ?_
 refine tk_ 17 49 HT_ HW_ hHeld ?_ (hy:=by rintro w' ⟨s0,s1,s2,s3,s4,s5,s6,s7,s8⟩;go_simp;with_reducible rfl)
 refine tk_ 21 53 HT_ HW_ hHeld ?_ (hy:=by rintro w' ⟨s0,s1,s2,s3,s4,s5,s6,s7,s8⟩;go_simp;with_reducible rfl)
 refine pu_ 22 54 HT_ ?_
 refine pu_ 23 55 HT_ ?_
 refine tk_ 24 56 HT_ HW_ hHeld ?_ (hy:=by rintro w' ⟨s0,s1,s2,s3,s4,s5,s6,s7,s8⟩;go_simp;with_reducible rfl)
 refine tk_ 25 57 HT_ HW_ hHeld ?_ (hy:=by rintro w' ⟨s0,s1,s2,s3,s4,s5,s6,s7,s8⟩;go_simp;with_reducible rfl)
 refine on_ 26 (some 58) HT_ (fun K hK=>?_)
 refine value_ (w1:=?_) (v:=?_) (by rfl) rfl ?_ ?_;rotate_left 2;(go_simp;constructor);(rfl);(rfl)
 refine hK.out _ _ ⟨(M5.alloc _).cells.1,(M5.alloc _).cells.2.1,(M5.alloc _).cells.2.2.2.2.2.2.2,pw_cell_below (below_alloc (Below.refl _ _) _) (hcc 1 _ rfl),(blk_cell (blk_alloc I5 _) 0).trans rfl,(blk_cell (blk_alloc I5 _) 1).trans rfl,(blk_cell (blk_alloc I5 _) 2).trans rfl,(blk_cell (blk_alloc I5 _) 3).trans rfl,(blk_cell (blk_alloc I5 _) 4).trans rfl⟩ (fun hHeld=>?_);clear hK K
 refine no_ 58 ?_
 refine on_ 27 (some 59) HT_ (fun K hK=>?_)
 refine Kd.R_append_step k72 (w0:=w0) w0.heap.size (by rfl) (.tmp 56) (.tmp 58) 48 72 (.agg #[(.int .i64 0),(.int .i64 0),(.slice none 0 0),(.int .u64 0),(.int .i64 0)]) 56 rfl Try.underlying48 info_Inst rfl (by decide) (by omega) (.slice A2 (rd_T53 F.bl b).f1.length c2) (rd_T53 F.bl b).f1 { x with f1:=(F.ws.length:Int) } [.int .i64 x.f0,.int .i64 (F.ws.length:Int),.slice AX x.f2.length cX,.int .u64 x.f3,.int .i64 x.f4] (fun k=>oki k∨(PA k∧k<w.heap.size)∨w6.heap.size≤k) (fun k=>PA k∧k<w.heap.size) rfl rfl (k72_mkM _ _ _ { x with f1:=(F.ws.length:Int) } X5) (fun k hk=>⟨.inr (.inl hk),fun e=>hPA4 k hk (hok k (r1.1 k e.symm)).1.1.1⟩) (fun k hk=>.inr (.inr hk)) (Kd.R_mono r1 (fun k hk=>.inl hk)) M5.hB M5.ge (by omega) ?_
 intro v2 w7 ho hb hg hat
 obtain ⟨A3,c3,e3⟩:=Kd.R_slice ho
 rw [List.length_append,List.length_singleton] at e3
 subst e3
 have M7:w7.cell? ⟨gm,0,none⟩=some (.pointer (some ⟨gf,0,none⟩))∧w7.cell? ⟨gm,1,none⟩=some (.int .i64 b)∧w7.cell? ⟨gf,5,none⟩=some (.slice (some ⟨gB,0,none⟩) F.bl.length cap):=⟨(blk_cell (blk_grown M5.hm hg (Kd.R_ne r1 M5.hm (by decide))) 0).trans rfl,(blk_cell (blk_grown M5.hm hg (Kd.R_ne r1 M5.hm (by decide))) 1).trans rfl,(blk_cell (blk_grown M5.hf hg (Kd.R_ne r1 M5.hf (by decide))) 5).trans rfl⟩
 have I7:=blk_grown I5 hg (fun e=>hgi4 (hok gi (r1.1 gi e.symm)).1.1.1)
 have B7:=blk_grown tB hg (Kd.R_ne r1 tB (by decide))
 have E7:=hg.cell (hcc 1 _ rfl) (Kd.R_ne r1 tB (by decide))
 refine hK.out _ _ ⟨M7.1,M7.2.1,M7.2.2,E7,(blk_cell I7 0).trans rfl,(blk_cell I7 1).trans rfl,(blk_cell I7 2).trans rfl,(blk_cell I7 3).trans rfl,(blk_cell I7 4).trans rfl⟩ (fun hHeld=>?_);clear hK K
 refine no_ 59 ?_
 refine pu_ 28 60 HT_ ?_
 refine pu_ 29 61 HT_ ?_
 refine la_ 30 none HT_ (fun K hK=>?_)
 have s2:=blk_frozen B7 (b.toNat*9+1)
 refine skip_ (w1:=?_) (by rfl) rfl ?_ ?_;rotate_left;(go_simp)
 rfl
 refine hK.out _ _ ?_;clear hK K
 refine done_ (done_of HT_.out (by kernel_rfl)) ?_
 obtain ⟨M8,K8⟩:=M5.push_inst (F:={ F with ws:=F.ws++[wd] }) h0 h1 hok hH r0 r1 r4 r5 ho hb hg hPA4
 have I8:=blk_far I7 (p:=⟨gB,b.toNat*9+1,none⟩) (blk_ne I7 B7 (by decide)) (.slice A3 ((rd_T53 F.bl b).f1.length+1) c3)
 replace K8:=K5.then_ K8 (Turn.trans (fun k hk=>hk.elim (fun h=>.inl (.inl h.1)) (fun h=>.inr (Nat.le_trans hs3 h))) K5 S4 (SameB.refl _ _))
 have hs6:=K5.1
 clear M5 I5 X5 K5 ho hb hg hat hHeld hcc r0 r1 r4 r5 tB hfr hH M7 I7 B7 E7 s2
 generalize w7.setCell ⟨gB,b.toNat*9+1,none⟩ (.slice A3 ((rd_T53 F.bl b).f1.length+1) c3)=w8 at M8 I8 K8 ⊢
 try go_wp2
 refine start_ (n:=12) (S:=fun w'=>w'.cell? ⟨gm,2,none⟩=some (.slice AV vals.length cV)∧w'.cell? ⟨gi,1,none⟩=some (.int .i64 (F.ws.length:Int))) (ds:=[11]) (bz 12 0) (by kernel_rfl) rfl rfl ⟨(M8.drew.cells.2.2.1),((blk_cell (blk_drew I8) 1).trans rfl)⟩ (fun hHeld=>?_)
 refine with_tabW mkAdd.tab4 mkAdd.bits4 (fun HT_ HW_=>?_)
 have M9:=M8.drew
 have I9:=blk_drew I8
 have K9:=K8.drew
 generalize w8.drew=w9 at hHeld M9 I9 K9 ⊢
 clear M8 I8 K8
 refine pu_ 0 62 HT_ ?_
 refine pu_ 1 63 HT_ ?_
 refine pu_ 2 64 HT_ ?_
 refine pu_ 3 65 HT_ ?_
 refine pu_ 5 67 HT_ ?_
 refine tk_ 4 66 HT_ HW_ hHeld ?_ (hy:=by rintro w' ⟨s0,s1⟩;go_simp;with_reducible rfl)
 refine tk_ 6 68 HT_ HW_ hHeld ?_ (hy:=by rintro w' ⟨s0,s1⟩;go_simp;with_reducible rfl)
 refine on_ 7 (some 69) HT_ (fun K hK=>?_)
 refine value_ (w1:=?_) (v:=?_) (by rfl) rfl ?_ ?_;rotate_left 2;(go_simp;constructor);(rfl);(rfl)
 refine hK.out _ _ ⟨(M9.alloc _).cells.2.2.1,(blk_cell (blk_alloc I9 _) 1).trans rfl⟩ (fun hHeld=>?_);clear hK K
 refine no_ 69 ?_
 refine on_ 8 (some 70) HT_ (fun K hK=>?_)
 refine Kd.R_append_step (Kd.int .i64) (w0:=w0) w0.heap.size (by rfl) (.tmp 66) (.tmp 69) 29 3 (.int .i64 0) 8 rfl Try.underlying29 info3 rfl (by decide) (by omega) (.slice AV vals.length cV) vals (F.ws.length:Int) [.int .i64 (F.ws.length:Int)] _ (fun _=>False) rfl rfl ?aP (fun _ hk=>hk.elim) M9.freshV M9.okV M9.hB M9.ge (by omega) ?_
 (case aP=>exact rfl)
 intro v10 w10 ho hb hg hat
 obtain ⟨A10,c10,e10⟩:=Kd.R_slice ho
 rw [List.length_append,List.length_singleton] at e10
 subst e10
 have m10:=blk_grown M9.hm hg (Kd.R_ne M9.rV M9.hm (by decide))
 have I10:=blk_grown I9 hg (Kd.R_ne M9.rV I9 (by decide))
 refine hK.out _ _ ⟨(blk_cell m10 2).trans rfl,(blk_cell I10 1).trans rfl⟩ (fun hHeld=>?_);clear hK K
 refine no_ 70 ?_
 refine pu_ 9 71 HT_ ?_
 refine pu_ 10 72 HT_ ?_
 refine la_ 11 none HT_ (fun K hK=>?_)
 have s1:w10.cell? ⟨gm,2,none⟩=some (.slice AV vals.length cV):=(blk_cell m10 2).trans rfl
 have s2:=blk_frozen m10 2
 refine skip_ (w1:=?_) (by rfl) rfl ?_ ?_;rotate_left;(go_simp)
 rfl
 clear s1 s2
 refine hK.out _ _ ?_;clear hK K
 refine done_ (done_of HT_.out (by kernel_rfl)) ?_
 obtain ⟨M11,K11,S11⟩:=M9.push_vals ho hb hg hat
 have I11:=blk_far I10 (p:=⟨gm,2,none⟩) (blk_ne I10 m10 (by decide)) (.slice A10 (vals.length+1) c10)
 replace K11:=K9.then_ K11 (Turn.trans (fun k hk=>hk.elim (fun h=>h.elim (fun h=>h.elim (fun h=>.inl (.inl h.1)) (fun h=>.inr (Nat.le_trans hs3 h))) (fun h=>.inl (.inr h.1))) (fun h=>.inr (Nat.le_trans hs6 h))) K9 S4 (SameB.refl _ _))
 replace S11:=(SameB.refl w (.slice AV vals.length cV)).trans S11 K9.1
 have hs9:=K9.1
 clear M9 I9 K9 ho hb hg hat hHeld m10 I10
 generalize w10.setCell ⟨gm,2,none⟩ (.slice A10 (vals.length+1) c10)=w11 at M11 I11 K11 ⊢
 have i1:w11.cell? ⟨gi,1,none⟩=some (.int .i64 (F.ws.length:Int)):=(blk_cell I11 1).trans rfl
 try go_wp2
 go_ret
 refine ⟨rfl,_,_,M11.mono ?_,K11,S4,S11⟩
 intro k hk
 rcases hk with ((hk | hk) | hk) | hk
 ·rcases hk with hk | hk
  ·exact .inl (.inl hk.1)
  ·exact .inr (Nat.le_trans hs3 hk)
 ·exact .inl (.inr hk.1)
 ·exact .inr (Nat.le_trans hs6 hk)
 ·exact .inr (Nat.le_trans hs9 hk)
theorem After.mono {w0 w W:World} {P P':Nat→Prop} {gm gf:Nat} {F:FN} {b:Int} {vals:List Int} {vW vA vS vR vB vV:Value} (h:After w0 w P gm gf vW vA vS vR vB vV F b vals W) (hp:∀ k,P k→P' k):After w0 w P' gm gf vW vA vS vR vB vV F b vals W:=by
 obtain ⟨a1,a6,m,k,s,t⟩:=h
 exact ⟨a1,a6,m.mono (fun k hk=>hk.imp (hp k) id),k.mono (fun k hk=>⟨hp k hk.1,hk.2⟩),s,t⟩
def mkAny (F:FN) (b:Int) (vals:List Int) (k:Int):Option (FN × List Int × Int):=
 if vals.length=0 then mkAdd F b vals ⟨1,0,[],IntKind.u64.wrap (Int.tmod k 2),0⟩ 1
 else if 0≤wrap64 (wrap64 ((vals.length:Int) - 1) - Int.tmod (wrap64 k) (vals.length:Int))∧wrap64 (wrap64 ((vals.length:Int) - 1) - Int.tmod (wrap64 k) (vals.length:Int))<(vals.length:Int) then
  some (F,vals,rd vals (wrap64 (wrap64 ((vals.length:Int) - 1) - Int.tmod (wrap64 k) (vals.length:Int))))
 else none
def mkAny.T3:Bool × List (List Nat × List Nat):=(true,[([],[]),([0],[0]),([1],[1]),([2],[2]),([],[]),([4],[4]),([5],[5]),([6],[6]),([7],[7]),([8],[8]),([],[]),([10],[10]),([],[]),([12],[12]),([13],[13]),([14],[14]),([15],[15]),([11,16],[11,16]),([9,17],[9,17]),([3,18],[3,18]),([19],[19]),([20,0,1,2,3,4,5,6,7,8,9,10,11,12,13,14,15,16,17,18,19,20],[20])])
def mkAny.B3:List Nat:=[0,1,3,7,0,16,48,112,240,496,0,1024,0,4096,12288,28672,61440,130048,262128,524287,1048575,2097151]
theorem mkAny.tab3:rtab .any (opsOf Try.f45 3)=mkAny.T3:=by kernel_rfl
theorem mkAny.bits3:waitsOk mkAny.T3.2 mkAny.B3=true:=by kernel_rfl
set_option maxHeartbeats 8000000 in
set_option maxRecDepth 100000 in
theorem mkAny_calls {w0 w:World} {P:Nat→Prop} {gm gf:Nat} {F F':FN} {b d k:Int} {vals vals':List Int} {vW vA vS vR vB vV:Value} (hM:MKv w0 w P gm gf F b vals vW vA vS vR vB vV) (h:mkAny F b vals k=some (F',vals',d)) :
  Calls Try.prog 45 #[.pointer (some ⟨gm,0,none⟩),.int .u8 k] w fun e w'=>e = .returned (.int .i64 d)∧After w0 w P gm gf vW vA vS vR vB vV F' b vals' w':=by
 unfold mkAny at h
 obtain ⟨AV,cV,rfl⟩:=Kd.R_slice hM.rV
 obtain ⟨c1,c2,c3,c4,c5,c6,c7,c8⟩:=hM.cells
 by_cases hl:vals.length=0
 ·rw [if_pos hl] at h
  have b0:((vals.length:Int)==0)=true:=by rw [hl];rfl
  replace hl:=Aside0.mk hl
  go_enter Try.func45,Try.ntmps45
  go_wp2_with (first | (go_at_call 40;refine (mkAdd_calls (x:=⟨1,0,[],IntKind.u64.wrap (Int.tmod k 2),0⟩) hM (Kd.R_nil _ _ _ _ (fun _=>False)) (fun _ hk=>hk.elim) h).mono ?_;rintro e w' ⟨rfl,hA⟩))
  go_ret
  exact ⟨rfl,hA.mono (fun k hk=>hk.elim id False.elim)⟩
 ·rw [if_neg hl] at h
  split at h
  case isFalse=>exact absurd h (by simp)
  rename_i hi
  injection h with h
  injection h with hF h
  injection h with hv hd
  subst hF hv hd
  have b0:((vals.length:Int)==0)=false:=by simpa using hl
  have b1:((vals.length:Int) != 0)=true:=by simpa using hl
  have b2:¬ (vals = []):=fun e=>hl (by rw [e];rfl)
  obtain ⟨ad,e,hx⟩:=Kd.at_int (Kd.R_reads' hM.rV).2.2 _ hi.1 hi.2
  cases e
  obtain ⟨p0,q0⟩:=hi
  replace p0:=eq_true p0
  replace q0:=eq_true q0
  replace hl:=Aside0.mk hl
  go_enter Try.func45,Try.ntmps45
  try go_wp2
  refine start_ (n:=22) (S:=fun w'=>w'.cell? ⟨gm,2,none⟩=some (.slice (some ad) vals.length cV)∧w'.cell? (ad.add (wrap64 (wrap64 ((vals.length:Int) - 1) - Int.tmod (wrap64 k) (vals.length:Int))).toNat)=some (.int .i64 (rd vals (wrap64 (wrap64 ((vals.length:Int) - 1) - Int.tmod (wrap64 k) (vals.length:Int)))))) (ds:=[]) (bz 22 0) (by kernel_rfl) rfl rfl ⟨(hM.drew.cells.2.2.1),(hx)⟩ (fun hHeld=>?_)
  refine with_tabW mkAny.tab3 mkAny.bits3 (fun HT_ HW_=>?_)
  refine pu_ 0 17 HT_ ?_
  refine pu_ 1 18 HT_ ?_
  refine pu_ 2 19 HT_ ?_
  refine pu_ 4 21 HT_ ?_
  refine pu_ 5 22 HT_ ?_
  refine pu_ 6 23 HT_ ?_
  refine pu_ 10 27 HT_ ?_
  refine pu_ 11 28 HT_ ?_
  refine pu_ 12 29 HT_ ?_
  refine pu_ 13 30 HT_ ?_
  refine pu_ 14 31 HT_ ?_
  refine tk_ 3 20 HT_ HW_ hHeld ?_ (hy:=by rintro w' ⟨s0,s1⟩;go_simp;with_reducible rfl)
  refine tk_ 7 24 HT_ HW_ hHeld ?_ (hy:=by rintro w' ⟨s0,s1⟩;go_simp;with_reducible rfl)
  refine pu_ 8 25 HT_ ?_
  refine pu_ 9 26 HT_ ?_
  refine tk_ 15 32 HT_ HW_ hHeld ?_ (hy:=by rintro w' ⟨s0,s1⟩;go_simp;with_reducible rfl)
  refine pu_ 16 33 HT_ ?_
  refine pu_ 17 34 HT_ ?_
  refine pu_ 18 35 HT_ ?_
  refine pu_ 19 36 HT_ ?_
  refine tk_ 20 37 HT_ HW_ hHeld ?_ (hy:=by rintro w' ⟨s0,s1⟩;go_simp;with_reducible rfl)
  refine pu_ 21 4 HT_ ?_
  refine done_ (done_of HT_.out (by kernel_rfl)) ?_
  try go_wp2
  go_ret
  exact ⟨rfl,After.refl hM.drew⟩
theorem w64m (x:Int) (h0 : -9223372036854775808≤x) (h1:x≤9223372036854775807):wrap64 x=x:=by unfold wrap64;omega
def mkStrL (st:List S80) (out:Bool):Nat→Int→List Int→List Int
 | 0,_,acc=>acc
 | d+1,i,acc=>mkStrL st out d (i+1) (if (rd_T80 st i).f2=out then acc++[i] else acc)
def mkStream (st:List S80) (out:Bool) (k:Int):Option Int:=
 if st.length<17592186044415 then
  if (mkStrL st out st.length 0 []).length=0 then some (-1)
  else if 0≤Int.tmod (wrap64 k) ((mkStrL st out st.length 0 []).length:Int)∧Int.tmod (wrap64 k) ((mkStrL st out st.length 0 []).length:Int)<((mkStrL st out st.length 0 []).length:Int) then
   some (rd (mkStrL st out st.length 0 []) (Int.tmod (wrap64 k) ((mkStrL st out st.length 0 []).length:Int)))
  else none
 else none
set_option maxHeartbeats 8000000 in
set_option maxRecDepth 100000 in
theorem mkStream_calls {w0 w:World} {P:Nat→Prop} {gm gf:Nat} {F:FN} {b d k:Int} {out:Bool} {vals:List Int} {vW vA vS vR vB vV:Value} (hM:MKv w0 w P gm gf F b vals vW vA vS vR vB vV) (h:mkStream F.st out k=some d) :
  Calls Try.prog 46 #[.pointer (some ⟨gm,0,none⟩),.bool out,.int .u8 k] w fun e w'=>e = .returned (.int .i64 d)∧Below w.heap.size w w':=by
 unfold mkStream at h
 split at h
 case isFalse=>exact absurd h (by simp)
 rename_i hst
 obtain ⟨AS,cS,rfl⟩:=Kd.R_slice hM.rS
 generalize hL:mkStrL F.st out F.st.length 0 []=L at h
 replace h:=Aside0.mk h
 go_enter Try.func46,Try.ntmps46
 go_wp2
 go_loopg [7,8] F.st.length (fun kq v7 v8 w'=>∃ (l:List Int) (i:Int),v8 = .int .i64 i∧Aside0 (0≤i∧i+kq=F.st.length∧(l.length:Int)≤i)∧Aside0 (mkStrL F.st out kq i l=L)∧Aside0 (Kd.R (Kd.int .i64) 3 w' w.heap.size (fun _=>True) v7 l)∧Aside0 (Below w.heap.size w w'))
 case atStart=>exact ⟨[],0,rfl,⟨by simp⟩,⟨hL⟩,⟨Kd.R_nil _ _ _ _ _⟩,⟨Below.refl _ _⟩⟩
 case round=>
  obtain ⟨l,i,rfl,HI,HL,HO,HB⟩:=hrel
  obtain ⟨c1,c2,c3,c4,c5,c6,c7,c8⟩:=(hM.below HB.out).cells
  obtain ⟨Al,cl,rfl⟩:=Kd.R_slice HO.out
  by_cases hlt:i<(F.st.length:Int)
  ·have b0:decide (i<(F.st.length:Int))=true:=decide_eq_true hlt
   obtain ⟨kq,rfl⟩:∃ q,gk=q+1:=⟨gk - 1,by have:=HI.out;omega⟩
   obtain ⟨ad,e,x0,x1,x2⟩:=at_T80 (Kd.R_reads' (hM.below HB.out).rS).2.2 i HI.out.1 hlt
   cases e
   have p0:(0≤i)=True:=eq_true HI.out.1
   have q0:(i<(F.st.length:Int))=True:=eq_true hlt
   have hwi:wrap64 (i+1)=i+1:=w64m _ (by have:=HI.out.1;omega) (by omega)
   by_cases hout:(rd_T80 F.st i).f2=out
   ·have b1:((rd_T80 F.st i).f2==out)=true:=by simpa using hout
    have HL':mkStrL F.st out kq (i+1) (l++[i])=L:=by have h_:=HL.out;rw [mkStrL,if_pos hout] at h_;exact h_
    replace hlt:=Aside0.mk hlt
    replace hwi:=Aside0.mk hwi
    replace HL':=Aside0.mk HL'
    replace hout:=Aside0.mk hout
    go_wp2_with (first | ((with_reducible refine gate_builtin (b:=.append) (xs := #[.tmp 34,.tmp 36]) rfl ?_);at_builtin;refine Kd.R_append (Kd.int .i64) (w0:=w) w.heap.size rfl (.tmp 34) (.tmp 36) 29 3 (.int .i64 0) 8 rfl Try.underlying29 info3 rfl (by decide) (by omega) (.slice Al l.length cl) l i [.int .i64 i] (fun _=>True) (fun _=>False) rfl rfl ?aP (fun _ hk=>hk.elim) (fun _ _=>trivial) HO.out HB.out (below_size HB.out) ?aL ?_;(case aP=>exact rfl);(case aL=>have:=HI.out;omega);intro v1 w4 ho hb hg hat;replace ho:=Aside0.mk ho;replace hb:=Aside0.mk hb;clear hg hat))
    go_roundg kq
    case measure=>omega
    case rel=>exact ⟨l++[i],wrap64 (i+1),rfl,⟨by have:=HI.out;rw [hwi.out,List.length_append,List.length_singleton];omega⟩,⟨by rw [hwi.out];exact HL'.out⟩,ho,hb⟩
   ·have b1:((rd_T80 F.st i).f2==out)=false:=by simpa using hout
    have HL':mkStrL F.st out kq (i+1) l=L:=by have h_:=HL.out;rw [mkStrL,if_neg hout] at h_;exact h_
    replace hlt:=Aside0.mk hlt
    replace hwi:=Aside0.mk hwi
    replace HL':=Aside0.mk HL'
    replace hout:=Aside0.mk hout
    go_wp2
    go_roundg kq
    case measure=>omega
    case rel=>exact ⟨l,wrap64 (i+1),rfl,⟨by have:=HI.out;rw [hwi.out];omega⟩,⟨by rw [hwi.out];exact HL'.out⟩,HO,HB⟩
  ·have b0:decide (i<(F.st.length:Int))=false:=decide_eq_false hlt
   have e0:gk=0:=by have:=HI.out;omega
   subst e0
   have eL:l=L:=HL.out
   subst eL
   replace hlt:=Aside0.mk hlt
   replace h:=h.out
   by_cases hl:l.length=0
   ·rw [if_pos hl] at h
    have b1:((l.length:Int)==0)=true:=by rw [hl];rfl
    replace hl:=Aside0.mk hl
    obtain rfl:=Option.some.inj h
    go_wp2
    go_ret
    exact ⟨rfl,HB.out⟩
   ·rw [if_neg hl] at h
    split at h
    case isFalse=>exact absurd h (by simp)
    rename_i hi
    have b1:((l.length:Int)==0)=false:=by simpa using hl
    have b2:((l.length:Int) != 0)=true:=by simpa using hl
    have b3:¬ (l = []):=fun e=>hl (by rw [e];rfl)
    obtain rfl:=Option.some.inj h
    obtain ⟨ad,e,hx⟩:=Kd.at_int (Kd.R_reads' HO.out).2.2 _ hi.1 hi.2
    cases e
    obtain ⟨p0,q0⟩:=hi
    replace p0:=eq_true p0
    replace q0:=eq_true q0
    replace hl:=Aside0.mk hl
    go_wp2
    go_ret
    exact ⟨rfl,HB.out⟩
theorem lit_R (W:World) (base:Nat) (xs:List Int) (hb:base≤W.heap.size) (hm:xs.length≤9223372036854775807):Kd.R (Kd.int .i64) 3 (W.alloc (.cells (nums .i64 xs).toArray 3)) base (fun k=>k=W.heap.size) (.slice (some ⟨W.heap.size,0,none⟩) xs.length xs.length) xs:=
 Kd.R_of_own (own_lit W base 3 .i64 xs hb hm) (fun k e=>by injection e with e;exact e.symm)
theorem After.more {w0 w W W1 W2:World} {P PA:Nat→Prop} {gm gf:Nat} {F F':FN} {b:Int} {vals vals':List Int} {vW vA vS vR vB vV vW' vV':Value} (hM:MKv w0 W (fun k=>P k∨w.heap.size≤k) gm gf F b vals vW' vA vS vR vB vV') (hk:Kept w W (Turn w P gm gf vW vV)) (hW:SameB w vW vW') (hV:SameB w vV vV')
  (hb:Below W.heap.size W W1) (hA:∀ k,PA k→w.heap.size≤k) (h':After w0 W1 (fun k=>((P k∨w.heap.size≤k)∧k<W.heap.size)∨PA k) gm gf vW' vA vS vR vB vV' F' b vals' W2):After w0 w P gm gf vW vA vS vR vB vV F' b vals' W2:=
 After.trans (hk.below hb) hW hV (h'.mono (fun k hk=>hk.elim (fun h=>h.1) (fun h=>.inr (hA k h))))
theorem After.of_below {w0 w W:World} {P:Nat→Prop} {gm gf:Nat} {F:FN} {b:Int} {vals:List Int} {vW vA vS vR vB vV:Value} (h:MKv w0 w P gm gf F b vals vW vA vS vR vB vV) (hb:Below w.heap.size w W):After w0 w P gm gf vW vA vS vR vB vV F b vals W:=
 ⟨vW,vV,(h.below hb).mono (fun _ hk=>.inl hk),Kept.of_below hb _,SameB.refl _ _,SameB.refl _ _⟩
def mkValL (ws vals:List Int) (wd:Int):Nat→List Int→Option (List Int)
 | 0,acc=>some acc
 | d+1,acc=>if 0≤rd vals (d:Int)∧rd vals (d:Int)<(ws.length:Int) then mkValL ws vals wd d (if rd ws (rd vals (d:Int))=wd then acc++[rd vals (d:Int)] else acc) else none
def mkFrom (F:FN) (b:Int) (vals:List Int) (wd k v:Int):Option (FN × List Int × Int):=
 if 0≤v∧v<(F.ws.length:Int) then
  if rd F.ws v=wd then some (F,vals,v)
  else if wd<rd F.ws v then mkAdd F b vals ⟨24,0,[v],0,0⟩ wd
  else if Int.tmod k 2=1 then mkAdd F b vals ⟨23,0,[v],0,0⟩ wd
  else mkAdd F b vals ⟨22,0,[v],0,0⟩ wd
 else none
def mkValue (F:FN) (b:Int) (vals:List Int) (wd k:Int):Option (FN × List Int × Int):=
 if vals.length<17592186044415 then
  (mkValL F.ws vals wd vals.length []).bind fun l=>
   if 0<l.length∧Int.tmod k 8≠7 then
    if 0≤Int.tmod (wrap64 k) (l.length:Int)∧Int.tmod (wrap64 k) (l.length:Int)<(l.length:Int) then some (F,vals,rd l (Int.tmod (wrap64 k) (l.length:Int))) else none
   else (mkAny F b vals k).bind fun r=>mkFrom r.1 b r.2.1 wd k r.2.2
 else none
def mkValue.T5:Bool × List (List Nat × List Nat):=(true,[([],[]),([0],[0]),([1],[1]),([2],[2]),([3],[3]),([4],[4]),([5],[5]),([],[]),([7],[7]),([8],[8]),([9],[9]),([],[]),([10,11],[10,11]),([12],[12]),([6,13],[6,13]),([14],[14]),([],[]),([15,16],[15,16])])
def mkValue.B5:List Nat:=[0,1,3,7,15,31,63,0,128,384,896,0,3968,8064,16383,32767,0,131071]
theorem mkValue.tab5:rtab .any (opsOf Try.f43 5)=mkValue.T5:=by kernel_rfl
theorem mkValue.bits5:waitsOk mkValue.T5.2 mkValue.B5=true:=by kernel_rfl
set_option maxHeartbeats 8000000 in
set_option maxRecDepth 100000 in
theorem mkValue_calls {w0 w:World} {P:Nat→Prop} {gm gf:Nat} {F F':FN} {b d wd k:Int} {vals vals':List Int} {vW vA vS vR vB vV:Value} (hM:MKv w0 w P gm gf F b vals vW vA vS vR vB vV) (h:mkValue F b vals wd k=some (F',vals',d)) :
  Calls Try.prog 43 #[.pointer (some ⟨gm,0,none⟩),.int .i64 wd,.int .u8 k] w fun e w'=>e = .returned (.int .i64 d)∧After w0 w P gm gf vW vA vS vR vB vV F' b vals' w':=by
 unfold mkValue at h
 split at h
 case isFalse=>exact absurd h (by simp)
 rename_i hst
 obtain ⟨L,hL,h⟩:=Option.bind_eq_some_iff.mp h
 replace h:=Aside0.mk h
 obtain ⟨AW,cW,rfl⟩:=Kd.R_slice hM.rW
 obtain ⟨AV,cV,rfl⟩:=Kd.R_slice hM.rV
 obtain ⟨c1,c2,c3,c4,c5,c6,c7,c8⟩:=hM.cells
 go_enter Try.func43,Try.ntmps43
 go_wp2
 go_loopg [7,8] vals.length (fun kq v7 v8 w'=>∃ (l:List Int) (i:Int),v8 = .int .i64 i∧Aside0 (i+1=(kq:Int)∧l.length+kq≤vals.length)∧Aside0 (mkValL F.ws vals wd kq l=some L)∧Aside0 (Kd.R (Kd.int .i64) 3 w' w.heap.size (fun _=>True) v7 l)∧Aside0 (Below w.heap.size w w'))
 case atStart=>exact ⟨[],(vals.length:Int) - 1,rfl,⟨by simp⟩,⟨hL⟩,⟨Kd.R_nil _ _ _ _ _⟩,⟨Below.refl _ _⟩⟩
 case round=>
  clear c1 c2 c3 c4 c5 c6 c7 c8
  obtain ⟨l,i,rfl,HI,HL,HO,HB⟩:=hrel
  have M1:=hM.below HB.out
  by_cases hge:i≥0
  ·have b0:decide (i≥0)=true:=decide_eq_true hge
   obtain ⟨kq,rfl⟩:∃ q,gk=q+1:=⟨gk - 1,by have:=HI.out;omega⟩
   have hik:i=(kq:Int):=by have:=HI.out;omega
   have HL':=HL.out
   rw [mkValL] at HL'
   split at HL'
   case isFalse=>exact absurd HL' (by simp)
   rename_i hr
   rw [← hik] at hr HL'
   have hil:i<(vals.length:Int):=by have:=HI.out;omega
   obtain ⟨ad,e,x0⟩:=Kd.at_int (Kd.R_reads' M1.drew.rV).2.2 i hge hil
   cases e
   obtain ⟨ad2,e,x1⟩:=Kd.at_int (Kd.R_reads' M1.drew.rW).2.2 (rd vals i) hr.1 hr.2
   cases e
   have p0:(0≤i)=True:=eq_true hge
   have q0:(i<(vals.length:Int))=True:=eq_true hil
   have p1:(0≤rd vals i)=True:=eq_true hr.1
   have q1:(rd vals i<(F.ws.length:Int))=True:=eq_true hr.2
   have hwi:wrap64 (i - 1)=i - 1:=w64m _ (by omega) (by omega)
   replace hwi:=Aside0.mk hwi
   replace hge:=Aside0.mk hge
   replace hil:=Aside0.mk hil
   replace hik:=Aside0.mk hik
   replace hr:=Aside0.mk hr
   try go_wp2
   refine start_ (n:=18) (S:=fun w'=>w'.cell? ⟨gm,0,none⟩=some (.pointer (some ⟨gf,0,none⟩))∧w'.cell? ⟨gf,1,none⟩=some (.slice (some ad2) F.ws.length cW)∧w'.cell? ⟨gm,2,none⟩=some (.slice (some ad) vals.length cV)∧w'.cell? (ad.add i.toNat)=some (.int .i64 (rd vals i))∧w'.cell? (ad2.add (rd vals i).toNat)=some (.int .i64 (rd F.ws (rd vals i)))) (ds:=[]) (bz 18 0) (by kernel_rfl) rfl rfl ⟨(M1.drew.cells.1),(M1.drew.cells.2.2.2.1),(M1.drew.cells.2.2.1),(x0),(x1)⟩ (fun hHeld=>?_)
   refine with_tabW mkValue.tab5 mkValue.bits5 (fun HT_ HW_=>?_)
   have HO2:=Aside0.mk (Kd.R_drew HO.out)
   have HB2:=Aside0.mk (below_drew1 HB.out)
   have M2:=M1.drew
   generalize wr.drew=w2 at hHeld HO2 HB2 M2 x0 x1 ⊢
   refine pu_ 0 21 HT_ ?_
   refine pu_ 1 22 HT_ ?_
   refine pu_ 2 23 HT_ ?_
   refine pu_ 7 28 HT_ ?_
   refine pu_ 8 29 HT_ ?_
   refine pu_ 9 30 HT_ ?_
   refine pu_ 11 32 HT_ ?_
   refine pu_ 16 37 HT_ ?_
   refine tk_ 3 24 HT_ HW_ hHeld ?_ (hy:=by rintro w' ⟨s0,s1,s2,s3,s4⟩;go_simp;with_reducible rfl)
   refine pu_ 4 25 HT_ ?_
   refine pu_ 5 26 HT_ ?_
   refine tk_ 6 27 HT_ HW_ hHeld ?_ (hy:=by rintro w' ⟨s0,s1,s2,s3,s4⟩;go_simp;with_reducible rfl)
   refine tk_ 10 31 HT_ HW_ hHeld ?_ (hy:=by rintro w' ⟨s0,s1,s2,s3,s4⟩;go_simp;with_reducible rfl)
   refine pu_ 12 33 HT_ ?_
   refine tk_ 13 34 HT_ HW_ hHeld ?_ (hy:=by rintro w' ⟨s0,s1,s2,s3,s4⟩;go_simp;with_reducible rfl)
   refine pu_ 14 35 HT_ ?_
   refine tk_ 15 36 HT_ HW_ hHeld ?_ (hy:=by rintro w' ⟨s0,s1,s2,s3,s4⟩;go_simp;with_reducible rfl)
   refine pu_ 17 38 HT_ ?_
   refine done_ (done_of HT_.out (by kernel_rfl)) ?_
   clear hHeld
   by_cases hq:rd F.ws (rd vals i)=wd
   ·have b1:(rd F.ws (rd vals i)==wd)=true:=by simpa using hq
    rw [if_pos hq] at HL'
    replace hq:=Aside0.mk hq
    obtain ⟨Al,cl,rfl⟩:=Kd.R_slice HO2.out
    obtain ⟨c1,c2,c3,c4,c5,c6,c7,c8⟩:=M2.cells
    go_wp2_with (first | ((with_reducible refine gate_builtin (b:=.append) (xs := #[.tmp 39,.tmp 47]) rfl ?_);at_builtin;refine Kd.R_append (Kd.int .i64) (w0:=w) w.heap.size rfl (.tmp 39) (.tmp 47) 29 3 (.int .i64 0) 8 rfl Try.underlying29 info3 rfl (by decide) (by omega) (.slice Al l.length cl) l (rd vals i) [.int .i64 (rd vals i)] (fun _=>True) (fun _=>False) rfl rfl ?aP (fun _ hk=>hk.elim) (fun _ _=>trivial) HO2.out HB2.out (below_size HB2.out) ?aL ?_;(case aP=>exact rfl);(case aL=>have:=HI.out;omega);intro v1 w4 ho hb hg hat;replace ho:=Aside0.mk ho;replace hb:=Aside0.mk hb;clear hg hat))
    go_roundg kq
    case measure=>omega
    case rel=>exact ⟨l++[rd vals i],wrap64 (i - 1),rfl,⟨by have:=HI.out;rw [hwi.out,List.length_append,List.length_singleton];omega⟩,⟨HL'⟩,ho,hb⟩
   ·have b1:(rd F.ws (rd vals i)==wd)=false:=by simpa using hq
    rw [if_neg hq] at HL'
    replace hq:=Aside0.mk hq
    obtain ⟨c1,c2,c3,c4,c5,c6,c7,c8⟩:=M2.cells
    go_wp2
    go_roundg kq
    case measure=>omega
    case rel=>exact ⟨l,wrap64 (i - 1),rfl,⟨by have:=HI.out;rw [hwi.out];omega⟩,⟨HL'⟩,HO2,HB2⟩
  ·have b0:decide (i≥0)=false:=decide_eq_false hge
   have e0:gk=0:=by have:=HI.out;omega
   subst e0
   have eL:l=L:=Option.some.inj HL.out
   subst eL
   replace hge:=Aside0.mk hge
   replace h:=h.out
   obtain ⟨Al,cl,rfl⟩:=Kd.R_slice HO.out
   by_cases hl:0<l.length∧Int.tmod k 8≠7
   ·rw [if_pos hl] at h
    split at h
    case isFalse=>exact absurd h (by simp)
    rename_i hi
    have b1:decide (0<l.length)=true:=decide_eq_true hl.1
    have b1':decide ((0:Int)<(l.length:Int))=true:=decide_eq_true (by omega)
    have b1'':decide ((l.length:Int)>(0:Int))=true:=decide_eq_true (by omega)
    have b2:(Int.tmod k 8 != 7)=true:=by simpa using hl.2
    have b3:((l.length:Int)==0)=false:=by simpa using (by omega:¬ (l.length:Int)=0)
    have b4:((l.length:Int) != 0)=true:=by simpa using (by omega:¬ (l.length:Int)=0)
    have b5:¬ (l = []):=fun e=>by have:=hl.1;rw [e] at this;exact absurd this (by simp)
    injection h with h
    injection h with hF h
    injection h with hv hd
    subst hF hv hd
    obtain ⟨ad,e,hx⟩:=Kd.at_int (Kd.R_reads' HO.out).2.2 _ hi.1 hi.2
    cases e
    obtain ⟨p0,q0⟩:=hi
    replace p0:=eq_true p0
    replace q0:=eq_true q0
    replace hl:=Aside0.mk hl
    go_wp2
    go_ret
    exact ⟨rfl,After.of_below hM HB.out⟩
   ·rw [if_neg hl] at h
    obtain ⟨⟨F1,vals1,v⟩,hAny,hFrom⟩:=Option.bind_eq_some_iff.mp h
    clear h
    have hc:decide ((l.length:Int)>(0:Int))=false∧decide (0<l.length)=false∨(decide ((l.length:Int)>(0:Int))=true∧decide (0<l.length)=true)∧(Int.tmod k 8 != 7)=false:=by
     by_cases h0:0<l.length
     ·refine .inr ⟨⟨decide_eq_true (by omega),decide_eq_true h0⟩,?_⟩
      by_cases h7:Int.tmod k 8=7
      ·rw [h7];rfl
      ·exact absurd ⟨h0,h7⟩ hl
     ·exact .inl ⟨decide_eq_false (by omega),decide_eq_false h0⟩
    have M3:=(hM.below HB.out).mono (P':=fun k=>P k∨w.heap.size≤k) (fun _ hk=>.inl hk)
    replace hl:=Aside0.mk hl
    rcases hc with ⟨b1,b2⟩ | ⟨⟨b1,b2⟩,b3⟩ <;> (
     go_upto_region 10 with (first | (go_at_call 45;refine (mkAny_calls M3 hAny).mono ?_;rintro e w5 ⟨rfl,hA⟩))
     obtain ⟨vW1,vV1,M5,K5,S5,T5⟩:=hA
     have K0:Kept w wr (Turn w P gm gf (.slice AW F.ws.length cW) (.slice AV vals.length cV)):=Kept.of_below HB.out _
     replace K5:=K0.then_ K5 (Turn.trans (fun _ h=>h) K0 (SameB.refl _ _) (SameB.refl _ _))
     replace S5:=(SameB.refl w (.slice AW F.ws.length cW)).trans S5 K0.1
     replace T5:=(SameB.refl w (.slice AV vals.length cV)).trans T5 K0.1
     replace M5:=M5.mono (P':=fun k=>P k∨w.heap.size≤k) (fun k hk=>hk.elim id (fun h=>.inr (Nat.le_trans K0.1 h)))
     clear M3 K0
     unfold mkFrom at hFrom
     split at hFrom
     case isFalse=>exact absurd hFrom (by simp)
     rename_i hr
     obtain ⟨AW1,cW1,rfl⟩:=Kd.R_slice M5.rW
     obtain ⟨ad,e,x0⟩:=Kd.at_int (Kd.R_reads' M5.rW).2.2 v hr.1 hr.2
     cases e
     have p0:(0≤v)=True:=eq_true hr.1
     have q0:(v<(F1.ws.length:Int))=True:=eq_true hr.2
     obtain ⟨c1,c2,c3,c4,c5,c6,c7,c8⟩:=M5.cells
     replace hr:=Aside0.mk hr
     have hX:=lit_R w5 w0.heap.size [v] M5.ge (by show 1≤_;omega)
     have hM6:=M5.bound.alloc (.cells (nums .i64 [v]).toArray 3)
     have hPX:∀ k,k=w5.heap.size→¬ ((P k∨w.heap.size≤k)∧k<w5.heap.size):=fun k e h=>by have:=h.2;omega
     have hge5:=K5.1
     by_cases hq:rd F1.ws v=wd
     ·rw [if_pos hq] at hFrom
      have d1:(rd F1.ws v==wd)=true:=by simpa using hq
      replace hq:=Aside0.mk hq
      injection hFrom with hFrom
      injection hFrom with hF hFrom
      injection hFrom with hv hd
      subst hF hv hd
      go_wp2
      go_ret
      exact ⟨rfl,_,_,M5,K5,S5,T5⟩
     ·rw [if_neg hq] at hFrom
      have d1:(rd F1.ws v==wd)=false:=by simpa using hq
      replace hq:=Aside0.mk hq
      by_cases hq2:wd<rd F1.ws v
      ·rw [if_pos hq2] at hFrom
       have d2:decide (rd F1.ws v>wd)=true:=decide_eq_true hq2
       replace hq2:=Aside0.mk hq2
       go_wp2_with (first | (go_at_call 40;refine (mkAdd_calls (x:=⟨24,0,[v],0,0⟩) hM6 hX hPX hFrom).mono ?_;rintro e w7 ⟨rfl,hB⟩))
       go_ret
       exact ⟨rfl,After.more M5 K5 S5 T5 (below_alloc (Below.refl _ _) _) (fun k e=>by omega) hB⟩
      ·rw [if_neg hq2] at hFrom
       have d2:decide (rd F1.ws v>wd)=false:=decide_eq_false hq2
       replace hq2:=Aside0.mk hq2
       by_cases hq3:Int.tmod k 2=1
       ·rw [if_pos hq3] at hFrom
        have d3:(Int.tmod k 2==1)=true:=by simpa using hq3
        replace hq3:=Aside0.mk hq3
        go_wp2_with (first | (go_at_call 40;refine (mkAdd_calls (x:=⟨23,0,[v],0,0⟩) hM6 hX hPX hFrom).mono ?_;rintro e w7 ⟨rfl,hB⟩))
        go_ret
        exact ⟨rfl,After.more M5 K5 S5 T5 (below_alloc (Below.refl _ _) _) (fun k e=>by omega) hB⟩
       ·rw [if_neg hq3] at hFrom
        have d3:(Int.tmod k 2==1)=false:=by simpa using hq3
        replace hq3:=Aside0.mk hq3
        go_wp2_with (first | (go_at_call 40;refine (mkAdd_calls (x:=⟨22,0,[v],0,0⟩) hM6 hX hPX hFrom).mono ?_;rintro e w7 ⟨rfl,hB⟩))
        go_ret
        exact ⟨rfl,After.more M5 K5 S5 T5 (below_alloc (Below.refl _ _) _) (fun k e=>by omega) hB⟩)
theorem MKv.not_turn {w0 w:World} {P:Nat→Prop} {gm gf g t:Nat} {F:FN} {b:Int} {vals:List Int} {vW vA vS vR vB vV:Value} {cs:Array Value} (hM:MKv w0 w P gm gf F b vals vW vA vS vR vB vV) (hb:w.heap[g]? = some (.cells cs t (0,0))) (h1:t≠84) (h2:t≠34) (h3:t≠3) (h4:t≠53) (h5:t≠72):¬ Turn w P gm gf vW vV g:=by
 have go:∀ {t':Nat} {cs':Array Value},w.heap[g]? = some (.cells cs' t' (0,0))→t'=t:=by
  intro t' cs' h
  rw [hb] at h
  injection h with h
  injection h with _ h
  exact h.symm
 rintro ⟨-,rfl | rfl | e | e | ⟨cs',h⟩ | ⟨cs',h⟩⟩
 ·exact h1 (go hM.hm).symm
 ·exact h2 (go hM.hf).symm
 ·obtain ⟨cs',h⟩:=Kd.R_typed hM.rW g e.symm;exact h3 (go h).symm
 ·obtain ⟨cs',h⟩:=Kd.R_typed hM.rV g e.symm;exact h3 (go h).symm
 ·exact h4 (go h).symm
 ·exact h5 (go h).symm
theorem MKv.not_turn_int {w0 w:World} {P:Nat→Prop} {gm gf g:Nat} {F:FN} {b:Int} {vals:List Int} {vW vA vS vR vB vV:Value} {cs:Array Value} (hM:MKv w0 w P gm gf F b vals vW vA vS vR vB vV) (hb:w.heap[g]? = some (.cells cs 3 (0,0))) (h1:some g≠vW.ownBlock) (h2:some g≠vV.ownBlock):¬ Turn w P gm gf vW vV g:=by
 have go:∀ {t':Nat} {cs':Array Value},w.heap[g]? = some (.cells cs' t' (0,0))→t'=3:=by
  intro t' cs' h
  rw [hb] at h
  injection h with h
  injection h with _ h
  exact h.symm
 rintro ⟨-,rfl | rfl | e | e | ⟨cs',h⟩ | ⟨cs',h⟩⟩
 ·exact absurd (go hM.hm) (by decide)
 ·exact absurd (go hM.hf) (by decide)
 ·exact h1 e
 ·exact h2 e
 ·exact absurd (go h) (by decide)
 ·exact absurd (go h) (by decide)
theorem MKv.beside {w0 W W1:World} {P:Nat→Prop} {gm gf:Nat} {F:FN} {b:Int} {vals:List Int} {vW vA vS vR vB vV v:Value} (h:MKv w0 W P gm gf F b vals vW vA vS vR vB vV) (hg:W.grownBy W1 v.ownBlock) (hP:∀ k,P k→k<W.heap.size→some k≠v.ownBlock) (hb:∀ k,v.ownBlock=some k→w0.heap.size≤k) :
  MKv w0 W1 (fun k=>P k∧k<W.heap.size) gm gf F b vals vW vA vS vR vB vV:=
 h.bound.move (fun k hk hl=>hg.block k hl (hP k hk.1 hl)) (pw_below_grown h.hB v.ownBlock h.ge hg hb)
def mkEdgeL (b:Int) (p:List Int) (k:Int):Nat→Int→FN→List Int→List Int→Option (FN × List Int × List Int)
 | 0,_,F,vals,acc=>some (F,vals,acc)
 | d+1,i,F,vals,acc=>
  if 0≤rd p i∧rd p i<(F.ws.length:Int) then
   (mkValue F b vals (rd F.ws (rd p i)) ((k+(wrap64 (3*i)) % 256) % 256)).bind fun r=>mkEdgeL b p k d (i+1) r.1 r.2.1 (acc++[r.2.2])
  else none
def mkEdge (F:FN) (b:Int) (vals:List Int) (tb k:Int):Option (FN × List Int × S111):=
 if 0≤tb∧tb<(F.bl.length:Int)∧(rd_T53 F.bl tb).f0.length<17592186044415 then
  (mkEdgeL b (rd_T53 F.bl tb).f0 k (rd_T53 F.bl tb).f0.length 0 F vals []).bind fun r=>some (r.1,r.2.1,⟨tb,r.2.2⟩)
 else none
def mkEdge.T6:Bool × List (List Nat × List Nat):=(true,[([],[]),([0],[0]),([],[]),([],[]),([3],[3]),([4],[4]),([5],[5]),([6],[6]),([7],[7]),([8],[8]),([],[]),([],[]),([10,11],[10,11]),([12],[12]),([9,13],[9,13]),([14],[14]),([],[]),([],[]),([17],[17]),([18],[18]),([16,19],[16,19]),([2,15,20],[2,15,20]),([21],[21]),([1,22,21],[1,22]),([0,1,2,3,4,5,6,7,8,9,10,11,12,13,14,15,16,17,18,19,20,21,22,23],[]),([24,23,23,0,1,2,3,4,5,6,7,8,9,10,11,12,13,14,15,16,17,18,19,20,21,22,23],[23,24])])
def mkEdge.B6:List Nat:=[0,1,0,0,8,24,56,120,248,504,0,0,3072,7168,16376,32760,0,0,131072,393216,983040,2097148,4194300,8388607,16777215,33554431]
theorem mkEdge.tab6:rtab .any (opsOf Try.f47 6)=mkEdge.T6:=by kernel_rfl
theorem mkEdge.bits6:waitsOk mkEdge.T6.2 mkEdge.B6=true:=by kernel_rfl
set_option maxHeartbeats 8000000 in
set_option maxRecDepth 100000 in
theorem mkEdge_calls {w0 w:World} {P:Nat→Prop} {gm gf:Nat} {F F':FN} {b tb k:Int} {vals vals':List Int} {vW vA vS vR vB vV:Value} {x:S111} (hM:MKv w0 w P gm gf F b vals vW vA vS vR vB vV) (h:mkEdge F b vals tb k=some (F',vals',x)) :
  Calls Try.prog 47 #[.pointer (some ⟨gm,0,none⟩),.int .i64 tb,.int .u8 k] w fun e w'=>∃ vE vW' vV',e = .returned (.agg #[.int .i64 x.f0,vE])∧MKv w0 w' (fun k=>(P k∨w.heap.size≤k)∧some k≠vE.ownBlock) gm gf F' b vals' vW' vA vS vR vB vV' ∧
   Kept w w' (Turn w P gm gf vW vV)∧SameB w vW vW'∧SameB w vV vV'∧Kd.R (Kd.int .i64) 3 w' w.heap.size (fun k=>some k=vE.ownBlock) vE x.f1:=by
 unfold mkEdge at h
 split at h
 case isFalse=>exact absurd h (by simp)
 rename_i hc
 obtain ⟨h0,h1,hlim⟩:=hc
 obtain ⟨⟨F1,vals1,args⟩,hL,h⟩:=Option.bind_eq_some_iff.mp h
 injection h with h
 injection h with hF h
 injection h with hv hx
 subst hF hv hx
 obtain ⟨gB,cap,oki,v0,v1,v4,v5,rfl,hcc,r0,r1,r4,r5,hok,⟨csB,tB⟩,hfr,hH⟩:=hM.lend h0 h1
 obtain ⟨A0,c0,rfl⟩:=Kd.R_slice r0
 generalize hp:(rd_T53 F.bl tb).f0=p at *
 have rp:=Kd.R_tight rfl r0
 have hpt:∀ q,some q=(Value.slice A0 p.length c0).ownBlock→¬ Turn w P gm gf vW vV q:=fun q e=>by
  obtain ⟨cs,hc⟩:=Kd.R_typed r0 q e.symm
  exact hM.not_turn_int hc (hok q (r0.1 q e.symm)).1.1.2 (hok q (r0.1 q e.symm)).1.2
 have x0:=hcc 0 _ rfl
 rw [Nat.add_zero] at x0
 have bd0:(0≤tb)=True:=eq_true h0
 have bd1:(tb<(F.bl.length:Int))=True:=eq_true h1
 obtain ⟨c1,c2,c3,c4,c5,c6,c7,c8⟩:=hM.cells
 clear hcc r0 r1 r4 r5 hok tB hfr hH
 replace hL:=Aside0.mk hL
 go_enter Try.func47,Try.ntmps47
 go_upto_region 2 with (first | ((with_reducible refine gate_dst (N:=6) rfl ?_);refine box_event ?hg (N:=6) ?hd (cs := #[.int .i64 0,.slice none 0 0]) (t:=111) ?hr ?_;(case hd=>rfl);(case hg=>rfl);(case hr=>first | (go_simp;done) | (go_simp;rfl));intro g6 hg6 w6 hbox6 hb6;replace hg6:=Aside0.mk hg6;replace hbox6:=Aside0.mk hbox6) | ((with_reducible refine gate_dst (N:=7) rfl ?_);refine box_event ?hg (N:=7) ?hd (cs := #[.int .i64 0,.slice none 0 0]) (t:=111) ?hr ?_;(case hd=>rfl);(case hg=>rfl);(case hr=>first | (go_simp;done) | (go_simp;rfl));intro g7 hg7 w7 hbox7 hb7;replace hg7:=Aside0.mk hg7;have d1:=blk_frozen hbox7 0;have d2:w7.cell? ⟨g7,0,none⟩=some (.int .i64 0):=(blk_cell hbox7 0).trans rfl;have d3:=blk_frozen hbox7 1;have d4:w7.cell? ⟨g7,1,none⟩=some (.slice none 0 0):=(blk_cell hbox7 1).trans rfl;replace hbox7:=Aside0.mk hbox7))
 have M0:=hM.bound
 have M8:=(((M0.below hb6).below hb7).far (g:=g7) (j:=0) (fun hk=>by have:=hg7.out;have:=hb6.size;omega) (by rw [hg7.out];exact Nat.le_trans hM.ge hb6.size) (.int .i64 tb)).far (g:=g7) (j:=1) (fun hk=>by have:=hg7.out;have:=hb6.size;omega) (by rw [hg7.out];exact Nat.le_trans hM.ge hb6.size) (.slice none 0 0)
 have n67:g6≠g7:=by have:=blk_lt hbox6.out;have:=hg7.out;omega
 have b6:=blk_far (blk_far (blk_below hbox6.out hb7) (p:=⟨g7,0,none⟩) n67 (.int .i64 tb)) (p:=⟨g7,1,none⟩) n67 (.slice none 0 0)
 have b7:=blk_put (blk_put hbox7.out 0 (.int .i64 tb) rfl) 1 (.slice none 0 0) rfl
 have K8:Kept w _ (Turn w P gm gf vW vV):=Kept.setCell (Kept.setCell ((Kept.of_below hb6 _).below hb7) (p:=⟨g7,0,none⟩) (.inr (by rw [hg7.out];exact hb6.size)) (.int .i64 tb)) (p:=⟨g7,1,none⟩) (.inr (by rw [hg7.out];exact hb6.size)) (.slice none 0 0)
 have x8:=(cell_far (p:=⟨g7,1,none⟩) (a:=⟨gB,tb.toNat*9,none⟩) (by have h1:=World.block_lt_of_cell? _ _ x0;have h2:=hb6.size;have h3:=hg7.out;show gB≠g7;simp only at h1;omega) (.slice none 0 0)).trans ((cell_far (p:=⟨g7,0,none⟩) (a:=⟨gB,tb.toNat*9,none⟩) (by have h1:=World.block_lt_of_cell? _ _ x0;have h2:=hb6.size;have h3:=hg7.out;show gB≠g7;simp only at h1;omega) (.int .i64 tb)).trans (pw_cell_below hb7 (pw_cell_below hb6 x0)))
 have hl6:w.heap.size≤g6:=Nat.le_of_eq hg6.out.symm
 have hl7:w.heap.size≤g7:=by rw [hg7.out];exact hb6.size
 clear c1 c2 c3 c4 c5 c6 c7 c8 d1 d2 d3 d4 x0
 generalize (w7.setCell ⟨g7,0,none⟩ (.int .i64 tb)).setCell ⟨g7,1,none⟩ (.slice none 0 0)=w8 at M8 b6 b7 K8 x8 ⊢
 clear hbox6 hbox7 hb6 hb7
 obtain ⟨c1,c2,c3,c4,c5,c6,c7,c8⟩:=M8.cells
 go_wp2
 clear c1 c2 c3 c4 c5 c6 c7 c8
 go_loopg [9] p.length (fun kq v9 w'=>∃ (i:Int) (Fi:FN) (vi acc:List Int) (aW aV vE:Value),v9 = .int .i64 i∧Aside0 (0≤i∧i+kq=p.length∧(acc.length:Int)=i)∧Aside0 (mkEdgeL b p k kq i Fi vi acc=some (F1,vals1,args))∧Aside0 (MKv w0 w' (fun q=>(P q∨w.heap.size≤q)∧some q≠vE.ownBlock∧q≠g6∧q≠g7) gm gf Fi b vi aW vA vS vR (.slice (some ⟨gB,0,none⟩) F.bl.length cap) aV)∧Aside0 (Kept w w' (Turn w P gm gf vW vV))∧Aside0 (SameB w vW aW)∧Aside0 (SameB w vV aV) ∧
  Aside0 (Kd.R (Kd.int .i64) 3 w' w.heap.size (fun q=>some q=vE.ownBlock) vE acc)∧Aside0 (w'.heap[g6]? = some (.cells #[.int .i64 0,.slice none 0 0] 111 (0,0)))∧Aside0 (w'.heap[g7]? = some (.cells #[.int .i64 tb,vE] 111 (0,0))))
 case atStart=>exact ⟨0,F,vals,[],_,_,.slice none 0 0,rfl,⟨by simp⟩,hL,⟨M8.mono (fun q hq=>⟨.inl hq.1,by simp [Value.ownBlock],by omega,by omega⟩)⟩,⟨K8⟩,⟨SameB.refl _ _⟩,⟨SameB.refl _ _⟩,⟨Kd.R_nil _ _ _ _ _⟩,⟨b6⟩,⟨b7⟩⟩
 case round=>
  clear x8
  obtain ⟨i,Fi,vi,acc,aW,aV,vE,rfl,HI,HL,HM,HK,HS,HT,HO,HX6,HX7⟩:=hrel
  have RP:=Kd.R_kept rp HK.out (fun q e=>hpt q e)
  by_cases hlt:i<(p.length:Int)
  ·have e0:decide (i<(p.length:Int))=true:=decide_eq_true hlt
   obtain ⟨kq,rfl⟩:∃ q,gk=q+1:=⟨gk - 1,by have:=HI.out;omega⟩
   have HL':=HL.out
   rw [mkEdgeL] at HL'
   split at HL'
   case isFalse=>exact absurd HL' (by simp)
   rename_i hr
   obtain ⟨⟨F2,vals2,x2⟩,hval,HL'⟩:=Option.bind_eq_some_iff.mp HL'
   obtain ⟨AE,cE,rfl⟩:=Kd.R_slice HO.out
   obtain ⟨AW,cW,rfl⟩:=Kd.R_slice HM.out.rW
   have MD:=HM.out.drew
   obtain ⟨ad,e,xp⟩:=Kd.at_int (Kd.R_reads' (Kd.R_drew RP)).2.2 i HI.out.1 hlt
   cases e
   obtain ⟨ad2,e,xw⟩:=Kd.at_int (Kd.R_reads' MD.rW).2.2 (rd p i) hr.1 hr.2
   cases e
   have p0:(0≤i)=True:=eq_true HI.out.1
   have q0:(i<(p.length:Int))=True:=eq_true hlt
   have p1:(0≤rd p i)=True:=eq_true hr.1
   have q1:(rd p i<(Fi.ws.length:Int))=True:=eq_true hr.2
   have hwi:wrap64 (i+1)=i+1:=w64m _ (by have:=HI.out.1;omega) (by omega)
   replace hwi:=Aside0.mk hwi
   replace hlt:=Aside0.mk hlt
   replace hr:=Aside0.mk hr
   try go_wp2
   refine start_ (n:=26) (S:=fun w'=>w'.cell? ⟨gm,0,none⟩=some (.pointer (some ⟨gf,0,none⟩))∧w'.cell? ⟨g7,1,none⟩=some (.slice AE acc.length cE)∧w'.cell? (ad.add i.toNat)=some (.int .i64 (rd p i))) (ds:=[25]) (bz 26 0) (by kernel_rfl) rfl rfl ⟨(MD.cells.1),((blk_cell (blk_drew HX7.out) 1).trans rfl),(xp)⟩ (fun hHeld=>?_)
   refine with_tabW mkEdge.tab6 mkEdge.bits6 (fun HT_ HW_=>?_)
   have HO2:=Kd.R_drew HO.out
   have HX62:=blk_drew HX6.out
   have HX72:=blk_drew HX7.out
   have HK2:=HK.out.drew
   have RP2:=Kd.R_drew RP
   have c4:=MD.cells.2.2.2.1
   generalize wr.drew=w2 at hHeld MD HO2 HX62 HX72 HK2 RP2 xp xw c4 ⊢
   refine pu_ 0 29 HT_ ?_
   refine pu_ 2 31 HT_ ?_
   refine pu_ 3 32 HT_ ?_
   refine pu_ 4 33 HT_ ?_
   refine pu_ 5 34 HT_ ?_
   refine pu_ 10 39 HT_ ?_
   refine pu_ 11 40 HT_ ?_
   refine pu_ 12 41 HT_ ?_
   refine pu_ 16 45 HT_ ?_
   refine pu_ 17 46 HT_ ?_
   refine pu_ 18 47 HT_ ?_
   refine pu_ 19 48 HT_ ?_
   refine pu_ 20 49 HT_ ?_
   refine tk_ 1 30 HT_ HW_ hHeld ?_ (hy:=by rintro w' ⟨s0,s1,s2⟩;go_simp;with_reducible rfl)
   refine tk_ 6 35 HT_ HW_ hHeld ?_ (hy:=by rintro w' ⟨s0,s1,s2⟩;go_simp;with_reducible rfl)
   refine pu_ 7 36 HT_ ?_
   refine pu_ 8 37 HT_ ?_
   refine tk_ 13 42 HT_ HW_ hHeld ?_ (hy:=by rintro w' ⟨s0,s1,s2⟩;go_simp;with_reducible rfl)
   refine on_ 9 (some 38) HT_ (fun K hK=>?_)
   refine value_ (w1:=?_) (v:=?_) (by rfl) rfl ?_ ?_;rotate_left 2;(go_simp;constructor);(rfl);(rfl)
   refine hK.out _ _ ⟨hHeld.1,hHeld.2.1,hHeld.2.2⟩ (fun hHeld=>?_);clear hK K
   refine no_ 38 ?_
   refine pu_ 14 43 HT_ ?_
   refine on_ 15 (some 44) HT_ (fun K hK=>?_)
   refine value_ (w1:=?_) (v:=?_) (by rfl) rfl ?_ ?_;rotate_left 2;(go_simp;constructor);(rfl);(rfl)
   refine hK.out _ _ ⟨hHeld.1,hHeld.2.1,hHeld.2.2⟩ (fun hHeld=>?_);clear hK K
   refine no_ 44 ?_
   refine on_ 21 (some 50) HT_ (fun K hK=>?_)
   refine gs_ Try.func43 #[.pointer (some ⟨gm,0,none⟩),.int .i64 (rd Fi.ws (rd p i)),.int .u8 ((k+(wrap64 (3*i)) % 256) % 256)] ?_
   refine (mkValue_calls MD hval).mono ?_
   rintro e w5 ⟨rfl,hA⟩
   refine ⟨_,rfl,?_⟩
   obtain ⟨bW,bV,M5,K5,S5,T5⟩:=hA
   have X65:=blk_kept HX62 K5 (MD.not_turn HX62 (by decide) (by decide) (by decide) (by decide) (by decide))
   have X75:=blk_kept HX72 K5 (MD.not_turn HX72 (by decide) (by decide) (by decide) (by decide) (by decide))
   have O5:=Kd.R_kept HO2 K5 (fun q e=>by obtain ⟨cs,hc⟩:=Kd.R_typed HO2 q e.symm;exact MD.not_turn_int hc (fun e'=>(MD.rW.1 q e'.symm).1.2.1 e) (fun e'=>(MD.rV.1 q e'.symm).1.2.1 e))
   have K5w:=HK2.then_ K5 (Turn.trans (fun k hk=>hk.1) HK2 HS.out HT.out)
   have RP5:=Kd.R_kept rp K5w (fun q e=>hpt q e)
   have S5w:=HS.out.trans S5 HK2.1
   have T5w:=HT.out.trans T5 HK2.1
   obtain ⟨ad',e',xp5⟩:=Kd.at_int (Kd.R_reads' RP5).2.2 i HI.out.1 hlt.out
   cases e'
   refine hK.out _ _ ⟨M5.cells.1,(blk_cell X75 1).trans rfl,xp5⟩ (fun hHeld=>?_);clear hK K
   refine no_ 50 ?_
   refine on_ 22 (some 51) HT_ (fun K hK=>?_)
   refine value_ (w1:=?_) (v:=?_) (by rfl) rfl ?_ ?_;rotate_left 2;(go_simp;constructor);(rfl);(rfl)
   refine hK.out _ _ ⟨(M5.alloc _).cells.1,(blk_cell (blk_alloc X75 _) 1).trans rfl,pw_cell_below (below_alloc (Below.refl _ _) _) xp5⟩ (fun hHeld=>?_);clear hK K
   refine no_ 51 ?_
   refine on_ 23 (some 52) HT_ (fun K hK=>?_)
   refine Kd.R_append_step (Kd.int .i64) (w0:=w5) w.heap.size (by rfl) (.tmp 30) (.tmp 51) 29 3 (.int .i64 0) 8 rfl Try.underlying29 info3 rfl (by decide) (by omega) (.slice AE acc.length cE) acc x2 [.int .i64 x2] (fun q=>some q=(Value.slice AE acc.length cE).ownBlock∨w5.heap.size≤q) (fun _=>False) rfl rfl ?aP (fun _ hk=>hk.elim) (fun q hq=>.inr hq) (Kd.R_mono O5 (fun q hq=>.inl hq)) (Below.refl _ _) K5w.1 ?aL ?_
   (case aP=>exact rfl)
   (case aL=>have:=HI.out;have:=hlt.out;omega)
   intro v9 w9 ho hb hg hat
   obtain ⟨A9,c9,e9⟩:=Kd.R_slice ho
   rw [List.length_append,List.length_singleton] at e9
   subst e9
   have m9:=blk_grown M5.hm hg (Kd.R_ne O5 M5.hm (by decide))
   have X79:=blk_grown X75 hg (Kd.R_ne O5 X75 (by decide))
   have xp9:=hg.cell xp5 (fun e=>by rw [add_block] at e;have h1:ad.block<w.heap.size:=Kd.R_lt rp _ rfl;have h2:w.heap.size≤ad.block:=Kd.R_base O5 _ e.symm;omega)
   refine hK.out _ _ ⟨(blk_cell m9 0).trans rfl,(blk_cell X79 1).trans rfl,xp9⟩ (fun hHeld=>?_);clear hK K
   refine no_ 52 ?_
   refine pu_ 24 53 HT_ ?_
   refine la_ 25 none HT_ (fun K hK=>?_)
   have s1:=blk_frozen X79 1
   have s2:w9.cell? ⟨g7,1,none⟩=some (.slice AE acc.length cE):=(blk_cell X79 1).trans rfl
   refine skip_ (w1:=?_) (by rfl) rfl ?_ ?_;rotate_left;(go_simp)
   rfl
   clear s1 s2
   refine hK.out _ _ ?_;clear hK K
   refine done_ (done_of HT_.out (by kernel_rfl)) ?_
   have hne:∀ q,(((P q∨w.heap.size≤q)∧some q≠(Value.slice AE acc.length cE).ownBlock∧q≠g6∧q≠g7)∨w2.heap.size≤q)→q<w5.heap.size→some q≠(Value.slice AE acc.length cE).ownBlock:=fun q hq _=>hq.elim (fun h=>h.2.1) (fun h e=>by have:=Kd.R_lt HO2 q e.symm;omega)
   have g6lt:=blk_lt HX62
   have g7lt:=blk_lt HX72
   have hge2:w.heap.size≤w2.heap.size:=HK2.1
   have M10:=((M5.beside hg hne (fun q e=>Nat.le_trans hM.ge (Kd.R_base O5 _ e))).mono (P':=fun q=>(P q∨w.heap.size≤q)∧some q≠(Value.slice A9 (acc.length+1) c9).ownBlock∧q≠g6∧q≠g7) (fun q hq=>⟨hq.1.elim (fun h=>h.1) (fun h=>.inr (Nat.le_trans hge2 h)),hat.elim (fun e=>by rw [e];exact hne q hq.1 hq.2) (fun ⟨b',e,hb'⟩=>by rw [e];intro h;injection h with h;have:=hq.2;omega),hq.1.elim (fun h=>h.2.2.1) (fun h=>by omega),hq.1.elim (fun h=>h.2.2.2) (fun h=>by omega)⟩)).far (g:=g7) (j:=1) (fun hk=>hk.2.2.2 rfl) (Nat.le_trans hM.ge hl7) (.slice A9 (acc.length+1) c9)
   have K10:=(Kept.of_grown hg K5w (fun q e=>.inr (Kd.R_base O5 _ e))).setCell (p:=⟨g7,1,none⟩) (.inr hl7) (.slice A9 (acc.length+1) c9)
   have R10:=Kd.R_set (Kd.R_tight rfl ho) X79 (by decide) 1 (.slice A9 (acc.length+1) c9)
   have X610:=blk_far (blk_grown X65 hg (Kd.R_ne O5 X65 (by decide))) (p:=⟨g7,1,none⟩) n67 (.slice A9 (acc.length+1) c9)
   have X710:=blk_put X79 1 (.slice A9 (acc.length+1) c9) rfl
   clear hHeld MD HO2 HX62 HX72 HK2 RP2 xp xw c4 M5 K5 S5 T5 X65 X75 O5 K5w RP5 xp5 hb hg ho hat m9 X79 xp9 hne RP
   generalize w9.setCell ⟨g7,1,none⟩ (.slice A9 (acc.length+1) c9)=w10 at M10 K10 R10 X610 X710 ⊢
   go_wp2
   go_roundg kq
   case measure=>omega
   case rel=>exact ⟨wrap64 (i+1),F2,vals2,acc++[x2],_,_,.slice A9 (acc.length+1) c9,rfl,⟨by have:=HI.out;rw [hwi.out,List.length_append,List.length_singleton];omega⟩,⟨by rw [hwi.out];exact HL'⟩,⟨M10⟩,⟨K10⟩,⟨S5w⟩,⟨T5w⟩,⟨R10⟩,⟨X610⟩,⟨X710⟩⟩
  ·have e0:decide (i<(p.length:Int))=false:=decide_eq_false hlt
   have e1:gk=0:=by have:=HI.out;omega
   subst e1
   have eL:=HL.out
   rw [mkEdgeL] at eL
   injection eL with eL
   injection eL with eF eL
   injection eL with ev ea
   subst eF ev ea
   replace hlt:=Aside0.mk hlt
   obtain ⟨AE,cE,rfl⟩:=Kd.R_slice HO.out
   have d1:=blk_frozen HX7.out 0
   have d2:wr.cell? ⟨g7,0,none⟩=some (.int .i64 tb):=(blk_cell HX7.out 0).trans rfl
   have d3:wr.cell? ⟨g7,1,none⟩=some (.slice AE acc.length cE):=(blk_cell HX7.out 1).trans rfl
   have d4:=blk_frozen HX6.out 0
   have d5:=blk_frozen HX6.out 1
   have d6:wr.cell? ⟨g6,0,none⟩=some (.int .i64 0):=(blk_cell HX6.out 0).trans rfl
   have d7:wr.cell? ⟨g6,1,none⟩=some (.slice none 0 0):=(blk_cell HX6.out 1).trans rfl
   go_wp2
   have M11:=((HM.out.far (g:=g6) (j:=0) (fun hk=>hk.2.2.1 rfl) (Nat.le_trans hM.ge hl6) (.int .i64 tb)).far (g:=g6) (j:=1) (fun hk=>hk.2.2.1 rfl) (Nat.le_trans hM.ge hl6) (.slice AE acc.length cE)).mono (P':=fun q=>(P q∨w.heap.size≤q)∧some q≠(Value.slice AE acc.length cE).ownBlock) (fun q hq=>⟨hq.1,hq.2.1⟩)
   have K11:=(HK.out.setCell (p:=⟨g6,0,none⟩) (.inr hl6) (.int .i64 tb)).setCell (p:=⟨g6,1,none⟩) (.inr hl6) (.slice AE acc.length cE)
   have R11:=Kd.R_set (Kd.R_set HO.out HX6.out (by decide) 0 (.int .i64 tb)) (blk_put HX6.out 0 (.int .i64 tb) rfl) (by decide) 1 (.slice AE acc.length cE)
   have X11:=blk_put (blk_put HX6.out 0 (.int .i64 tb) rfl) 1 (.slice AE acc.length cE) rfl
   have q0:((wr.setCell ⟨g6,0,none⟩ (.int .i64 tb)).setCell ⟨g6,1,none⟩ (.slice AE acc.length cE)).cell? ⟨g6,0,none⟩=some (.int .i64 tb):=(blk_cell X11 0).trans rfl
   have q1:((wr.setCell ⟨g6,0,none⟩ (.int .i64 tb)).setCell ⟨g6,1,none⟩ (.slice AE acc.length cE)).cell? ⟨g6,1,none⟩=some (.slice AE acc.length cE):=(blk_cell X11 1).trans rfl
   exact bodyPost_ret (v:=.agg #[.int .i64 tb,.slice AE acc.length cE]) (by simp [results,Try.results47,go_sem,q0,q1]) rfl ⟨_,rfl,_,_,M11,K11,HS.out,HT.out,R11⟩
end Go.Proofs.Ytabcdpddhmekkaa.PAll
