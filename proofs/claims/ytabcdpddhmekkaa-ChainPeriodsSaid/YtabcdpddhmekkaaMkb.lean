-- Written for this claim by programs of this session (wip/print2 in its repo: a changed printer, a shortener, a packer). Lean checks it.
import Derived.Test.YtabcdpddhmekkaaMka
set_option linter.all false
namespace Go.Proofs.Ytabcdpddhmekkaa.PAll
open Go.RowKit Go.Proofs.YtabcdpddhmekkaaW.PrintWords Go.Proofs.YtabcdpddhmekkaaW.PrintLast Go.Proofs.YtabcdpddhmekkaaW.PrintMore
attribute [local go_sem] max2_int min2_int max_two min_two max_three min_three max_four min_four
set_option linter.unusedVariables false
set_option linter.unusedSimpArgs false
structure Mid (w0 w:World) (P O:Nat→Prop) (gm gf:Nat) (vW vA vS vR vB vV:Value) (F:FN) (b:Int) (vals:List Int) (vW' vV':Value) (W:World):Prop where
 M:MKv w0 W (fun k=>(P k∨w.heap.size≤k)∧¬ O k) gm gf F b vals vW' vA vS vR vB vV'
 K:Kept w W (Turn w P gm gf vW vV)
 S:SameB w vW vW'
 T:SameB w vV vV'
 hO:∀ k,O k→w.heap.size≤k∧k<W.heap.size
 hw:w0.heap.size≤w.heap.size
section
variable {w0 w W W1 W2:World} {P PA O O':Nat→Prop} {gm gf g t:Nat} {cs:Array Value} {F F':FN} {b:Int} {vals vals':List Int} {vW vA vS vR vB vV vW' vV' vE:Value}
theorem Mid.start (hM:MKv w0 w P gm gf F b vals vW vA vS vR vB vV) (hb:Below w.heap.size w W) (hO:∀ k,O k→w.heap.size≤k∧k<W.heap.size):Mid w0 w P O gm gf vW vA vS vR vB vV F b vals vW vV W:=
 ⟨(hM.bound.below hb).mono (fun k hk=>⟨.inl hk.1,fun h=>by have:=hk.2;have:=hO k h;omega⟩),Kept.of_below hb _,SameB.refl _ _,SameB.refl _ _,hO,hM.ge⟩
theorem Mid.grow (h:Mid w0 w P O gm gf vW vA vS vR vB vV F b vals vW' vV' W) (hb:Below W.heap.size W W1) (hO:∀ k,O' k→O k∨W.heap.size≤k∧k<W1.heap.size):Mid w0 w P O' gm gf vW vA vS vR vB vV F b vals vW' vV' W1:=
 ⟨(h.M.bound.below hb).mono (fun k hk=>⟨hk.1.1,fun e=>(hO k e).elim hk.1.2 (fun e=>by have:=hk.2;omega)⟩),h.K.below hb,h.S,h.T,fun k e=>(hO k e).elim (fun e=>⟨(h.hO k e).1,Nat.lt_of_lt_of_le (h.hO k e).2 hb.size⟩) (fun e=>⟨Nat.le_trans h.K.1 e.1,e.2⟩),h.hw⟩
theorem Mid.below (h:Mid w0 w P O gm gf vW vA vS vR vB vV F b vals vW' vV' W) (hb:Below W.heap.size W W1):Mid w0 w P O gm gf vW vA vS vR vB vV F b vals vW' vV' W1:=h.grow hb (fun _ e=>.inl e)
theorem Mid.alloc (h:Mid w0 w P O gm gf vW vA vS vR vB vV F b vals vW' vV' W) (o:Obj):Mid w0 w P O gm gf vW vA vS vR vB vV F b vals vW' vV' (W.alloc o):=h.below (below_alloc (Below.refl _ _) o)
theorem Mid.new (h:Mid w0 w P O gm gf vW vA vS vR vB vV F b vals vW' vV' W) (o:Obj) (hq:W.alloc o=W1):Mid w0 w P (fun k=>O k∨k=W.heap.size) gm gf vW vA vS vR vB vV F b vals vW' vV' W1∧Below W.heap.size W W1∧W1.heap[W.heap.size]? = some o:=by
 subst hq
 exact ⟨h.grow (below_alloc (Below.refl _ _) o) (fun k e=>e.imp id (fun e=>by subst e;exact ⟨Nat.le_refl _,blk_lt (blk_new W o)⟩)),below_alloc (Below.refl _ _) o,blk_new W o⟩
theorem Mid.drew (h:Mid w0 w P O gm gf vW vA vS vR vB vV F b vals vW' vV' W):Mid w0 w P O gm gf vW vA vS vR vB vV F b vals vW' vV' W.drew:=h.below (below_drew1 (Below.refl _ _))
theorem Mid.reO (h:Mid w0 w P O gm gf vW vA vS vR vB vV F b vals vW' vV' W) (hO:∀ k,O' k→O k):Mid w0 w P O' gm gf vW vA vS vR vB vV F b vals vW' vV' W:=h.grow (Below.refl _ _) (fun k e=>.inl (hO k e))
theorem Mid.store (h:Mid w0 w P O gm gf vW vA vS vR vB vV F b vals vW' vV' W) (hg:O g) (j:Nat) (u:Value):Mid w0 w P O gm gf vW vA vS vR vB vV F b vals vW' vV' (W.setCell ⟨g,j,none⟩ u):=
 ⟨h.M.far (fun hk=>hk.2 hg) (Nat.le_trans h.hw (h.hO g hg).1) u,h.K.setCell (.inr (h.hO g hg).1) u,h.S,h.T,fun k e=>⟨(h.hO k e).1,Nat.lt_of_lt_of_le (h.hO k e).2 (by simp [World.setCell])⟩,h.hw⟩
theorem Mid.next (h:Mid w0 w P O gm gf vW vA vS vR vB vV F b vals vW' vV' W) (hA:After w0 W (fun k=>(P k∨w.heap.size≤k)∧¬ O k) gm gf vW' vA vS vR vB vV' F' b vals' W1) :
  ∃ vW2 vV2,Mid w0 w P O gm gf vW vA vS vR vB vV F' b vals' vW2 vV2 W1∧∀ k,O k→W1.heap[k]? = W.heap[k]?:=by
 obtain ⟨a,c,m,k,s,q⟩:=hA
 exact ⟨a,c,⟨m.mono (fun i hi=>hi.elim id (fun e=>⟨.inr (Nat.le_trans h.K.1 e),fun o=>by have:=h.hO i o;omega⟩)),h.K.then_ k (Turn.trans (fun _ e=>e.1) h.K h.S h.T),h.S.trans s h.K.1,h.T.trans q h.K.1,fun i o=>⟨(h.hO i o).1,Nat.lt_of_lt_of_le (h.hO i o).2 k.1⟩,h.hw⟩,fun i o=>k.2 i (h.hO i o).2 (fun e=>e.1.2 o)⟩
theorem Mid.done (h:Mid w0 w P O gm gf vW vA vS vR vB vV F b vals vW' vV' W):After w0 w P gm gf vW vA vS vR vB vV F b vals W:=⟨vW',vV',h.M.mono (fun _ hk=>hk.1),h.K,h.S,h.T⟩
theorem Mid.done_add (h:Mid w0 w P O gm gf vW vA vS vR vB vV F b vals vW' vV' W) (hb:Below W.heap.size W W1) (hA:∀ k,PA k→W.heap.size≤k)
  (h':After w0 W1 (fun k=>(((P k∨w.heap.size≤k)∧¬ O k)∧k<W.heap.size)∨PA k) gm gf vW' vA vS vR vB vV' F' b vals' W2):After w0 w P gm gf vW vA vS vR vB vV F' b vals' W2:=by
 obtain ⟨a,c,m,k,s,q⟩:=h'
 have hK:=h.K.below hb
 refine ⟨a,c,m.mono (fun i hi=>?_),hK.then_ k (Turn.trans (fun i hi=>?_) hK h.S h.T),h.S.trans s hK.1,h.T.trans q hK.1⟩
 ·rcases hi with (hi | hi) | hi
  ·exact hi.1.1
  ·exact .inr (Nat.le_trans h.K.1 (hA i hi))
  ·exact .inr (Nat.le_trans hK.1 hi)
 ·rcases hi with hi | hi
  ·exact hi.1.1
  ·exact .inr (Nat.le_trans h.K.1 (hA i hi))
end
theorem own_cell {W:World} {g t:Nat} {cs:Array Value} (B:W.heap[g]? = some (.cells cs t (0,0))) (j:Nat) (v:Value) (hv:cs[j]? = some v):W.cell? ⟨g,j,none⟩=some v:=(blk_cell B j).trans hv
def SameF (F F':FN):Prop:=F'.nm=F.nm∧F'.ar=F.ar∧F'.st=F.st∧F'.rt=F.rt∧F'.bl.length=F.bl.length
theorem SameF.refl (F:FN):SameF F F:=⟨rfl,rfl,rfl,rfl,rfl⟩
theorem SameF.trans {F G H:FN} (h:SameF F G) (k:SameF G H):SameF F H:=⟨k.1.trans h.1,k.2.1.trans h.2.1,k.2.2.1.trans h.2.2.1,k.2.2.2.1.trans h.2.2.2.1,k.2.2.2.2.trans h.2.2.2.2⟩
theorem mkAdd_same {F F':FN} {b wd d:Int} {vals vals':List Int} {x:S72} (h:mkAdd F b vals x wd=some (F',vals',d)):SameF F F':=by
 unfold mkAdd at h
 split at h
 case isFalse=>exact absurd h (by simp)
 injection h with h
 injection h with hF _
 subst hF
 exact ⟨rfl,rfl,rfl,rfl,by simp⟩
theorem mkAny_same {F F':FN} {b k d:Int} {vals vals':List Int} (h:mkAny F b vals k=some (F',vals',d)):SameF F F':=by
 unfold mkAny at h
 split at h
 ·exact mkAdd_same h
 ·split at h
  ·injection h with h
   injection h with hF _
   subst hF
   exact SameF.refl _
  ·exact absurd h (by simp)
theorem mkFrom_same {F F':FN} {b wd k v d:Int} {vals vals':List Int} (h:mkFrom F b vals wd k v=some (F',vals',d)):SameF F F':=by
 unfold mkFrom at h
 split at h
 ·split at h
  ·injection h with h
   injection h with hF _
   subst hF
   exact SameF.refl _
  ·split at h
   ·exact mkAdd_same h
   ·split at h
    ·exact mkAdd_same h
    ·exact mkAdd_same h
 ·exact absurd h (by simp)
theorem mkValue_same {F F':FN} {b wd k d:Int} {vals vals':List Int} (h:mkValue F b vals wd k=some (F',vals',d)):SameF F F':=by
 unfold mkValue at h
 split at h
 case isFalse=>exact absurd h (by simp)
 obtain ⟨l,_,h⟩:=Option.bind_eq_some_iff.mp h
 split at h
 ·split at h
  ·injection h with h
   injection h with hF _
   subst hF
   exact SameF.refl _
  ·exact absurd h (by simp)
 ·obtain ⟨⟨G,v1,x⟩,h1,h2⟩:=Option.bind_eq_some_iff.mp h
  exact (mkAny_same h1).trans (mkFrom_same h2)
theorem mkEdgeL_same {b k:Int} {p:List Int}:∀ (d:Nat) {i:Int} {F F':FN} {vals vals' acc acc':List Int},mkEdgeL b p k d i F vals acc=some (F',vals',acc')→SameF F F'
 | 0,_,_,_,_,_,_,_,h=>by
  rw [mkEdgeL] at h
  injection h with h
  injection h with hF _
  subst hF
  exact SameF.refl _
 | d+1,_,_,_,_,_,_,_,h=>by
  rw [mkEdgeL] at h
  split at h
  ·obtain ⟨⟨G,v1,x⟩,h1,h2⟩:=Option.bind_eq_some_iff.mp h
   exact (mkValue_same h1).trans (mkEdgeL_same d h2)
  ·exact absurd h (by simp)
theorem mkEdge_same {F F':FN} {b tb k:Int} {vals vals':List Int} {x:S111} (h:mkEdge F b vals tb k=some (F',vals',x)):SameF F F':=by
 unfold mkEdge at h
 split at h
 ·obtain ⟨⟨G,v1,l⟩,h1,h2⟩:=Option.bind_eq_some_iff.mp h
  injection h2 with h2
  injection h2 with hF _
  subst hF
  exact mkEdgeL_same _ h1
 ·exact absurd h (by simp)
section
variable {w0 w W:World} {P O:Nat→Prop} {gm gf:Nat} {F:FN} {b n c i:Int} {vals:List Int} {vW vA vS vR vB vV vW' vV':Value}
theorem MKv.arr {ad:Addr} {cA:Nat} {xs:List S78} (h:MKv w0 W P gm gf F b vals vW (.slice (some ad) xs.length cA) vS vR vB vV) (e:F.ar=xs) (h0:0≤i) (h1:i<(xs.length:Int)):W.cell? ⟨(ad.add (i.toNat*5)).block,(ad.add (i.toNat*5)).off+1,none⟩=some (.int .i64 (rd_T78 xs i).f1):=by
 have r:=h.rA
 rw [e] at r
 obtain ⟨ad',e',x0,x1,_⟩:=at_T78 (Kd.R_reads' r).2.2 i h0 h1
 cases e'
 exact x1
theorem MKv.str {ad:Addr} {cA:Nat} {xs:List S80} (h:MKv w0 W P gm gf F b vals vW vA (.slice (some ad) xs.length cA) vR vB vV) (e:F.st=xs) (h0:0≤i) (h1:i<(xs.length:Int)):W.cell? ⟨(ad.add (i.toNat*3)).block,(ad.add (i.toNat*3)).off+1,none⟩=some (.int .i64 (rd_T80 xs i).f1):=by
 have r:=h.rS
 rw [e] at r
 obtain ⟨ad',e',x0,x1,_⟩:=at_T80 (Kd.R_reads' r).2.2 i h0 h1
 cases e'
 exact x1
end
def mkBin (F:FN) (b:Int) (vals:List Int) (s:S87) (op wd rw:Int):Option (FN × List Int):=
 (mkValue F b vals wd s.f1).bind fun r=>(mkValue r.1 b r.2.1 wd s.f2).bind fun q=>(mkAdd q.1 b q.2.1 ⟨op,0,[r.2.2,q.2.2],0,0⟩ rw).bind fun z=>some (z.1,z.2.1)
def mkSel (F:FN) (b:Int) (vals:List Int) (s:S87) (op wd:Int):Option (FN × List Int):=
 (mkValue F b vals 1 s.f3).bind fun p=>(mkValue p.1 b p.2.1 wd s.f1).bind fun r=>(mkValue r.1 b r.2.1 wd s.f2).bind fun q=>(mkAdd q.1 b q.2.1 ⟨op,0,[p.2.2,r.2.2,q.2.2],0,0⟩ wd).bind fun z=>some (z.1,z.2.1)
def mkConst (k:Nat) (F:FN) (b:Int) (vals:List Int) (s:S87) (op wd:Int):Option (FN × List Int):=
 (jacquardref01_Fit.f k wd s.f5).bind fun n=>(mkAdd F b vals ⟨op,0,[],n,0⟩ wd).bind fun z=>some (z.1,z.2.1)
def mkPush (F:FN) (b:Int) (vals:List Int) (x:S72):Option (FN × List Int):=
 if 0≤b∧b<F.bl.length∧(rd_T53 F.bl b).f1.length<2513169434916 then some ({ F with bl:=F.bl.set b.toNat { rd_T53 F.bl b with f1:=(rd_T53 F.bl b).f1++[x] } },vals) else none
def mkLoad (F:FN) (b:Int) (vals:List Int) (s:S87) (op kk:Int):Option (FN × List Int):=
 if 0≤kk∧kk<(F.ar.length:Int) then
  (mkAny F b vals s.f1).bind fun r=>(mkValue r.1 b r.2.1 1 s.f3).bind fun q=>(mkAdd q.1 b q.2.1 ⟨op,0,[r.2.2,q.2.2],0,kk⟩ (rd_T78 F.ar kk).f1).bind fun z=>some (z.1,z.2.1)
 else none
def mkStore (F:FN) (b:Int) (vals:List Int) (s:S87) (op kk:Int):Option (FN × List Int):=
 if 0≤kk∧kk<(F.ar.length:Int) then
  (mkAny F b vals s.f1).bind fun r=>(mkValue r.1 b r.2.1 (rd_T78 F.ar kk).f1 s.f4).bind fun q=>(mkValue q.1 b q.2.1 1 s.f3).bind fun z=>mkPush z.1 b z.2.1 ⟨op,-1,[r.2.2,q.2.2,z.2.2],0,kk⟩
 else none
def mkRecv (F:FN) (b:Int) (vals:List Int) (s:S87) (op kk:Int):Option (FN × List Int):=
 if 0≤kk∧kk<(F.st.length:Int) then
  (mkValue F b vals 1 s.f3).bind fun q=>(mkAdd q.1 b q.2.1 ⟨op,0,[q.2.2],0,kk⟩ (rd_T80 F.st kk).f1).bind fun z=>some (z.1,z.2.1)
 else none
def mkSend (F:FN) (b:Int) (vals:List Int) (s:S87) (op kk:Int):Option (FN × List Int):=
 if 0≤kk∧kk<(F.st.length:Int) then
  (mkValue F b vals (rd_T80 F.st kk).f1 s.f1).bind fun q=>(mkValue q.1 b q.2.1 1 s.f3).bind fun z=>mkPush z.1 b z.2.1 ⟨op,-1,[q.2.2,z.2.2],0,kk⟩
 else none
def mkStep.T6:Bool × List (List Nat × List Nat):=(true,[([],[]),([],[]),([],[]),([],[]),([],[]),([4],[4]),([2,3,5],[2,3,5]),([],[]),([],[]),([],[]),([9],[9]),([7,8,10,6],[7,8,10]),([6,11],[6,11]),([1,12],[1,12]),([0,13,11],[0,13])])
def mkStep.B6:List Nat:=[0,0,0,0,0,16,60,0,0,0,512,2044,4092,8190,16383]
theorem mkStep.tab6:rtab .any (opsOf Try.f25 6)=mkStep.T6:=by kernel_rfl
theorem mkStep.bits6:waitsOk mkStep.T6.2 mkStep.B6=true:=by kernel_rfl
def mkStepB.T8:Bool × List (List Nat × List Nat):=(true,[([],[]),([],[]),([],[]),([],[]),([],[]),([4],[4]),([2,3,5],[2,3,5]),([],[]),([],[]),([],[]),([9],[9]),([7,8,10,6],[7,8,10]),([6,11],[6,11]),([1,12],[1,12]),([],[]),([0,13,14,11],[0,13,14])])
def mkStepB.B8:List Nat:=[0,0,0,0,0,16,60,0,0,0,512,2044,4092,8190,0,32767]
theorem mkStepB.tab8:rtab .any (opsOf Try.f25 8)=mkStepB.T8:=by kernel_rfl
theorem mkStepB.bits8:waitsOk mkStepB.T8.2 mkStepB.B8=true:=by kernel_rfl
def mkStepS.T10:Bool × List (List Nat × List Nat):=(true,[([],[]),([],[]),([],[]),([],[]),([3],[3]),([2,4],[2,4]),([],[]),([],[]),([],[]),([8],[8]),([6,7,9,5],[6,7,9]),([],[]),([],[]),([],[]),([13],[13]),([11,12,14,10],[11,12,14]),([5,10,15],[5,10,15]),([1,16],[1,16]),([],[]),([0,17,18,15],[0,17,18])])
def mkStepS.B10:List Nat:=[0,0,0,0,8,28,0,0,0,256,1020,0,0,0,8192,32764,65532,131070,0,524287]
theorem mkStepS.tab10:rtab .any (opsOf Try.f25 10)=mkStepS.T10:=by kernel_rfl
theorem mkStepS.bits10:waitsOk mkStepS.T10.2 mkStepS.B10=true:=by kernel_rfl
def mkStepL.T14:Bool × List (List Nat × List Nat):=(true,[([],[]),([0],[0]),([1],[1]),([],[]),([3],[3]),([4],[4]),([5],[5]),([6],[6]),([7],[7]),([8],[8]),([9],[9]),([2,10],[2,10]),([11,0,1,2,3,4,5,6,7,8,9,10,11],[11])])
def mkStepL.B14:List Nat:=[0,1,3,0,8,24,56,120,248,504,1016,2047,4095]
theorem mkStepL.tab14:rtab .any (opsOf Try.f25 14)=mkStepL.T14:=by kernel_rfl
theorem mkStepL.bits14:waitsOk mkStepL.T14.2 mkStepL.B14=true:=by kernel_rfl
def mkStepL.T15:Bool × List (List Nat × List Nat):=(true,[([],[]),([],[]),([],[]),([],[]),([],[]),([4],[4]),([3,5],[3,5]),([],[]),([],[]),([8],[8]),([7,9,6],[7,9]),([6,10],[6,10]),([1,2,11],[1,2,11]),([],[]),([13],[13]),([14],[14]),([15],[15]),([16],[16]),([17],[17]),([18],[18]),([],[]),([19,20],[19,20]),([21],[21]),([22],[22]),([0,12,23,10],[0,12,23])])
def mkStepL.B15:List Nat:=[0,0,0,0,0,16,56,0,0,256,1016,2040,4094,0,8192,24576,57344,122880,253952,516096,0,2088960,4186112,8380416,16777215]
theorem mkStepL.tab15:rtab .any (opsOf Try.f25 15)=mkStepL.T15:=by kernel_rfl
theorem mkStepL.bits15:waitsOk mkStepL.T15.2 mkStepL.B15=true:=by kernel_rfl
def mkStepR.T22:Bool × List (List Nat × List Nat):=(true,[([],[]),([],[]),([],[]),([],[]),([],[]),([4],[4]),([3,5],[3,5]),([6],[6]),([1,2,7],[1,2,7]),([],[]),([9],[9]),([10],[10]),([11],[11]),([12],[12]),([13],[13]),([14],[14]),([],[]),([15,16],[15,16]),([17],[17]),([18],[18]),([0,8,19,6],[0,8,19])])
def mkStepR.B22:List Nat:=[0,0,0,0,0,16,56,120,254,0,512,1536,3584,7680,15872,32256,0,130560,261632,523776,1048575]
theorem mkStepR.tab22:rtab .any (opsOf Try.f25 22)=mkStepR.T22:=by kernel_rfl
theorem mkStepR.bits22:waitsOk mkStepR.T22.2 mkStepR.B22=true:=by kernel_rfl
set_option maxHeartbeats 8000000 in
set_option maxRecDepth 100000 in
theorem mkStepC_calls {w0 w:World} {P:Nat→Prop} {gm gf:Nat} {F F':FN} {b wd op:Int} {vals vals':List Int} {vW vA vS vR vB vV:Value} {s:S87} (hM:MKv w0 w P gm gf F b vals vW vA vS vR vB vV) (hwd:jacquardref27_wide.f s.f4=some wd) (hop:wrap64 (1+Int.tmod (wrap64 s.f0) 28)=op) (b1:(op==1)=false) (hc:jacquardref01_IsCompare.f op=some true)
  (h:mkBin F b vals s op wd 1=some (F',vals')) :
  Calls Try.prog 25 #[.pointer (some ⟨gm,0,none⟩),.agg #[.int .u8 s.f0,.int .u8 s.f1,.int .u8 s.f2,.int .u8 s.f3,.int .u8 s.f4,.int .u64 s.f5]] w fun e w'=>e = .returned (.tuple #[])∧After w0 w P gm gf vW vA vS vR vB vV F' b vals' w':=by
 unfold mkBin at h
 obtain ⟨⟨F1,vals1,x1⟩,h1,h⟩:=Option.bind_eq_some_iff.mp h
 obtain ⟨⟨F2,vals2,x2⟩,h2,h⟩:=Option.bind_eq_some_iff.mp h
 obtain ⟨⟨F3,vals3,x3⟩,h3,h⟩:=Option.bind_eq_some_iff.mp h
 injection h with h
 injection h with hF hv
 subst hF hv
 go_enter Try.func25,Try.ntmps25
 go_upto_region 6 with (first | ((with_reducible refine gate_dst (N:=3) rfl ?_);refine box_event ?hg (N:=3) ?hd (cs := #[.int .u8 s.f0,.int .u8 s.f1,.int .u8 s.f2,.int .u8 s.f3,.int .u8 s.f4,.int .u64 s.f5]) (t:=87) ?hr ?_;(case hd=>rfl);(case hg=>rfl);(case hr=>first | (go_simp;done) | (go_simp;rfl));intro g hg w1 hbox hb1;have D:=Mid.start (O:=fun k=>k=g) hM hb1 (fun k e=>by have:=blk_lt hbox;omega);have B:=hbox;have c4:=own_cell B 4 (.int .u8 s.f4) rfl;clear hbox hb1;replace hg:=Aside0.mk hg) | (go_at_call 24;refine (jacquardref27_wide.calls s.f4 wd _ hwd).mono ?_;rintro e w2 ⟨rfl,hb2⟩;replace D:=D.below hb2;replace B:=blk_below B hb2;clear c4 hb2;have c0:=own_cell B 0 (.int .u8 s.f0) rfl;skip) | (go_at_call 42;refine (jacquardref01_IsCompare.calls op true _ hc).mono ?_;rintro e w3 ⟨rfl,hb3⟩;replace D:=D.below hb3.below;replace B:=blk_below B hb3.below;clear hb3 c0))
 try go_wp2
 refine start_ (n:=15) (S:=fun w'=>w'.cell? ⟨g,1,none⟩=some (.int .u8 s.f1)∧w'.cell? ⟨g,2,none⟩=some (.int .u8 s.f2)) (ds:=[14]) (bz 15 0) (by kernel_rfl) rfl rfl ⟨(own_cell (blk_drew B) 1 (.int .u8 s.f1) rfl),(own_cell (blk_drew B) 2 (.int .u8 s.f2) rfl)⟩ (fun hHeld=>?_)
 refine with_tabW mkStep.tab6 mkStep.bits6 (fun HT_ HW_=>?_)
 have D2:=D.drew
 have B2:=blk_drew B
 generalize w3.drew=w5 at hHeld D2 B2 ⊢
 clear D B
 refine pu_ 0 35 HT_ ?_
 refine pu_ 1 36 HT_ ?_
 refine pu_ 2 37 HT_ ?_
 refine pu_ 3 38 HT_ ?_
 refine pu_ 4 39 HT_ ?_
 refine pu_ 7 42 HT_ ?_
 refine pu_ 8 43 HT_ ?_
 refine pu_ 9 44 HT_ ?_
 refine tk_ 5 40 HT_ HW_ hHeld ?_ (hy:=by rintro w' ⟨s0,s1⟩;go_simp;with_reducible rfl)
 refine tk_ 10 45 HT_ HW_ hHeld ?_ (hy:=by rintro w' ⟨s0,s1⟩;go_simp;with_reducible rfl)
 refine on_ 6 (some 41) HT_ (fun K hK=>?_)
 refine gs_ Try.func43 #[.pointer (some ⟨gm,0,none⟩),.int .i64 wd,.int .u8 s.f1] ?_
 refine (mkValue_calls D2.M h1).mono ?_
 rintro e w6 ⟨rfl,hA⟩
 refine ⟨_,rfl,?_⟩
 obtain ⟨vWD3,vVD3,D3,hk⟩:=D2.next hA
 have B3:=(hk g rfl).trans B2
 clear hA hk
 refine hK.out _ _ ⟨own_cell B3 1 (.int .u8 s.f1) rfl,own_cell B3 2 (.int .u8 s.f2) rfl⟩ (fun hHeld=>?_);clear hK K
 refine no_ 41 ?_
 refine on_ 11 (some 46) HT_ (fun K hK=>?_)
 refine gs_ Try.func43 #[.pointer (some ⟨gm,0,none⟩),.int .i64 wd,.int .u8 s.f2] ?_
 refine (mkValue_calls D3.M h2).mono ?_
 rintro e w7 ⟨rfl,hA⟩
 refine ⟨_,rfl,?_⟩
 obtain ⟨vWD4,vVD4,D4,hk⟩:=D3.next hA
 have B4:=(hk g rfl).trans B3
 clear hA hk
 refine hK.out _ _ ⟨own_cell B4 1 (.int .u8 s.f1) rfl,own_cell B4 2 (.int .u8 s.f2) rfl⟩ (fun hHeld=>?_);clear hK K
 refine no_ 46 ?_
 refine on_ 12 (some 47) HT_ (fun K hK=>?_)
 refine value_ (w1:=?_) (v:=?_) (by rfl) rfl ?_ ?_;rotate_left 2;(go_simp;constructor);(rfl);(rfl)
 refine hK.out _ _ ⟨own_cell (blk_alloc B4 _) 1 (.int .u8 s.f1) rfl,own_cell (blk_alloc B4 _) 2 (.int .u8 s.f2) rfl⟩ (fun hHeld=>?_);clear hK K
 refine no_ 47 ?_
 refine pu_ 13 48 HT_ ?_
 refine la_ 14 (some 49) HT_ (fun K hK=>?_)
 refine gs_ Try.func40 #[.pointer (some ⟨gm,0,none⟩),.agg #[.int .i64 op,.int .i64 0,.slice (some ⟨w7.heap.size,0,none⟩) 2 2,.int .u64 0,.int .i64 0],.int .i64 1] ?_
 refine (mkAdd_calls (x:=⟨op,0,[x1,x2],0,0⟩) (PA:=fun k=>k=w7.heap.size) (D4.M.bound.alloc _) (lit_R w7 w0.heap.size [x1,x2] D4.M.ge (by show 2≤_;omega)) (fun k e h=>by have:=h.2;omega) h3).mono ?_
 rintro e w9 ⟨rfl,hB⟩
 refine ⟨_,rfl,?_⟩
 have D5:=D4.done_add (below_alloc (Below.refl _ _) _) (fun k e=>Nat.le_of_eq e.symm) hB
 clear hB
 refine hK.out _ _ ?_;clear hK K
 refine no_ 49 ?_
 refine done_ (done_of HT_.out (by kernel_rfl)) ?_
 try go_wp2
 go_end0
 exact ⟨rfl,D5⟩
set_option maxHeartbeats 8000000 in
set_option maxRecDepth 100000 in
theorem mkStepB_calls {w0 w:World} {P:Nat→Prop} {gm gf:Nat} {F F':FN} {b wd op:Int} {vals vals':List Int} {vW vA vS vR vB vV:Value} {s:S87} (hM:MKv w0 w P gm gf F b vals vW vA vS vR vB vV) (hwd:jacquardref27_wide.f s.f4=some wd) (hop:wrap64 (1+Int.tmod (wrap64 s.f0) 28)=op) (b1:(op==1)=false) (hc:jacquardref01_IsCompare.f op=some false) (hd:jacquardref01_IsBinary.f op=some true)
  (h:mkBin F b vals s op wd wd=some (F',vals')) :
  Calls Try.prog 25 #[.pointer (some ⟨gm,0,none⟩),.agg #[.int .u8 s.f0,.int .u8 s.f1,.int .u8 s.f2,.int .u8 s.f3,.int .u8 s.f4,.int .u64 s.f5]] w fun e w'=>e = .returned (.tuple #[])∧After w0 w P gm gf vW vA vS vR vB vV F' b vals' w':=by
 unfold mkBin at h
 obtain ⟨⟨F1,vals1,x1⟩,h1,h⟩:=Option.bind_eq_some_iff.mp h
 obtain ⟨⟨F2,vals2,x2⟩,h2,h⟩:=Option.bind_eq_some_iff.mp h
 obtain ⟨⟨F3,vals3,x3⟩,h3,h⟩:=Option.bind_eq_some_iff.mp h
 injection h with h
 injection h with hF hv
 subst hF hv
 go_enter Try.func25,Try.ntmps25
 go_upto_region 8 with (first | ((with_reducible refine gate_dst (N:=3) rfl ?_);refine box_event ?hg (N:=3) ?hd (cs := #[.int .u8 s.f0,.int .u8 s.f1,.int .u8 s.f2,.int .u8 s.f3,.int .u8 s.f4,.int .u64 s.f5]) (t:=87) ?hr ?_;(case hd=>rfl);(case hg=>rfl);(case hr=>first | (go_simp;done) | (go_simp;rfl));intro g hg w1 hbox hb1;have D:=Mid.start (O:=fun k=>k=g) hM hb1 (fun k e=>by have:=blk_lt hbox;omega);have B:=hbox;have c4:=own_cell B 4 (.int .u8 s.f4) rfl;clear hbox hb1;replace hg:=Aside0.mk hg) | (go_at_call 24;refine (jacquardref27_wide.calls s.f4 wd _ hwd).mono ?_;rintro e w2 ⟨rfl,hb2⟩;replace D:=D.below hb2;replace B:=blk_below B hb2;clear c4 hb2;have c0:=own_cell B 0 (.int .u8 s.f0) rfl;skip) | (go_at_call 42;refine (jacquardref01_IsCompare.calls op false _ hc).mono ?_;rintro e w3 ⟨rfl,hb3⟩;replace D:=D.below hb3.below;replace B:=blk_below B hb3.below;clear hb3 c0) | (go_at_call 44;refine (jacquardref01_IsBinary.calls op true _ hd).mono ?_;rintro e w4 ⟨rfl,hb4⟩;replace D:=D.below hb4.below;replace B:=blk_below B hb4.below;clear hb4))
 try go_wp2
 refine start_ (n:=16) (S:=fun w'=>w'.cell? ⟨g,1,none⟩=some (.int .u8 s.f1)∧w'.cell? ⟨g,2,none⟩=some (.int .u8 s.f2)) (ds:=[15]) (bz 16 0) (by kernel_rfl) rfl rfl ⟨(own_cell (blk_drew B) 1 (.int .u8 s.f1) rfl),(own_cell (blk_drew B) 2 (.int .u8 s.f2) rfl)⟩ (fun hHeld=>?_)
 refine with_tabW mkStepB.tab8 mkStepB.bits8 (fun HT_ HW_=>?_)
 have D2:=D.drew
 have B2:=blk_drew B
 generalize w4.drew=w5 at hHeld D2 B2 ⊢
 clear D B
 refine pu_ 0 53 HT_ ?_
 refine pu_ 1 54 HT_ ?_
 refine pu_ 2 55 HT_ ?_
 refine pu_ 3 56 HT_ ?_
 refine pu_ 4 57 HT_ ?_
 refine pu_ 7 60 HT_ ?_
 refine pu_ 8 61 HT_ ?_
 refine pu_ 9 62 HT_ ?_
 refine pu_ 14 67 HT_ ?_
 refine tk_ 5 58 HT_ HW_ hHeld ?_ (hy:=by rintro w' ⟨s0,s1⟩;go_simp;with_reducible rfl)
 refine tk_ 10 63 HT_ HW_ hHeld ?_ (hy:=by rintro w' ⟨s0,s1⟩;go_simp;with_reducible rfl)
 refine on_ 6 (some 59) HT_ (fun K hK=>?_)
 refine gs_ Try.func43 #[.pointer (some ⟨gm,0,none⟩),.int .i64 wd,.int .u8 s.f1] ?_
 refine (mkValue_calls D2.M h1).mono ?_
 rintro e w6 ⟨rfl,hA⟩
 refine ⟨_,rfl,?_⟩
 obtain ⟨vWD3,vVD3,D3,hk⟩:=D2.next hA
 have B3:=(hk g rfl).trans B2
 clear hA hk
 refine hK.out _ _ ⟨own_cell B3 1 (.int .u8 s.f1) rfl,own_cell B3 2 (.int .u8 s.f2) rfl⟩ (fun hHeld=>?_);clear hK K
 refine no_ 59 ?_
 refine on_ 11 (some 64) HT_ (fun K hK=>?_)
 refine gs_ Try.func43 #[.pointer (some ⟨gm,0,none⟩),.int .i64 wd,.int .u8 s.f2] ?_
 refine (mkValue_calls D3.M h2).mono ?_
 rintro e w7 ⟨rfl,hA⟩
 refine ⟨_,rfl,?_⟩
 obtain ⟨vWD4,vVD4,D4,hk⟩:=D3.next hA
 have B4:=(hk g rfl).trans B3
 clear hA hk
 refine hK.out _ _ ⟨own_cell B4 1 (.int .u8 s.f1) rfl,own_cell B4 2 (.int .u8 s.f2) rfl⟩ (fun hHeld=>?_);clear hK K
 refine no_ 64 ?_
 refine on_ 12 (some 65) HT_ (fun K hK=>?_)
 refine value_ (w1:=?_) (v:=?_) (by rfl) rfl ?_ ?_;rotate_left 2;(go_simp;constructor);(rfl);(rfl)
 refine hK.out _ _ ⟨own_cell (blk_alloc B4 _) 1 (.int .u8 s.f1) rfl,own_cell (blk_alloc B4 _) 2 (.int .u8 s.f2) rfl⟩ (fun hHeld=>?_);clear hK K
 refine no_ 65 ?_
 refine pu_ 13 66 HT_ ?_
 refine la_ 15 (some 68) HT_ (fun K hK=>?_)
 refine gs_ Try.func40 #[.pointer (some ⟨gm,0,none⟩),.agg #[.int .i64 op,.int .i64 0,.slice (some ⟨w7.heap.size,0,none⟩) 2 2,.int .u64 0,.int .i64 0],.int .i64 wd] ?_
 refine (mkAdd_calls (x:=⟨op,0,[x1,x2],0,0⟩) (PA:=fun k=>k=w7.heap.size) (D4.M.bound.alloc _) (lit_R w7 w0.heap.size [x1,x2] D4.M.ge (by show 2≤_;omega)) (fun k e h=>by have:=h.2;omega) h3).mono ?_
 rintro e w9 ⟨rfl,hB⟩
 refine ⟨_,rfl,?_⟩
 have D5:=D4.done_add (below_alloc (Below.refl _ _) _) (fun k e=>Nat.le_of_eq e.symm) hB
 clear hB
 refine hK.out _ _ ?_;clear hK K
 refine no_ 68 ?_
 refine done_ (done_of HT_.out (by kernel_rfl)) ?_
 try go_wp2
 go_end0
 exact ⟨rfl,D5⟩
set_option maxHeartbeats 8000000 in
set_option maxRecDepth 100000 in
theorem mkStepS_calls {w0 w:World} {P:Nat→Prop} {gm gf:Nat} {F F':FN} {b wd op:Int} {vals vals':List Int} {vW vA vS vR vB vV:Value} {s:S87} (hM:MKv w0 w P gm gf F b vals vW vA vS vR vB vV) (hwd:jacquardref27_wide.f s.f4=some wd) (hop:wrap64 (1+Int.tmod (wrap64 s.f0) 28)=op) (b1:(op==1)=false) (hc:jacquardref01_IsCompare.f op=some false) (hd:jacquardref01_IsBinary.f op=some false) (b2:(op==21)=true)
  (h:mkSel F b vals s op wd=some (F',vals')) :
  Calls Try.prog 25 #[.pointer (some ⟨gm,0,none⟩),.agg #[.int .u8 s.f0,.int .u8 s.f1,.int .u8 s.f2,.int .u8 s.f3,.int .u8 s.f4,.int .u64 s.f5]] w fun e w'=>e = .returned (.tuple #[])∧After w0 w P gm gf vW vA vS vR vB vV F' b vals' w':=by
 unfold mkSel at h
 obtain ⟨⟨F1,vals1,x1⟩,h1,h⟩:=Option.bind_eq_some_iff.mp h
 obtain ⟨⟨F2,vals2,x2⟩,h2,h⟩:=Option.bind_eq_some_iff.mp h
 obtain ⟨⟨F3,vals3,x3⟩,h3,h⟩:=Option.bind_eq_some_iff.mp h
 obtain ⟨⟨F4,vals4,x4⟩,h4,h⟩:=Option.bind_eq_some_iff.mp h
 injection h with h
 injection h with hF hv
 subst hF hv
 go_enter Try.func25,Try.ntmps25
 go_upto_region 10 with (first | ((with_reducible refine gate_dst (N:=3) rfl ?_);refine box_event ?hg (N:=3) ?hd (cs := #[.int .u8 s.f0,.int .u8 s.f1,.int .u8 s.f2,.int .u8 s.f3,.int .u8 s.f4,.int .u64 s.f5]) (t:=87) ?hr ?_;(case hd=>rfl);(case hg=>rfl);(case hr=>first | (go_simp;done) | (go_simp;rfl));intro g hg w1 hbox hb1;have D:=Mid.start (O:=fun k=>k=g) hM hb1 (fun k e=>by have:=blk_lt hbox;omega);have B:=hbox;have c4:=own_cell B 4 (.int .u8 s.f4) rfl;clear hbox hb1;replace hg:=Aside0.mk hg) | (go_at_call 24;refine (jacquardref27_wide.calls s.f4 wd _ hwd).mono ?_;rintro e w2 ⟨rfl,hb2⟩;replace D:=D.below hb2;replace B:=blk_below B hb2;clear c4 hb2;have c0:=own_cell B 0 (.int .u8 s.f0) rfl;skip) | (go_at_call 42;refine (jacquardref01_IsCompare.calls op false _ hc).mono ?_;rintro e w3 ⟨rfl,hb3⟩;replace D:=D.below hb3.below;replace B:=blk_below B hb3.below;clear hb3 c0) | (go_at_call 44;refine (jacquardref01_IsBinary.calls op false _ hd).mono ?_;rintro e w4 ⟨rfl,hb4⟩;replace D:=D.below hb4.below;replace B:=blk_below B hb4.below;clear hb4))
 try go_wp2
 refine start_ (n:=20) (S:=fun w'=>w'.cell? ⟨g,1,none⟩=some (.int .u8 s.f1)∧w'.cell? ⟨g,2,none⟩=some (.int .u8 s.f2)∧w'.cell? ⟨g,3,none⟩=some (.int .u8 s.f3)) (ds:=[19]) (bz 20 0) (by kernel_rfl) rfl rfl ⟨(own_cell (blk_drew B) 1 (.int .u8 s.f1) rfl),(own_cell (blk_drew B) 2 (.int .u8 s.f2) rfl),(own_cell (blk_drew B) 3 (.int .u8 s.f3) rfl)⟩ (fun hHeld=>?_)
 refine with_tabW mkStepS.tab10 mkStepS.bits10 (fun HT_ HW_=>?_)
 have D2:=D.drew
 have B2:=blk_drew B
 generalize w4.drew=w5 at hHeld D2 B2 ⊢
 clear D B
 refine pu_ 0 72 HT_ ?_
 refine pu_ 1 73 HT_ ?_
 refine pu_ 2 74 HT_ ?_
 refine pu_ 3 75 HT_ ?_
 refine pu_ 6 78 HT_ ?_
 refine pu_ 7 79 HT_ ?_
 refine pu_ 8 80 HT_ ?_
 refine pu_ 11 83 HT_ ?_
 refine pu_ 12 84 HT_ ?_
 refine pu_ 13 85 HT_ ?_
 refine pu_ 18 90 HT_ ?_
 refine tk_ 4 76 HT_ HW_ hHeld ?_ (hy:=by rintro w' ⟨s0,s1,s2⟩;go_simp;with_reducible rfl)
 refine tk_ 9 81 HT_ HW_ hHeld ?_ (hy:=by rintro w' ⟨s0,s1,s2⟩;go_simp;with_reducible rfl)
 refine tk_ 14 86 HT_ HW_ hHeld ?_ (hy:=by rintro w' ⟨s0,s1,s2⟩;go_simp;with_reducible rfl)
 refine on_ 5 (some 77) HT_ (fun K hK=>?_)
 refine gs_ Try.func43 #[.pointer (some ⟨gm,0,none⟩),.int .i64 1,.int .u8 s.f3] ?_
 refine (mkValue_calls D2.M h1).mono ?_
 rintro e w6 ⟨rfl,hA⟩
 refine ⟨_,rfl,?_⟩
 obtain ⟨vWD3,vVD3,D3,hk⟩:=D2.next hA
 have B3:=(hk g rfl).trans B2
 clear hA hk
 refine hK.out _ _ ⟨own_cell B3 1 (.int .u8 s.f1) rfl,own_cell B3 2 (.int .u8 s.f2) rfl,own_cell B3 3 (.int .u8 s.f3) rfl⟩ (fun hHeld=>?_);clear hK K
 refine no_ 77 ?_
 refine on_ 10 (some 82) HT_ (fun K hK=>?_)
 refine gs_ Try.func43 #[.pointer (some ⟨gm,0,none⟩),.int .i64 wd,.int .u8 s.f1] ?_
 refine (mkValue_calls D3.M h2).mono ?_
 rintro e w7 ⟨rfl,hA⟩
 refine ⟨_,rfl,?_⟩
 obtain ⟨vWD4,vVD4,D4,hk⟩:=D3.next hA
 have B4:=(hk g rfl).trans B3
 clear hA hk
 refine hK.out _ _ ⟨own_cell B4 1 (.int .u8 s.f1) rfl,own_cell B4 2 (.int .u8 s.f2) rfl,own_cell B4 3 (.int .u8 s.f3) rfl⟩ (fun hHeld=>?_);clear hK K
 refine no_ 82 ?_
 refine on_ 15 (some 87) HT_ (fun K hK=>?_)
 refine gs_ Try.func43 #[.pointer (some ⟨gm,0,none⟩),.int .i64 wd,.int .u8 s.f2] ?_
 refine (mkValue_calls D4.M h3).mono ?_
 rintro e w8 ⟨rfl,hA⟩
 refine ⟨_,rfl,?_⟩
 obtain ⟨vWD5,vVD5,D5,hk⟩:=D4.next hA
 have B5:=(hk g rfl).trans B4
 clear hA hk
 refine hK.out _ _ ⟨own_cell B5 1 (.int .u8 s.f1) rfl,own_cell B5 2 (.int .u8 s.f2) rfl,own_cell B5 3 (.int .u8 s.f3) rfl⟩ (fun hHeld=>?_);clear hK K
 refine no_ 87 ?_
 refine on_ 16 (some 88) HT_ (fun K hK=>?_)
 refine value_ (w1:=?_) (v:=?_) (by rfl) rfl ?_ ?_;rotate_left 2;(go_simp;constructor);(rfl);(rfl)
 refine hK.out _ _ ⟨own_cell (blk_alloc B5 _) 1 (.int .u8 s.f1) rfl,own_cell (blk_alloc B5 _) 2 (.int .u8 s.f2) rfl,own_cell (blk_alloc B5 _) 3 (.int .u8 s.f3) rfl⟩ (fun hHeld=>?_);clear hK K
 refine no_ 88 ?_
 refine pu_ 17 89 HT_ ?_
 refine la_ 19 (some 91) HT_ (fun K hK=>?_)
 refine gs_ Try.func40 #[.pointer (some ⟨gm,0,none⟩),.agg #[.int .i64 op,.int .i64 0,.slice (some ⟨w8.heap.size,0,none⟩) 3 3,.int .u64 0,.int .i64 0],.int .i64 wd] ?_
 refine (mkAdd_calls (x:=⟨op,0,[x1,x2,x3],0,0⟩) (PA:=fun k=>k=w8.heap.size) (D5.M.bound.alloc _) (lit_R w8 w0.heap.size [x1,x2,x3] D5.M.ge (by show 3≤_;omega)) (fun k e h=>by have:=h.2;omega) h4).mono ?_
 rintro e w9 ⟨rfl,hB⟩
 refine ⟨_,rfl,?_⟩
 have D6:=D5.done_add (below_alloc (Below.refl _ _) _) (fun k e=>Nat.le_of_eq e.symm) hB
 clear hB
 refine hK.out _ _ ?_;clear hK K
 refine no_ 91 ?_
 refine done_ (done_of HT_.out (by kernel_rfl)) ?_
 try go_wp2
 go_end0
 exact ⟨rfl,D6⟩
set_option maxHeartbeats 8000000 in
set_option maxRecDepth 100000 in
theorem mkStepK_calls {w0 w:World} {P:Nat→Prop} {gm gf:Nat} {F F':FN} {b wd op:Int} {vals vals':List Int} {vW vA vS vR vB vV:Value} {s:S87} (hM:MKv w0 w P gm gf F b vals vW vA vS vR vB vV) (hwd:jacquardref27_wide.f s.f4=some wd) (hop:wrap64 (1+Int.tmod (wrap64 s.f0) 28)=op) {k:Nat} (b1:(op==1)=true)
  (h:mkConst k F b vals s op wd=some (F',vals')) :
  Calls Try.prog 25 #[.pointer (some ⟨gm,0,none⟩),.agg #[.int .u8 s.f0,.int .u8 s.f1,.int .u8 s.f2,.int .u8 s.f3,.int .u8 s.f4,.int .u64 s.f5]] w fun e w'=>e = .returned (.tuple #[])∧After w0 w P gm gf vW vA vS vR vB vV F' b vals' w':=by
 unfold mkConst at h
 obtain ⟨n,hn,h⟩:=Option.bind_eq_some_iff.mp h
 obtain ⟨⟨F1,vals1,x1⟩,h1,h⟩:=Option.bind_eq_some_iff.mp h
 injection h with h
 injection h with hF hv
 subst hF hv
 go_enter Try.func25,Try.ntmps25
 go_wp2_with (first | ((with_reducible refine gate_dst (N:=3) rfl ?_);refine box_event ?hg (N:=3) ?hd (cs := #[.int .u8 s.f0,.int .u8 s.f1,.int .u8 s.f2,.int .u8 s.f3,.int .u8 s.f4,.int .u64 s.f5]) (t:=87) ?hr ?_;(case hd=>rfl);(case hg=>rfl);(case hr=>first | (go_simp;done) | (go_simp;rfl));intro g hg w1 hbox hb1;have D:=Mid.start (O:=fun k=>k=g) hM hb1 (fun k e=>by have:=blk_lt hbox;omega);have B:=hbox;have c4:=own_cell B 4 (.int .u8 s.f4) rfl;clear hbox hb1;replace hg:=Aside0.mk hg) | (go_at_call 24;refine (jacquardref27_wide.calls s.f4 wd _ hwd).mono ?_;rintro e w2 ⟨rfl,hb2⟩;replace D:=D.below hb2;replace B:=blk_below B hb2;clear c4 hb2;have c0:=own_cell B 0 (.int .u8 s.f0) rfl;have c5:=own_cell B 5 (.int .u64 s.f5) rfl) | (go_at_call 41;refine (jacquardref01_Fit.calls k wd s.f5 _ _ hn).mono ?_;rintro e w3 ⟨rfl,hb3⟩;replace D:=D.below hb3;clear hb3 c0 c5) | (go_at_call 40;refine (mkAdd_calls (x:=⟨op,0,[],n,0⟩) D.M (Kd.R_nil _ _ _ _ (fun _=>False)) (fun _ hk=>hk.elim) h1).mono ?_;rintro e w' ⟨rfl,hA⟩))
 obtain ⟨vW2,vV2,D',-⟩:=D.next (hA.mono (fun k hk=>hk.elim id False.elim))
 go_end0
 exact ⟨rfl,D'.done⟩
set_option maxHeartbeats 8000000 in
set_option maxRecDepth 100000 in
theorem mkStepE_calls {w0 w:World} {P:Nat→Prop} {gm gf:Nat} {F F':FN} {b wd op:Int} {vals vals':List Int} {vW vA vS vR vB vV:Value} {s:S87} (hM:MKv w0 w P gm gf F b vals vW vA vS vR vB vV) (hwd:jacquardref27_wide.f s.f4=some wd) (hop:wrap64 (1+Int.tmod (wrap64 s.f0) 28)=op) (b1:(op==1)=false) (hc:jacquardref01_IsCompare.f op=some false) (hd:jacquardref01_IsBinary.f op=some false) (b2:(op==21)=false) (b3:decide (op<25)=true)
  (h:((mkValue F b vals wd (Go.bits .or .u8 s.f1 7)).bind fun z=>some (z.1,z.2.1))=some (F',vals')) :
  Calls Try.prog 25 #[.pointer (some ⟨gm,0,none⟩),.agg #[.int .u8 s.f0,.int .u8 s.f1,.int .u8 s.f2,.int .u8 s.f3,.int .u8 s.f4,.int .u64 s.f5]] w fun e w'=>e = .returned (.tuple #[])∧After w0 w P gm gf vW vA vS vR vB vV F' b vals' w':=by
 obtain ⟨⟨F1,vals1,x1⟩,h1,h⟩:=Option.bind_eq_some_iff.mp h
 injection h with h
 injection h with hF hv
 subst hF hv
 go_enter Try.func25,Try.ntmps25
 go_upto_region 12 with (first | ((with_reducible refine gate_dst (N:=3) rfl ?_);refine box_event ?hg (N:=3) ?hd (cs := #[.int .u8 s.f0,.int .u8 s.f1,.int .u8 s.f2,.int .u8 s.f3,.int .u8 s.f4,.int .u64 s.f5]) (t:=87) ?hr ?_;(case hd=>rfl);(case hg=>rfl);(case hr=>first | (go_simp;done) | (go_simp;rfl));intro g hg w1 hbox hb1;have D:=Mid.start (O:=fun k=>k=g) hM hb1 (fun k e=>by have:=blk_lt hbox;omega);have B:=hbox;have c4:=own_cell B 4 (.int .u8 s.f4) rfl;clear hbox hb1;replace hg:=Aside0.mk hg) | (go_at_call 24;refine (jacquardref27_wide.calls s.f4 wd _ hwd).mono ?_;rintro e w2 ⟨rfl,hb2⟩;replace D:=D.below hb2;replace B:=blk_below B hb2;clear c4 hb2;have c0:=own_cell B 0 (.int .u8 s.f0) rfl;skip) | (go_at_call 42;refine (jacquardref01_IsCompare.calls op false _ hc).mono ?_;rintro e w3 ⟨rfl,hb3⟩;replace D:=D.below hb3.below;replace B:=blk_below B hb3.below;clear hb3 c0) | (go_at_call 44;refine (jacquardref01_IsBinary.calls op false _ hd).mono ?_;rintro e w4 ⟨rfl,hb4⟩;replace D:=D.below hb4.below;replace B:=blk_below B hb4.below;clear hb4))
 have c1:=own_cell B 1 (.int .u8 s.f1) rfl
 go_wp2_with (first | (go_at_call 43;refine (mkValue_calls D.M h1).mono ?_;rintro e w' ⟨rfl,hA⟩))
 obtain ⟨vW2,vV2,D',-⟩:=D.next hA
 go_end0
 exact ⟨rfl,D'.done⟩
set_option maxHeartbeats 8000000 in
set_option maxRecDepth 100000 in
theorem mkStepL_calls {w0 w:World} {P:Nat→Prop} {gm gf:Nat} {F F':FN} {b wd op:Int} {vals vals':List Int} {vW vA vS vR vB vV:Value} {s:S87} (hM:MKv w0 w P gm gf F b vals vW vA vS vR vB vV) (hwd:jacquardref27_wide.f s.f4=some wd) (hop:wrap64 (1+Int.tmod (wrap64 s.f0) 28)=op) (b1:(op==1)=false) (hc:jacquardref01_IsCompare.f op=some false) (hd:jacquardref01_IsBinary.f op=some false) (b2:(op==21)=false) (b3:decide (op<25)=false) (b4:(op==25)=true) {kk:Int} (hkk:Int.tmod (wrap64 s.f2) (F.ar.length:Int)=kk)
  (h:mkLoad F b vals s op kk=some (F',vals')) :
  Calls Try.prog 25 #[.pointer (some ⟨gm,0,none⟩),.agg #[.int .u8 s.f0,.int .u8 s.f1,.int .u8 s.f2,.int .u8 s.f3,.int .u8 s.f4,.int .u64 s.f5]] w fun e w'=>e = .returned (.tuple #[])∧After w0 w P gm gf vW vA vS vR vB vV F' b vals' w':=by
 unfold mkLoad at h
 split at h
 case isFalse=>exact absurd h (by simp)
 rename_i hi
 obtain ⟨⟨F1,vals1,x1⟩,h1,h⟩:=Option.bind_eq_some_iff.mp h
 obtain ⟨⟨F2,vals2,x2⟩,h2,h⟩:=Option.bind_eq_some_iff.mp h
 obtain ⟨⟨F3,vals3,x3⟩,h3,h⟩:=Option.bind_eq_some_iff.mp h
 injection h with h
 injection h with hF hv
 subst hF hv
 obtain ⟨AA,cA,rfl⟩:=Kd.R_slice hM.rA
 have l0:(F.ar.length:Int)≠0:=by omega
 have l1:decide ((F.ar.length:Int)>0)=true:=decide_eq_true (by omega)
 have l2:decide (0<F.ar.length)=true:=decide_eq_true (by omega)
 have l3:((F.ar.length:Int) != 0)=true:=by simpa using l0
 have l4:((F.ar.length:Int)==0)=false:=by simpa using l0
 have l5:¬ (F.ar = []):=fun e=>l0 (by rw [e];rfl)
 obtain ⟨ad,ea,-⟩:=at_T78 (Kd.R_reads' hM.rA).2.2 kk hi.1 hi.2
 cases ea
 have p0:(0≤kk)=True:=eq_true hi.1
 have q0:(kk<(F.ar.length:Int))=True:=eq_true hi.2
 replace hi:=Aside0.mk hi
 replace l0:=Aside0.mk l0
 go_enter Try.func25,Try.ntmps25
 go_upto_region 14 with (first | ((with_reducible refine gate_dst (N:=3) rfl ?_);refine box_event ?hg (N:=3) ?hd (cs := #[.int .u8 s.f0,.int .u8 s.f1,.int .u8 s.f2,.int .u8 s.f3,.int .u8 s.f4,.int .u64 s.f5]) (t:=87) ?hr ?_;(case hd=>rfl);(case hg=>rfl);(case hr=>first | (go_simp;done) | (go_simp;rfl));intro g hg w1 hbox hb1;have D:=Mid.start (O:=fun k=>k=g) hM hb1 (fun k e=>by have:=blk_lt hbox;omega);have B:=hbox;have c4:=own_cell B 4 (.int .u8 s.f4) rfl;clear hbox hb1;replace hg:=Aside0.mk hg) | (go_at_call 24;refine (jacquardref27_wide.calls s.f4 wd _ hwd).mono ?_;rintro e w2 ⟨rfl,hb2⟩;replace D:=D.below hb2;replace B:=blk_below B hb2;clear c4 hb2;have c0:=own_cell B 0 (.int .u8 s.f0) rfl;skip) | (go_at_call 42;refine (jacquardref01_IsCompare.calls op false _ hc).mono ?_;rintro e w3 ⟨rfl,hb3⟩;replace D:=D.below hb3.below;replace B:=blk_below B hb3.below;clear hb3 c0) | (go_at_call 44;refine (jacquardref01_IsBinary.calls op false _ hd).mono ?_;rintro e w4 ⟨rfl,hb4⟩;replace D:=D.below hb4.below;replace B:=blk_below B hb4.below;clear hb4;have z1:=D.M.cells.1;have z5:=D.M.cells.2.2.2.2.1))
 try go_wp2
 clear z1 z5
 refine start_ (n:=13) (S:=fun w'=>w'.cell? ⟨g,2,none⟩=some (.int .u8 s.f2)∧w'.cell? ⟨gm,0,none⟩=some (.pointer (some ⟨gf,0,none⟩))∧w'.cell? ⟨gf,2,none⟩=some (.slice (some ad) F.ar.length cA)) (ds:=[]) (bz 13 0) (by kernel_rfl) rfl rfl ⟨(own_cell (blk_drew B) 2 (.int .u8 s.f2) rfl),(D.drew.M.cells.1),(D.drew.M.cells.2.2.2.2.1)⟩ (fun hHeld=>?_)
 refine with_tabW mkStepL.tab14 mkStepL.bits14 (fun HT_ HW_=>?_)
 have D2:=D.drew
 have B2:=blk_drew B
 generalize w4.drew=w5 at hHeld D2 B2 ⊢
 clear D B
 refine pu_ 0 115 HT_ ?_
 refine pu_ 3 118 HT_ ?_
 refine pu_ 4 119 HT_ ?_
 refine pu_ 5 120 HT_ ?_
 refine tk_ 1 116 HT_ HW_ hHeld ?_ (hy:=by rintro w' ⟨s0,s1,s2⟩;go_simp;with_reducible rfl)
 refine pu_ 2 117 HT_ ?_
 refine tk_ 6 121 HT_ HW_ hHeld ?_ (hy:=by rintro w' ⟨s0,s1,s2⟩;go_simp;with_reducible rfl)
 refine pu_ 7 122 HT_ ?_
 refine pu_ 8 123 HT_ ?_
 refine tk_ 9 124 HT_ HW_ hHeld ?_ (hy:=by rintro w' ⟨s0,s1,s2⟩;go_simp;with_reducible rfl)
 refine pu_ 10 125 HT_ ?_
 refine pu_ 11 126 HT_ ?_
 refine pu_ 12 6 HT_ ?_
 refine done_ (done_of HT_.out (by kernel_rfl)) ?_
 try go_wp2
 replace D2:=D2.drew
 replace B2:=blk_drew B2
 clear hHeld
 refine start_ (n:=25) (S:=fun w'=>w'.cell? ⟨g,1,none⟩=some (.int .u8 s.f1)∧w'.cell? ⟨g,3,none⟩=some (.int .u8 s.f3)∧w'.cell? ⟨gm,0,none⟩=some (.pointer (some ⟨gf,0,none⟩))∧w'.cell? ⟨gf,2,none⟩=some (.slice (some ad) F.ar.length cA)∧w'.cell? ⟨(ad.add (kk.toNat*5)).block,(ad.add (kk.toNat*5)).off+1,none⟩=some (.int .i64 (rd_T78 F.ar kk).f1)) (ds:=[24]) (bz 25 0) (by kernel_rfl) rfl rfl ⟨(own_cell B2 1 (.int .u8 s.f1) rfl),(own_cell B2 3 (.int .u8 s.f3) rfl),(D2.M.cells.1),(D2.M.cells.2.2.2.2.1),(D2.M.arr rfl hi.out.1 hi.out.2)⟩ (fun hHeld=>?_)
 refine with_tabW mkStepL.tab15 mkStepL.bits15 (fun HT_ HW_=>?_)
 generalize w5.drew=w6 at hHeld D2 B2 ⊢
 refine pu_ 0 127 HT_ ?_
 refine pu_ 1 128 HT_ ?_
 refine pu_ 2 129 HT_ ?_
 refine pu_ 3 130 HT_ ?_
 refine pu_ 4 131 HT_ ?_
 refine pu_ 7 134 HT_ ?_
 refine pu_ 8 135 HT_ ?_
 refine pu_ 13 140 HT_ ?_
 refine pu_ 14 141 HT_ ?_
 refine pu_ 15 142 HT_ ?_
 refine pu_ 20 147 HT_ ?_
 refine tk_ 5 132 HT_ HW_ hHeld ?_ (hy:=by rintro w' ⟨s0,s1,s2,s3,s4⟩;go_simp;with_reducible rfl)
 refine tk_ 9 136 HT_ HW_ hHeld ?_ (hy:=by rintro w' ⟨s0,s1,s2,s3,s4⟩;go_simp;with_reducible rfl)
 refine tk_ 16 143 HT_ HW_ hHeld ?_ (hy:=by rintro w' ⟨s0,s1,s2,s3,s4⟩;go_simp;with_reducible rfl)
 refine pu_ 17 144 HT_ ?_
 refine pu_ 18 145 HT_ ?_
 refine tk_ 19 146 HT_ HW_ hHeld ?_ (hy:=by rintro w' ⟨s0,s1,s2,s3,s4⟩;go_simp;with_reducible rfl)
 refine pu_ 21 148 HT_ ?_
 refine pu_ 22 149 HT_ ?_
 refine tk_ 23 150 HT_ HW_ hHeld ?_ (hy:=by rintro w' ⟨s0,s1,s2,s3,s4⟩;go_simp;with_reducible rfl)
 refine on_ 6 (some 133) HT_ (fun K hK=>?_)
 refine gs_ Try.func45 #[.pointer (some ⟨gm,0,none⟩),.int .u8 s.f1] ?_
 refine (mkAny_calls D2.M h1).mono ?_
 rintro e w7 ⟨rfl,hA⟩
 refine ⟨_,rfl,?_⟩
 obtain ⟨vWD3,vVD3,D3,hk⟩:=D2.next hA
 have B3:=(hk g rfl).trans B2
 clear hA hk
 refine hK.out _ _ ⟨own_cell B3 1 (.int .u8 s.f1) rfl,own_cell B3 3 (.int .u8 s.f3) rfl,D3.M.cells.1,D3.M.cells.2.2.2.2.1,D3.M.arr (mkAny_same h1).2.1 hi.out.1 hi.out.2⟩ (fun hHeld=>?_);clear hK K
 refine no_ 133 ?_
 refine on_ 10 (some 137) HT_ (fun K hK=>?_)
 refine gs_ Try.func43 #[.pointer (some ⟨gm,0,none⟩),.int .i64 1,.int .u8 s.f3] ?_
 refine (mkValue_calls D3.M h2).mono ?_
 rintro e w8 ⟨rfl,hA⟩
 refine ⟨_,rfl,?_⟩
 obtain ⟨vWD4,vVD4,D4,hk⟩:=D3.next hA
 have B4:=(hk g rfl).trans B3
 clear hA hk
 refine hK.out _ _ ⟨own_cell B4 1 (.int .u8 s.f1) rfl,own_cell B4 3 (.int .u8 s.f3) rfl,D4.M.cells.1,D4.M.cells.2.2.2.2.1,D4.M.arr ((mkAny_same h1).trans (mkValue_same h2)).2.1 hi.out.1 hi.out.2⟩ (fun hHeld=>?_);clear hK K
 refine no_ 137 ?_
 refine on_ 11 (some 138) HT_ (fun K hK=>?_)
 refine value_ (w1:=?_) (v:=?_) (by rfl) rfl ?_ ?_;rotate_left 2;(go_simp;constructor);(rfl);(rfl)
 refine hK.out _ _ ⟨own_cell (blk_alloc B4 _) 1 (.int .u8 s.f1) rfl,own_cell (blk_alloc B4 _) 3 (.int .u8 s.f3) rfl,(D4.alloc _).M.cells.1,(D4.alloc _).M.cells.2.2.2.2.1,(D4.alloc _).M.arr ((mkAny_same h1).trans (mkValue_same h2)).2.1 hi.out.1 hi.out.2⟩ (fun hHeld=>?_);clear hK K
 refine no_ 138 ?_
 refine pu_ 12 139 HT_ ?_
 refine la_ 24 (some 151) HT_ (fun K hK=>?_)
 refine gs_ Try.func40 #[.pointer (some ⟨gm,0,none⟩),.agg #[.int .i64 op,.int .i64 0,.slice (some ⟨w8.heap.size,0,none⟩) 2 2,.int .u64 0,.int .i64 kk],.int .i64 (rd_T78 F.ar kk).f1] ?_
 refine (mkAdd_calls (x:=⟨op,0,[x1,x2],0,kk⟩) (PA:=fun k=>k=w8.heap.size) (D4.M.bound.alloc _) (lit_R w8 w0.heap.size [x1,x2] D4.M.ge (by show 2≤_;omega)) (fun k e h=>by have:=h.2;omega) h3).mono ?_
 rintro e w9 ⟨rfl,hB⟩
 refine ⟨_,rfl,?_⟩
 have D5:=D4.done_add (below_alloc (Below.refl _ _) _) (fun k e=>Nat.le_of_eq e.symm) hB
 clear hB
 refine hK.out _ _ ?_;clear hK K
 refine no_ 151 ?_
 refine done_ (done_of HT_.out (by kernel_rfl)) ?_
 try go_wp2
 go_end0
 exact ⟨rfl,D5⟩
set_option maxHeartbeats 8000000 in
set_option maxRecDepth 100000 in
theorem mkStepR_calls {w0 w:World} {P:Nat→Prop} {gm gf:Nat} {F F':FN} {b wd op:Int} {vals vals':List Int} {vW vA vS vR vB vV:Value} {s:S87} (hM:MKv w0 w P gm gf F b vals vW vA vS vR vB vV) (hwd:jacquardref27_wide.f s.f4=some wd) (hop:wrap64 (1+Int.tmod (wrap64 s.f0) 28)=op) (b1:(op==1)=false) (hc:jacquardref01_IsCompare.f op=some false) (hd:jacquardref01_IsBinary.f op=some false) (b2:(op==21)=false) (b3:decide (op<25)=false) (b4:(op==25)=false) (b5:(op==26)=false) (b6:(op==27)=true) {kk:Int} (hst:mkStream F.st false s.f2=some kk)
  (h:mkRecv F b vals s op kk=some (F',vals')) :
  Calls Try.prog 25 #[.pointer (some ⟨gm,0,none⟩),.agg #[.int .u8 s.f0,.int .u8 s.f1,.int .u8 s.f2,.int .u8 s.f3,.int .u8 s.f4,.int .u64 s.f5]] w fun e w'=>e = .returned (.tuple #[])∧After w0 w P gm gf vW vA vS vR vB vV F' b vals' w':=by
 unfold mkRecv at h
 split at h
 case isFalse=>exact absurd h (by simp)
 rename_i hi
 obtain ⟨⟨F1,vals1,x1⟩,h1,h⟩:=Option.bind_eq_some_iff.mp h
 obtain ⟨⟨F2,vals2,x2⟩,h2,h⟩:=Option.bind_eq_some_iff.mp h
 injection h with h
 injection h with hF hv
 subst hF hv
 obtain ⟨AS,cS,rfl⟩:=Kd.R_slice hM.rS
 obtain ⟨ad,ea,-⟩:=at_T80 (Kd.R_reads' hM.rS).2.2 kk hi.1 hi.2
 cases ea
 have p0:(0≤kk)=True:=eq_true hi.1
 have q0:(kk<(F.st.length:Int))=True:=eq_true hi.2
 have p1:decide (kk≥0)=true:=decide_eq_true hi.1
 replace hi:=Aside0.mk hi
 go_enter Try.func25,Try.ntmps25
 go_upto_region 22 with (first | ((with_reducible refine gate_dst (N:=3) rfl ?_);refine box_event ?hg (N:=3) ?hd (cs := #[.int .u8 s.f0,.int .u8 s.f1,.int .u8 s.f2,.int .u8 s.f3,.int .u8 s.f4,.int .u64 s.f5]) (t:=87) ?hr ?_;(case hd=>rfl);(case hg=>rfl);(case hr=>first | (go_simp;done) | (go_simp;rfl));intro g hg w1 hbox hb1;have D:=Mid.start (O:=fun k=>k=g) hM hb1 (fun k e=>by have:=blk_lt hbox;omega);have B:=hbox;have c4:=own_cell B 4 (.int .u8 s.f4) rfl;clear hbox hb1;replace hg:=Aside0.mk hg) | (go_at_call 24;refine (jacquardref27_wide.calls s.f4 wd _ hwd).mono ?_;rintro e w2 ⟨rfl,hb2⟩;replace D:=D.below hb2;replace B:=blk_below B hb2;clear c4 hb2;have c0:=own_cell B 0 (.int .u8 s.f0) rfl;skip) | (go_at_call 42;refine (jacquardref01_IsCompare.calls op false _ hc).mono ?_;rintro e w3 ⟨rfl,hb3⟩;replace D:=D.below hb3.below;replace B:=blk_below B hb3.below;clear hb3 c0) | (go_at_call 44;refine (jacquardref01_IsBinary.calls op false _ hd).mono ?_;rintro e w4 ⟨rfl,hb4⟩;replace D:=D.below hb4.below;replace B:=blk_below B hb4.below;clear hb4;have c2:=own_cell B 2 (.int .u8 s.f2) rfl) | (go_at_call 46;refine (mkStream_calls (out:=false) D.M hst).mono ?_;rintro e w5 ⟨rfl,hb5⟩;replace D:=D.below hb5;replace B:=blk_below B hb5;clear hb5;have c2:=own_cell B 2 (.int .u8 s.f2) rfl))
 try go_wp2
 clear c2
 refine start_ (n:=21) (S:=fun w'=>w'.cell? ⟨g,3,none⟩=some (.int .u8 s.f3)∧w'.cell? ⟨gm,0,none⟩=some (.pointer (some ⟨gf,0,none⟩))∧w'.cell? ⟨gf,3,none⟩=some (.slice (some ad) F.st.length cS)∧w'.cell? ⟨(ad.add (kk.toNat*3)).block,(ad.add (kk.toNat*3)).off+1,none⟩=some (.int .i64 (rd_T80 F.st kk).f1)) (ds:=[20]) (bz 21 0) (by kernel_rfl) rfl rfl ⟨(own_cell (blk_drew B) 3 (.int .u8 s.f3) rfl),(D.drew.M.cells.1),(D.drew.M.cells.2.2.2.2.2.1),(D.drew.M.str rfl hi.out.1 hi.out.2)⟩ (fun hHeld=>?_)
 refine with_tabW mkStepR.tab22 mkStepR.bits22 (fun HT_ HW_=>?_)
 have D2:=D.drew
 have B2:=blk_drew B
 generalize World.drew _=w6 at hHeld D2 B2 ⊢
 clear D B
 refine pu_ 0 249 HT_ ?_
 refine pu_ 1 250 HT_ ?_
 refine pu_ 2 251 HT_ ?_
 refine pu_ 3 252 HT_ ?_
 refine pu_ 4 253 HT_ ?_
 refine pu_ 9 258 HT_ ?_
 refine pu_ 10 259 HT_ ?_
 refine pu_ 11 260 HT_ ?_
 refine pu_ 16 265 HT_ ?_
 refine tk_ 5 254 HT_ HW_ hHeld ?_ (hy:=by rintro w' ⟨s0,s1,s2,s3⟩;go_simp;with_reducible rfl)
 refine tk_ 12 261 HT_ HW_ hHeld ?_ (hy:=by rintro w' ⟨s0,s1,s2,s3⟩;go_simp;with_reducible rfl)
 refine pu_ 13 262 HT_ ?_
 refine pu_ 14 263 HT_ ?_
 refine tk_ 15 264 HT_ HW_ hHeld ?_ (hy:=by rintro w' ⟨s0,s1,s2,s3⟩;go_simp;with_reducible rfl)
 refine pu_ 17 266 HT_ ?_
 refine pu_ 18 267 HT_ ?_
 refine tk_ 19 268 HT_ HW_ hHeld ?_ (hy:=by rintro w' ⟨s0,s1,s2,s3⟩;go_simp;with_reducible rfl)
 refine on_ 6 (some 255) HT_ (fun K hK=>?_)
 refine gs_ Try.func43 #[.pointer (some ⟨gm,0,none⟩),.int .i64 1,.int .u8 s.f3] ?_
 refine (mkValue_calls D2.M h1).mono ?_
 rintro e w7 ⟨rfl,hA⟩
 refine ⟨_,rfl,?_⟩
 obtain ⟨vWD3,vVD3,D3,hk⟩:=D2.next hA
 have B3:=(hk g rfl).trans B2
 clear hA hk
 refine hK.out _ _ ⟨own_cell B3 3 (.int .u8 s.f3) rfl,D3.M.cells.1,D3.M.cells.2.2.2.2.2.1,D3.M.str (mkValue_same h1).2.2.1 hi.out.1 hi.out.2⟩ (fun hHeld=>?_);clear hK K
 refine no_ 255 ?_
 refine on_ 7 (some 256) HT_ (fun K hK=>?_)
 refine value_ (w1:=?_) (v:=?_) (by rfl) rfl ?_ ?_;rotate_left 2;(go_simp;constructor);(rfl);(rfl)
 refine hK.out _ _ ⟨own_cell (blk_alloc B3 _) 3 (.int .u8 s.f3) rfl,(D3.alloc _).M.cells.1,(D3.alloc _).M.cells.2.2.2.2.2.1,(D3.alloc _).M.str (mkValue_same h1).2.2.1 hi.out.1 hi.out.2⟩ (fun hHeld=>?_);clear hK K
 refine no_ 256 ?_
 refine pu_ 8 257 HT_ ?_
 refine la_ 20 (some 269) HT_ (fun K hK=>?_)
 refine gs_ Try.func40 #[.pointer (some ⟨gm,0,none⟩),.agg #[.int .i64 op,.int .i64 0,.slice (some ⟨w7.heap.size,0,none⟩) 1 1,.int .u64 0,.int .i64 kk],.int .i64 (rd_T80 F.st kk).f1] ?_
 refine (mkAdd_calls (x:=⟨op,0,[x1],0,kk⟩) (PA:=fun k=>k=w7.heap.size) (D3.M.bound.alloc _) (lit_R w7 w0.heap.size [x1] D3.M.ge (by show 1≤_;omega)) (fun k e h=>by have:=h.2;omega) h2).mono ?_
 rintro e w9 ⟨rfl,hB⟩
 refine ⟨_,rfl,?_⟩
 have D4:=D3.done_add (below_alloc (Below.refl _ _) _) (fun k e=>Nat.le_of_eq e.symm) hB
 clear hB
 refine hK.out _ _ ?_;clear hK K
 refine no_ 269 ?_
 refine done_ (done_of HT_.out (by kernel_rfl)) ?_
 try go_wp2
 go_end0
 exact ⟨rfl,D4⟩
section
variable {w0 w W W1:World} {P O:Nat→Prop} {gm gf:Nat} {F:FN} {b:Int} {vals:List Int} {vW vA vS vR vB vV vW' vV':Value}
theorem Mid.lit (h:Mid w0 w P O gm gf vW vA vS vR vB vV F b vals vW' vV' W) (xs:List Int) (hm:xs.length≤9223372036854775807) {cs:Array Value} (hq:W.alloc (.cells cs 3)=W1) (hcs:cs=(nums .i64 xs).toArray) :
  Mid w0 w P (fun k=>O k∨k=W.heap.size) gm gf vW vA vS vR vB vV F b vals vW' vV' W1∧Below W.heap.size W W1∧Kd.R (Kd.int .i64) 3 W1 w0.heap.size (fun k=>k=W.heap.size) (.slice (some ⟨W.heap.size,0,none⟩) xs.length xs.length) xs:=by
 obtain ⟨a,b,_⟩:=h.new _ hq
 refine ⟨a,b,?_⟩
 subst hcs hq
 exact lit_R W w0.heap.size xs h.M.ge hm
end
def mkStepT.T17:Bool × List (List Nat × List Nat):=(true,[([],[]),([0],[0]),([1],[1]),([],[]),([3],[3]),([4],[4]),([5],[5]),([6],[6]),([7],[7]),([8],[8]),([9],[9]),([2,10],[2,10]),([11,0,1,2,3,4,5,6,7,8,9,10,11],[11])])
def mkStepT.B17:List Nat:=[0,1,3,0,8,24,56,120,248,504,1016,2047,4095]
theorem mkStepT.tab17:rtab .any (opsOf Try.f25 17)=mkStepT.T17:=by kernel_rfl
theorem mkStepT.bits17:waitsOk mkStepT.T17.2 mkStepT.B17=true:=by kernel_rfl
def mkStepT.T18:Bool × List (List Nat × List Nat):=(true,[([],[]),([],[]),([],[]),([],[]),([3],[3]),([2,4],[2,4]),([],[]),([],[]),([7],[7]),([8],[8]),([9],[9]),([10],[10]),([11],[11]),([12],[12]),([],[]),([13,14],[13,14]),([15],[15]),([16],[16]),([],[]),([18],[18]),([6,17,19,5],[6,17,19]),([],[]),([],[]),([22],[22]),([21,23,20],[21,23]),([5,20,24],[5,20,24]),([0,1,25],[0,1,25]),([],[]),([27,26,24,0,1,2,3,4,5,6,7,8,9,10,11,12,13,14,15,16,17,18,19,20,21,22,23,24,25,26,27],[26,27])])
def mkStepT.B18:List Nat:=[0,0,0,0,8,28,0,0,128,384,896,1920,3968,8064,0,32640,65408,130944,0,262144,1048572,0,0,4194304,16777212,33554428,67108863,0,268435455]
theorem mkStepT.tab18:rtab .any (opsOf Try.f25 18)=mkStepT.T18:=by kernel_rfl
theorem mkStepT.bits18:waitsOk mkStepT.T18.2 mkStepT.B18=true:=by kernel_rfl
def mkStepT.T19:Bool × List (List Nat × List Nat):=(true,[([],[]),([0],[0]),([1],[1]),([2],[2]),([3],[3]),([4],[4]),([5],[5]),([],[]),([7],[7]),([8],[8]),([9],[9]),([],[]),([11],[11]),([12],[12]),([13],[13]),([14],[14]),([15],[15]),([16],[16]),([],[]),([18],[18]),([19],[19]),([20],[20]),([17,21],[17,21]),([22],[22]),([23],[23]),([],[]),([25],[25]),([24,26],[24,26]),([6,10,0,1,2,3,4,5,6,7,8,9,10,11,12,13,14,15,16,17,18,19,20,21,22,23,24,25,26,27],[6,10]),([28,0,1,2,3,4,5,6,7,8,9,10,11,12,13,14,15,16,17,18,19,20,21,22,23,24,25,26,27],[28]),([29,27,27,0,1,2,3,4,5,6,7,8,9,10,11,12,13,14,15,16,17,18,19,20,21,22,23,24,25,26,27],[27,29])])
def mkStepT.B19:List Nat:=[0,1,3,7,15,31,63,0,128,384,896,0,2048,6144,14336,30720,63488,129024,0,262144,786432,1835008,4192256,8386560,16775168,0,33554432,134215680,268435455,536870911,1073741823]
theorem mkStepT.tab19:rtab .any (opsOf Try.f25 19)=mkStepT.T19:=by kernel_rfl
theorem mkStepT.bits19:waitsOk mkStepT.T19.2 mkStepT.B19=true:=by kernel_rfl
set_option maxHeartbeats 8000000 in
set_option maxRecDepth 100000 in
theorem mkStepT_calls {w0 w:World} {P:Nat→Prop} {gm gf:Nat} {F F':FN} {b wd op:Int} {vals vals':List Int} {vW vA vS vR vB vV:Value} {s:S87} (hM:MKv w0 w P gm gf F b vals vW vA vS vR vB vV) (hwd:jacquardref27_wide.f s.f4=some wd) (hop:wrap64 (1+Int.tmod (wrap64 s.f0) 28)=op) (b1:(op==1)=false) (hc:jacquardref01_IsCompare.f op=some false) (hd:jacquardref01_IsBinary.f op=some false) (b2:(op==21)=false) (b3:decide (op<25)=false) (b4:(op==25)=false) (b5:(op==26)=true) {kk:Int} (hkk:Int.tmod (wrap64 s.f2) (F.ar.length:Int)=kk)
  (h:mkStore F b vals s op kk=some (F',vals')) :
  Calls Try.prog 25 #[.pointer (some ⟨gm,0,none⟩),.agg #[.int .u8 s.f0,.int .u8 s.f1,.int .u8 s.f2,.int .u8 s.f3,.int .u8 s.f4,.int .u64 s.f5]] w fun e w'=>e = .returned (.tuple #[])∧After w0 w P gm gf vW vA vS vR vB vV F' b vals' w':=by
 unfold mkStore at h
 split at h
 case isFalse=>exact absurd h (by simp)
 rename_i hi
 obtain ⟨⟨F1,vals1,x1⟩,h1,h⟩:=Option.bind_eq_some_iff.mp h
 obtain ⟨⟨F2,vals2,x2⟩,h2,h⟩:=Option.bind_eq_some_iff.mp h
 obtain ⟨⟨F3,vals3,x3⟩,h3,h⟩:=Option.bind_eq_some_iff.mp h
 unfold mkPush at h
 split at h
 case isFalse=>exact absurd h (by simp)
 rename_i hb
 obtain ⟨hb0,hb1,hb2⟩:=hb
 injection h with h
 injection h with hF hv
 subst hF hv
 obtain ⟨AA,cA,rfl⟩:=Kd.R_slice hM.rA
 have l0:(F.ar.length:Int)≠0:=by omega
 have l1:decide ((F.ar.length:Int)>0)=true:=decide_eq_true (by omega)
 have l2:decide (0<F.ar.length)=true:=decide_eq_true (by omega)
 have l3:((F.ar.length:Int) != 0)=true:=by simpa using l0
 have l4:((F.ar.length:Int)==0)=false:=by simpa using l0
 have l5:¬ (F.ar = []):=fun e=>l0 (by rw [e];rfl)
 obtain ⟨ad,ea,-⟩:=at_T78 (Kd.R_reads' hM.rA).2.2 kk hi.1 hi.2
 cases ea
 have p0:(0≤kk)=True:=eq_true hi.1
 have q0:(kk<(F.ar.length:Int))=True:=eq_true hi.2
 replace hi:=Aside0.mk hi
 replace l0:=Aside0.mk l0
 go_enter Try.func25,Try.ntmps25
 go_upto_region 17 with (first | ((with_reducible refine gate_dst (N:=3) rfl ?_);refine box_event ?hg (N:=3) ?hd (cs := #[.int .u8 s.f0,.int .u8 s.f1,.int .u8 s.f2,.int .u8 s.f3,.int .u8 s.f4,.int .u64 s.f5]) (t:=87) ?hr ?_;(case hd=>rfl);(case hg=>rfl);(case hr=>first | (go_simp;done) | (go_simp;rfl));intro g hg w1 hbox hb1;have D:=Mid.start (O:=fun k=>k=g) hM hb1 (fun k e=>by have:=blk_lt hbox;omega);have B:=hbox;have c4:=own_cell B 4 (.int .u8 s.f4) rfl;clear hbox hb1;replace hg:=Aside0.mk hg) | (go_at_call 24;refine (jacquardref27_wide.calls s.f4 wd _ hwd).mono ?_;rintro e w2 ⟨rfl,hb2⟩;replace D:=D.below hb2;replace B:=blk_below B hb2;clear c4 hb2;have c0:=own_cell B 0 (.int .u8 s.f0) rfl;skip) | (go_at_call 42;refine (jacquardref01_IsCompare.calls op false _ hc).mono ?_;rintro e w3 ⟨rfl,hb3⟩;replace D:=D.below hb3.below;replace B:=blk_below B hb3.below;clear hb3 c0) | (go_at_call 44;refine (jacquardref01_IsBinary.calls op false _ hd).mono ?_;rintro e w4 ⟨rfl,hb4⟩;replace D:=D.below hb4.below;replace B:=blk_below B hb4.below;clear hb4;have z1:=D.M.cells.1;have z5:=D.M.cells.2.2.2.2.1))
 try go_wp2
 clear z1 z5
 refine start_ (n:=13) (S:=fun w'=>w'.cell? ⟨g,2,none⟩=some (.int .u8 s.f2)∧w'.cell? ⟨gm,0,none⟩=some (.pointer (some ⟨gf,0,none⟩))∧w'.cell? ⟨gf,2,none⟩=some (.slice (some ad) F.ar.length cA)) (ds:=[]) (bz 13 0) (by kernel_rfl) rfl rfl ⟨(own_cell (blk_drew B) 2 (.int .u8 s.f2) rfl),(D.drew.M.cells.1),(D.drew.M.cells.2.2.2.2.1)⟩ (fun hHeld=>?_)
 refine with_tabW mkStepT.tab17 mkStepT.bits17 (fun HT_ HW_=>?_)
 have D2:=D.drew
 have B2:=blk_drew B
 generalize w4.drew=w5 at hHeld D2 B2 ⊢
 clear D B
 refine pu_ 0 166 HT_ ?_
 refine pu_ 3 169 HT_ ?_
 refine pu_ 4 170 HT_ ?_
 refine pu_ 5 171 HT_ ?_
 refine tk_ 1 167 HT_ HW_ hHeld ?_ (hy:=by rintro w' ⟨s0,s1,s2⟩;go_simp;with_reducible rfl)
 refine pu_ 2 168 HT_ ?_
 refine tk_ 6 172 HT_ HW_ hHeld ?_ (hy:=by rintro w' ⟨s0,s1,s2⟩;go_simp;with_reducible rfl)
 refine pu_ 7 173 HT_ ?_
 refine pu_ 8 174 HT_ ?_
 refine tk_ 9 175 HT_ HW_ hHeld ?_ (hy:=by rintro w' ⟨s0,s1,s2⟩;go_simp;with_reducible rfl)
 refine pu_ 10 176 HT_ ?_
 refine pu_ 11 177 HT_ ?_
 refine pu_ 12 7 HT_ ?_
 refine done_ (done_of HT_.out (by kernel_rfl)) ?_
 try go_wp2
 replace D2:=D2.drew
 replace B2:=blk_drew B2
 clear hHeld
 refine start_ (n:=29) (S:=fun w'=>w'.cell? ⟨g,1,none⟩=some (.int .u8 s.f1)∧w'.cell? ⟨g,3,none⟩=some (.int .u8 s.f3)∧w'.cell? ⟨g,4,none⟩=some (.int .u8 s.f4)∧w'.cell? ⟨gm,0,none⟩=some (.pointer (some ⟨gf,0,none⟩))∧w'.cell? ⟨gf,2,none⟩=some (.slice (some ad) F.ar.length cA)∧w'.cell? ⟨(ad.add (kk.toNat*5)).block,(ad.add (kk.toNat*5)).off+1,none⟩=some (.int .i64 (rd_T78 F.ar kk).f1)) (ds:=[28]) (bz 29 0) (by kernel_rfl) rfl rfl ⟨(own_cell B2 1 (.int .u8 s.f1) rfl),(own_cell B2 3 (.int .u8 s.f3) rfl),(own_cell B2 4 (.int .u8 s.f4) rfl),(D2.M.cells.1),(D2.M.cells.2.2.2.2.1),(D2.M.arr rfl hi.out.1 hi.out.2)⟩ (fun hHeld=>?_)
 refine with_tabW mkStepT.tab18 mkStepT.bits18 (fun HT_ HW_=>?_)
 generalize w5.drew=w6 at hHeld D2 B2 ⊢
 refine pu_ 0 178 HT_ ?_
 refine pu_ 1 179 HT_ ?_
 refine pu_ 2 180 HT_ ?_
 refine pu_ 3 181 HT_ ?_
 refine pu_ 6 184 HT_ ?_
 refine pu_ 7 185 HT_ ?_
 refine pu_ 8 186 HT_ ?_
 refine pu_ 9 187 HT_ ?_
 refine pu_ 14 192 HT_ ?_
 refine pu_ 18 196 HT_ ?_
 refine pu_ 21 199 HT_ ?_
 refine pu_ 22 200 HT_ ?_
 refine tk_ 4 182 HT_ HW_ hHeld ?_ (hy:=by rintro w' ⟨s0,s1,s2,s3,s4,s5⟩;go_simp;with_reducible rfl)
 refine tk_ 10 188 HT_ HW_ hHeld ?_ (hy:=by rintro w' ⟨s0,s1,s2,s3,s4,s5⟩;go_simp;with_reducible rfl)
 refine pu_ 11 189 HT_ ?_
 refine pu_ 12 190 HT_ ?_
 refine tk_ 13 191 HT_ HW_ hHeld ?_ (hy:=by rintro w' ⟨s0,s1,s2,s3,s4,s5⟩;go_simp;with_reducible rfl)
 refine pu_ 15 193 HT_ ?_
 refine pu_ 16 194 HT_ ?_
 refine tk_ 17 195 HT_ HW_ hHeld ?_ (hy:=by rintro w' ⟨s0,s1,s2,s3,s4,s5⟩;go_simp;with_reducible rfl)
 refine tk_ 19 197 HT_ HW_ hHeld ?_ (hy:=by rintro w' ⟨s0,s1,s2,s3,s4,s5⟩;go_simp;with_reducible rfl)
 refine tk_ 23 201 HT_ HW_ hHeld ?_ (hy:=by rintro w' ⟨s0,s1,s2,s3,s4,s5⟩;go_simp;with_reducible rfl)
 refine join_ (σ := Nat × Nat) 1 (bz 29 268435455) (fun q=>[(183,.int .i64 x1),(198,.int .i64 x2),(202,.int .i64 x3),(203,.slice (some ⟨q.1,0,none⟩) 3 3),(204,.agg #[.int .i64 op,.int .i64 (-1),.slice (some ⟨q.1,0,none⟩) 3 3,.int .u64 0,.int .i64 kk]),(8,.pointer (some ⟨q.2,0,none⟩))]) (fun q w'=>∃ vW' vV',Mid w0 w P (fun k=>k=g∨k=q.1∨k=q.2) gm gf vW (.slice (some ad) F.ar.length cA) vS vR vB vV F3 b vals3 vW' vV' w'∧w'.heap[g]? = some (.cells #[.int .u8 s.f0,.int .u8 s.f1,.int .u8 s.f2,.int .u8 s.f3,.int .u8 s.f4,.int .u64 s.f5] 87 (0,0))∧Kd.R (Kd.int .i64) 3 w' w0.heap.size (fun k=>k=q.1) (.slice (some ⟨q.1,0,none⟩) 3 3) [x1,x2,x3]∧w'.heap[q.2]? = some (.cells #[.int .i64 0,.int .i64 0,.slice none 0 0,.int .u64 0,.int .i64 0] 72 (0,0))) ?_ ?_;rotate_left;(intro hCont;refine two_ (i:=5) (j:=27) (Ni:=some 183) (Nj:=some 8) (bz 29 15728639) (bz 29 149946335) rfl rfl rfl rfl (two_of HT_.out (by kernel_rfl)) (by decide) (by decide) (fun K hK=>?_) (fun K hK=>?_));(skip;refine gs_ Try.func45 #[.pointer (some ⟨gm,0,none⟩),.int .u8 s.f1] ?_;refine (mkAny_calls D2.M h1).mono ?_;rintro e u1 ⟨rfl,hA⟩;refine ⟨_,rfl,?_⟩;obtain ⟨vWD21,vVD21,D21,hk⟩:=D2.next hA;have B21:=(hk g (rfl)).trans B2;clear hA hk;refine hK.out _ _ ⟨own_cell B21 1 (.int .u8 s.f1) rfl,own_cell B21 3 (.int .u8 s.f3) rfl,own_cell B21 4 (.int .u8 s.f4) rfl,D21.M.cells.1,D21.M.cells.2.2.2.2.1,D21.M.arr (mkAny_same h1).2.1 hi.out.1 hi.out.2⟩ (fun hHeld=>?_);clear hK K;refine norm_ (a':=?_) ?_ ?_;rotate_left);(show Act.put _ (some 183) _=_;simp only [Act.put,List.setIfInBounds_toArray,List.set_cons_zero,List.set_cons_succ,i64_w,i32_w];rfl;refine two_ (i:=20) (j:=27) (Ni:=some 198) (Nj:=some 8) (bz 29 16777215) (bz 29 149946367) rfl rfl rfl rfl (two_of HT_.out (by kernel_rfl)) (by decide) (by decide) (fun K hK=>?_) (fun K hK=>?_));(skip;refine gs_ Try.func43 #[.pointer (some ⟨gm,0,none⟩),.int .i64 (rd_T78 F.ar kk).f1,.int .u8 s.f4] ?_;refine (mkValue_calls D21.M h2).mono ?_;rintro e u2 ⟨rfl,hA⟩;refine ⟨_,rfl,?_⟩;obtain ⟨vWD22,vVD22,D22,hk⟩:=D21.next hA;have B22:=(hk g (rfl)).trans B21;clear hA hk;refine hK.out _ _ ⟨own_cell B22 1 (.int .u8 s.f1) rfl,own_cell B22 3 (.int .u8 s.f3) rfl,own_cell B22 4 (.int .u8 s.f4) rfl,D22.M.cells.1,D22.M.cells.2.2.2.2.1,D22.M.arr ((mkAny_same h1).trans (mkValue_same h2)).2.1 hi.out.1 hi.out.2⟩ (fun hHeld=>?_);clear hK K;refine norm_ (a':=?_) ?_ ?_;rotate_left);(show Act.put _ (some 198) _=_;simp only [Act.put,List.setIfInBounds_toArray,List.set_cons_zero,List.set_cons_succ,i64_w,i32_w];rfl;refine two_ (i:=24) (j:=27) (Ni:=some 202) (Nj:=some 8) (bz 29 33554431) (bz 29 150994943) rfl rfl rfl rfl (two_of HT_.out (by kernel_rfl)) (by decide) (by decide) (fun K hK=>?_) (fun K hK=>?_));(skip;refine gs_ Try.func43 #[.pointer (some ⟨gm,0,none⟩),.int .i64 1,.int .u8 s.f3] ?_;refine (mkValue_calls D22.M h3).mono ?_;rintro e u3 ⟨rfl,hA⟩;refine ⟨_,rfl,?_⟩;obtain ⟨vWD23,vVD23,D23,hk⟩:=D22.next hA;have B23:=(hk g (rfl)).trans B22;clear hA hk;refine hK.out _ _ ⟨own_cell B23 1 (.int .u8 s.f1) rfl,own_cell B23 3 (.int .u8 s.f3) rfl,own_cell B23 4 (.int .u8 s.f4) rfl,D23.M.cells.1,D23.M.cells.2.2.2.2.1,D23.M.arr (((mkAny_same h1).trans (mkValue_same h2)).trans (mkValue_same h3)).2.1 hi.out.1 hi.out.2⟩ (fun hHeld=>?_);clear hK K;refine norm_ (a':=?_) ?_ ?_;rotate_left);(show Act.put _ (some 202) _=_;simp only [Act.put,List.setIfInBounds_toArray,List.set_cons_zero,List.set_cons_succ,i64_w,i32_w];rfl;refine two_ (i:=25) (j:=27) (Ni:=some 203) (Nj:=some 8) (bz 29 67108863) (bz 29 167772159) rfl rfl rfl rfl (two_of HT_.out (by kernel_rfl)) (by decide) (by decide) (fun K hK=>?_) (fun K hK=>?_));(skip;refine value_ (w1:=?_) (v:=?_) (by rfl) rfl ?_ ?_;rotate_left 2);(go_simp;constructor);(rfl);(rfl;generalize hq:World.alloc _ _=u4;obtain ⟨D24,hb,R24⟩:=D23.lit [x1,x2,x3] (by show 3≤_;omega) hq rfl;have B24:=blk_below B23 hb;clear hq hb;refine hK.out _ _ ⟨own_cell B24 1 (.int .u8 s.f1) rfl,own_cell B24 3 (.int .u8 s.f3) rfl,own_cell B24 4 (.int .u8 s.f4) rfl,D24.M.cells.1,D24.M.cells.2.2.2.2.1,D24.M.arr (((mkAny_same h1).trans (mkValue_same h2)).trans (mkValue_same h3)).2.1 hi.out.1 hi.out.2⟩ (fun hHeld=>?_);clear hK K;refine norm_ (a':=?_) ?_ ?_;rotate_left);(show Act.put _ (some 203) _=_;simp only [Act.put,List.setIfInBounds_toArray,List.set_cons_zero,List.set_cons_succ,i64_w,i32_w];rfl;refine pure_ (i:=26) (N:=some 204) (v:=?_) (a':=?_) (bz 29 134217727) rfl rfl (any_of HT_.out (by kernel_rfl)) (fun _ _ _ h=>h) (Or.inl ⟨by rfl,?_⟩) ?_ ?_;rotate_left);(intro w';go_simp;with_reducible rfl;rotate_left);(simp only [Act.put,List.setIfInBounds_toArray,List.set_cons_zero,List.set_cons_succ,i64_w,i32_w];rfl;refine on_ 27 (some 8) HT_ (fun K hK=>?_);refine value_ (w1:=?_) (v:=?_) (by rfl) rfl ?_ ?_;rotate_left 2);(go_simp;constructor);(rfl);(rfl;generalize hq:World.alloc _ _=u5;obtain ⟨D25,hb,Z25⟩:=D24.new _ hq;have B25:=blk_below B24 hb;have R25:=Kd.R_below R24 hb;clear hq hb;refine hK.out _ _ ⟨own_cell B25 1 (.int .u8 s.f1) rfl,own_cell B25 3 (.int .u8 s.f3) rfl,own_cell B25 4 (.int .u8 s.f4) rfl,D25.M.cells.1,D25.M.cells.2.2.2.2.1,D25.M.arr (((mkAny_same h1).trans (mkValue_same h2)).trans (mkValue_same h3)).2.1 hi.out.1 hi.out.2⟩ (fun hHeld=>?_);clear hK K;refine norm_ (a':=?_) ?_ ?_;rotate_left);(show Act.put _ (some 8) _=_;simp only [Act.put,List.setIfInBounds_toArray,List.set_cons_zero,List.set_cons_succ,i64_w,i32_w];rfl;exact norm_ (by simp only [putAll,Act.put,List.setIfInBounds_toArray,List.set_cons_zero,List.set_cons_succ]) (hCont (u3.heap.size,u4.heap.size) _ ⟨_,_,D25.reO (fun k hk=>by rcases hk with h | h | h <;> simp [h]),B25,R25,Z25⟩));(skip;refine value_ (w1:=?_) (v:=?_) (by rfl) rfl ?_ ?_;rotate_left 2);(go_simp;constructor);(rfl);(rfl;generalize hq:World.alloc _ _=u4;obtain ⟨D24,hb,Z24⟩:=D23.new _ hq;have B24:=blk_below B23 hb;clear hq hb;refine hK.out _ _ ⟨own_cell B24 1 (.int .u8 s.f1) rfl,own_cell B24 3 (.int .u8 s.f3) rfl,own_cell B24 4 (.int .u8 s.f4) rfl,D24.M.cells.1,D24.M.cells.2.2.2.2.1,D24.M.arr (((mkAny_same h1).trans (mkValue_same h2)).trans (mkValue_same h3)).2.1 hi.out.1 hi.out.2⟩ (fun hHeld=>?_);clear hK K;refine norm_ (a':=?_) ?_ ?_;rotate_left);(show Act.put _ (some 8) _=_;simp only [Act.put,List.setIfInBounds_toArray,List.set_cons_zero,List.set_cons_succ,i64_w,i32_w];rfl;refine on_ 25 (some 203) HT_ (fun K hK=>?_);refine value_ (w1:=?_) (v:=?_) (by rfl) rfl ?_ ?_;rotate_left 2);(go_simp;constructor);(rfl);(rfl;generalize hq:World.alloc _ _=u5;obtain ⟨D25,hb,R25⟩:=D24.lit [x1,x2,x3] (by show 3≤_;omega) hq rfl;have B25:=blk_below B24 hb;have Z25:=blk_below Z24 hb;clear hq hb;refine hK.out _ _ ⟨own_cell B25 1 (.int .u8 s.f1) rfl,own_cell B25 3 (.int .u8 s.f3) rfl,own_cell B25 4 (.int .u8 s.f4) rfl,D25.M.cells.1,D25.M.cells.2.2.2.2.1,D25.M.arr (((mkAny_same h1).trans (mkValue_same h2)).trans (mkValue_same h3)).2.1 hi.out.1 hi.out.2⟩ (fun hHeld=>?_);clear hK K;refine norm_ (a':=?_) ?_ ?_;rotate_left);(show Act.put _ (some 203) _=_;simp only [Act.put,List.setIfInBounds_toArray,List.set_cons_zero,List.set_cons_succ,i64_w,i32_w];rfl;refine pure_ (i:=26) (N:=some 204) (v:=?_) (a':=?_) (bz 29 268435455) rfl rfl (any_of HT_.out (by kernel_rfl)) (fun _ _ _ h=>h) (Or.inl ⟨by rfl,?_⟩) ?_ ?_;rotate_left);(intro w';go_simp;with_reducible rfl;rotate_left);(simp only [Act.put,List.setIfInBounds_toArray,List.set_cons_zero,List.set_cons_succ,i64_w,i32_w];rfl;exact norm_ (by simp only [putAll,Act.put,List.setIfInBounds_toArray,List.set_cons_zero,List.set_cons_succ]) (hCont (u4.heap.size,u3.heap.size) _ ⟨_,_,D25.reO (fun k hk=>by rcases hk with h | h | h <;> simp [h]),B25,R25,Z25⟩));(skip;refine value_ (w1:=?_) (v:=?_) (by rfl) rfl ?_ ?_;rotate_left 2);(go_simp;constructor);(rfl);(rfl;generalize hq:World.alloc _ _=u3;obtain ⟨D23,hb,Z23⟩:=D22.new _ hq;have B23:=blk_below B22 hb;clear hq hb;refine hK.out _ _ ⟨own_cell B23 1 (.int .u8 s.f1) rfl,own_cell B23 3 (.int .u8 s.f3) rfl,own_cell B23 4 (.int .u8 s.f4) rfl,D23.M.cells.1,D23.M.cells.2.2.2.2.1,D23.M.arr ((mkAny_same h1).trans (mkValue_same h2)).2.1 hi.out.1 hi.out.2⟩ (fun hHeld=>?_);clear hK K;refine norm_ (a':=?_) ?_ ?_;rotate_left);(show Act.put _ (some 8) _=_;simp only [Act.put,List.setIfInBounds_toArray,List.set_cons_zero,List.set_cons_succ,i64_w,i32_w];rfl;refine on_ 24 (some 202) HT_ (fun K hK=>?_);refine gs_ Try.func43 #[.pointer (some ⟨gm,0,none⟩),.int .i64 1,.int .u8 s.f3] ?_;refine (mkValue_calls D23.M h3).mono ?_;rintro e u4 ⟨rfl,hA⟩;refine ⟨_,rfl,?_⟩;obtain ⟨vWD24,vVD24,D24,hk⟩:=D23.next hA;have B24:=(hk g (.inl (rfl))).trans B23;have Z24:=(hk _ (.inr rfl)).trans Z23;clear hA hk;refine hK.out _ _ ⟨own_cell B24 1 (.int .u8 s.f1) rfl,own_cell B24 3 (.int .u8 s.f3) rfl,own_cell B24 4 (.int .u8 s.f4) rfl,D24.M.cells.1,D24.M.cells.2.2.2.2.1,D24.M.arr (((mkAny_same h1).trans (mkValue_same h2)).trans (mkValue_same h3)).2.1 hi.out.1 hi.out.2⟩ (fun hHeld=>?_);clear hK K;refine norm_ (a':=?_) ?_ ?_;rotate_left);(show Act.put _ (some 202) _=_;simp only [Act.put,List.setIfInBounds_toArray,List.set_cons_zero,List.set_cons_succ,i64_w,i32_w];rfl;refine on_ 25 (some 203) HT_ (fun K hK=>?_);refine value_ (w1:=?_) (v:=?_) (by rfl) rfl ?_ ?_;rotate_left 2);(go_simp;constructor);(rfl);(rfl;generalize hq:World.alloc _ _=u5;obtain ⟨D25,hb,R25⟩:=D24.lit [x1,x2,x3] (by show 3≤_;omega) hq rfl;have B25:=blk_below B24 hb;have Z25:=blk_below Z24 hb;clear hq hb;refine hK.out _ _ ⟨own_cell B25 1 (.int .u8 s.f1) rfl,own_cell B25 3 (.int .u8 s.f3) rfl,own_cell B25 4 (.int .u8 s.f4) rfl,D25.M.cells.1,D25.M.cells.2.2.2.2.1,D25.M.arr (((mkAny_same h1).trans (mkValue_same h2)).trans (mkValue_same h3)).2.1 hi.out.1 hi.out.2⟩ (fun hHeld=>?_);clear hK K;refine norm_ (a':=?_) ?_ ?_;rotate_left);(show Act.put _ (some 203) _=_;simp only [Act.put,List.setIfInBounds_toArray,List.set_cons_zero,List.set_cons_succ,i64_w,i32_w];rfl;refine pure_ (i:=26) (N:=some 204) (v:=?_) (a':=?_) (bz 29 268435455) rfl rfl (any_of HT_.out (by kernel_rfl)) (fun _ _ _ h=>h) (Or.inl ⟨by rfl,?_⟩) ?_ ?_;rotate_left);(intro w';go_simp;with_reducible rfl;rotate_left);(simp only [Act.put,List.setIfInBounds_toArray,List.set_cons_zero,List.set_cons_succ,i64_w,i32_w];rfl;exact norm_ (by simp only [putAll,Act.put,List.setIfInBounds_toArray,List.set_cons_zero,List.set_cons_succ]) (hCont (u4.heap.size,u2.heap.size) _ ⟨_,_,D25.reO (fun k hk=>by rcases hk with h | h | h <;> simp [h]),B25,R25,Z25⟩));(skip;refine value_ (w1:=?_) (v:=?_) (by rfl) rfl ?_ ?_;rotate_left 2);(go_simp;constructor);(rfl);(rfl;generalize hq:World.alloc _ _=u2;obtain ⟨D22,hb,Z22⟩:=D21.new _ hq;have B22:=blk_below B21 hb;clear hq hb;refine hK.out _ _ ⟨own_cell B22 1 (.int .u8 s.f1) rfl,own_cell B22 3 (.int .u8 s.f3) rfl,own_cell B22 4 (.int .u8 s.f4) rfl,D22.M.cells.1,D22.M.cells.2.2.2.2.1,D22.M.arr (mkAny_same h1).2.1 hi.out.1 hi.out.2⟩ (fun hHeld=>?_);clear hK K;refine norm_ (a':=?_) ?_ ?_;rotate_left);(show Act.put _ (some 8) _=_;simp only [Act.put,List.setIfInBounds_toArray,List.set_cons_zero,List.set_cons_succ,i64_w,i32_w];rfl;refine on_ 20 (some 198) HT_ (fun K hK=>?_);refine gs_ Try.func43 #[.pointer (some ⟨gm,0,none⟩),.int .i64 (rd_T78 F.ar kk).f1,.int .u8 s.f4] ?_;refine (mkValue_calls D22.M h2).mono ?_;rintro e u3 ⟨rfl,hA⟩;refine ⟨_,rfl,?_⟩;obtain ⟨vWD23,vVD23,D23,hk⟩:=D22.next hA;have B23:=(hk g (.inl (rfl))).trans B22;have Z23:=(hk _ (.inr rfl)).trans Z22;clear hA hk;refine hK.out _ _ ⟨own_cell B23 1 (.int .u8 s.f1) rfl,own_cell B23 3 (.int .u8 s.f3) rfl,own_cell B23 4 (.int .u8 s.f4) rfl,D23.M.cells.1,D23.M.cells.2.2.2.2.1,D23.M.arr ((mkAny_same h1).trans (mkValue_same h2)).2.1 hi.out.1 hi.out.2⟩ (fun hHeld=>?_);clear hK K;refine norm_ (a':=?_) ?_ ?_;rotate_left);(show Act.put _ (some 198) _=_;simp only [Act.put,List.setIfInBounds_toArray,List.set_cons_zero,List.set_cons_succ,i64_w,i32_w];rfl;refine on_ 24 (some 202) HT_ (fun K hK=>?_);refine gs_ Try.func43 #[.pointer (some ⟨gm,0,none⟩),.int .i64 1,.int .u8 s.f3] ?_;refine (mkValue_calls D23.M h3).mono ?_;rintro e u4 ⟨rfl,hA⟩;refine ⟨_,rfl,?_⟩;obtain ⟨vWD24,vVD24,D24,hk⟩:=D23.next hA;have B24:=(hk g (.inl (rfl))).trans B23;have Z24:=(hk _ (.inr rfl)).trans Z23;clear hA hk;refine hK.out _ _ ⟨own_cell B24 1 (.int .u8 s.f1) rfl,own_cell B24 3 (.int .u8 s.f3) rfl,own_cell B24 4 (.int .u8 s.f4) rfl,D24.M.cells.1,D24.M.cells.2.2.2.2.1,D24.M.arr (((mkAny_same h1).trans (mkValue_same h2)).trans (mkValue_same h3)).2.1 hi.out.1 hi.out.2⟩ (fun hHeld=>?_);clear hK K;refine norm_ (a':=?_) ?_ ?_;rotate_left);(show Act.put _ (some 202) _=_;simp only [Act.put,List.setIfInBounds_toArray,List.set_cons_zero,List.set_cons_succ,i64_w,i32_w];rfl;refine on_ 25 (some 203) HT_ (fun K hK=>?_);refine value_ (w1:=?_) (v:=?_) (by rfl) rfl ?_ ?_;rotate_left 2);(go_simp;constructor);(rfl);(rfl;generalize hq:World.alloc _ _=u5;obtain ⟨D25,hb,R25⟩:=D24.lit [x1,x2,x3] (by show 3≤_;omega) hq rfl;have B25:=blk_below B24 hb;have Z25:=blk_below Z24 hb;clear hq hb;refine hK.out _ _ ⟨own_cell B25 1 (.int .u8 s.f1) rfl,own_cell B25 3 (.int .u8 s.f3) rfl,own_cell B25 4 (.int .u8 s.f4) rfl,D25.M.cells.1,D25.M.cells.2.2.2.2.1,D25.M.arr (((mkAny_same h1).trans (mkValue_same h2)).trans (mkValue_same h3)).2.1 hi.out.1 hi.out.2⟩ (fun hHeld=>?_);clear hK K;refine norm_ (a':=?_) ?_ ?_;rotate_left);(show Act.put _ (some 203) _=_;simp only [Act.put,List.setIfInBounds_toArray,List.set_cons_zero,List.set_cons_succ,i64_w,i32_w];rfl;refine pure_ (i:=26) (N:=some 204) (v:=?_) (a':=?_) (bz 29 268435455) rfl rfl (any_of HT_.out (by kernel_rfl)) (fun _ _ _ h=>h) (Or.inl ⟨by rfl,?_⟩) ?_ ?_;rotate_left);(intro w';go_simp;with_reducible rfl;rotate_left);(simp only [Act.put,List.setIfInBounds_toArray,List.set_cons_zero,List.set_cons_succ,i64_w,i32_w];rfl;exact norm_ (by simp only [putAll,Act.put,List.setIfInBounds_toArray,List.set_cons_zero,List.set_cons_succ]) (hCont (u4.heap.size,u1.heap.size) _ ⟨_,_,D25.reO (fun k hk=>by rcases hk with h | h | h <;> simp [h]),B25,R25,Z25⟩));(skip;refine value_ (w1:=?_) (v:=?_) (by rfl) rfl ?_ ?_;rotate_left 2);(go_simp;constructor);(rfl);(rfl;generalize hq:World.alloc _ _=u1;obtain ⟨D21,hb,Z21⟩:=D2.new _ hq;have B21:=blk_below B2 hb;clear hq hb;refine hK.out _ _ ⟨own_cell B21 1 (.int .u8 s.f1) rfl,own_cell B21 3 (.int .u8 s.f3) rfl,own_cell B21 4 (.int .u8 s.f4) rfl,D21.M.cells.1,D21.M.cells.2.2.2.2.1,D21.M.arr rfl hi.out.1 hi.out.2⟩ (fun hHeld=>?_);clear hK K;refine norm_ (a':=?_) ?_ ?_;rotate_left);(show Act.put _ (some 8) _=_;simp only [Act.put,List.setIfInBounds_toArray,List.set_cons_zero,List.set_cons_succ,i64_w,i32_w];rfl;refine on_ 5 (some 183) HT_ (fun K hK=>?_);refine gs_ Try.func45 #[.pointer (some ⟨gm,0,none⟩),.int .u8 s.f1] ?_;refine (mkAny_calls D21.M h1).mono ?_;rintro e u2 ⟨rfl,hA⟩;refine ⟨_,rfl,?_⟩;obtain ⟨vWD22,vVD22,D22,hk⟩:=D21.next hA;have B22:=(hk g (.inl (rfl))).trans B21;have Z22:=(hk _ (.inr rfl)).trans Z21;clear hA hk;refine hK.out _ _ ⟨own_cell B22 1 (.int .u8 s.f1) rfl,own_cell B22 3 (.int .u8 s.f3) rfl,own_cell B22 4 (.int .u8 s.f4) rfl,D22.M.cells.1,D22.M.cells.2.2.2.2.1,D22.M.arr (mkAny_same h1).2.1 hi.out.1 hi.out.2⟩ (fun hHeld=>?_);clear hK K;refine norm_ (a':=?_) ?_ ?_;rotate_left);(show Act.put _ (some 183) _=_;simp only [Act.put,List.setIfInBounds_toArray,List.set_cons_zero,List.set_cons_succ,i64_w,i32_w];rfl;refine on_ 20 (some 198) HT_ (fun K hK=>?_);refine gs_ Try.func43 #[.pointer (some ⟨gm,0,none⟩),.int .i64 (rd_T78 F.ar kk).f1,.int .u8 s.f4] ?_;refine (mkValue_calls D22.M h2).mono ?_;rintro e u3 ⟨rfl,hA⟩;refine ⟨_,rfl,?_⟩;obtain ⟨vWD23,vVD23,D23,hk⟩:=D22.next hA;have B23:=(hk g (.inl (rfl))).trans B22;have Z23:=(hk _ (.inr rfl)).trans Z22;clear hA hk;refine hK.out _ _ ⟨own_cell B23 1 (.int .u8 s.f1) rfl,own_cell B23 3 (.int .u8 s.f3) rfl,own_cell B23 4 (.int .u8 s.f4) rfl,D23.M.cells.1,D23.M.cells.2.2.2.2.1,D23.M.arr ((mkAny_same h1).trans (mkValue_same h2)).2.1 hi.out.1 hi.out.2⟩ (fun hHeld=>?_);clear hK K;refine norm_ (a':=?_) ?_ ?_;rotate_left);(show Act.put _ (some 198) _=_;simp only [Act.put,List.setIfInBounds_toArray,List.set_cons_zero,List.set_cons_succ,i64_w,i32_w];rfl;refine on_ 24 (some 202) HT_ (fun K hK=>?_);refine gs_ Try.func43 #[.pointer (some ⟨gm,0,none⟩),.int .i64 1,.int .u8 s.f3] ?_;refine (mkValue_calls D23.M h3).mono ?_;rintro e u4 ⟨rfl,hA⟩;refine ⟨_,rfl,?_⟩;obtain ⟨vWD24,vVD24,D24,hk⟩:=D23.next hA;have B24:=(hk g (.inl (rfl))).trans B23;have Z24:=(hk _ (.inr rfl)).trans Z23;clear hA hk;refine hK.out _ _ ⟨own_cell B24 1 (.int .u8 s.f1) rfl,own_cell B24 3 (.int .u8 s.f3) rfl,own_cell B24 4 (.int .u8 s.f4) rfl,D24.M.cells.1,D24.M.cells.2.2.2.2.1,D24.M.arr (((mkAny_same h1).trans (mkValue_same h2)).trans (mkValue_same h3)).2.1 hi.out.1 hi.out.2⟩ (fun hHeld=>?_);clear hK K;refine norm_ (a':=?_) ?_ ?_;rotate_left);(show Act.put _ (some 202) _=_;simp only [Act.put,List.setIfInBounds_toArray,List.set_cons_zero,List.set_cons_succ,i64_w,i32_w];rfl;refine on_ 25 (some 203) HT_ (fun K hK=>?_);refine value_ (w1:=?_) (v:=?_) (by rfl) rfl ?_ ?_;rotate_left 2);(go_simp;constructor);(rfl);(rfl;generalize hq:World.alloc _ _=u5;obtain ⟨D25,hb,R25⟩:=D24.lit [x1,x2,x3] (by show 3≤_;omega) hq rfl;have B25:=blk_below B24 hb;have Z25:=blk_below Z24 hb;clear hq hb;refine hK.out _ _ ⟨own_cell B25 1 (.int .u8 s.f1) rfl,own_cell B25 3 (.int .u8 s.f3) rfl,own_cell B25 4 (.int .u8 s.f4) rfl,D25.M.cells.1,D25.M.cells.2.2.2.2.1,D25.M.arr (((mkAny_same h1).trans (mkValue_same h2)).trans (mkValue_same h3)).2.1 hi.out.1 hi.out.2⟩ (fun hHeld=>?_);clear hK K;refine norm_ (a':=?_) ?_ ?_;rotate_left);(show Act.put _ (some 203) _=_;simp only [Act.put,List.setIfInBounds_toArray,List.set_cons_zero,List.set_cons_succ,i64_w,i32_w];rfl;refine pure_ (i:=26) (N:=some 204) (v:=?_) (a':=?_) (bz 29 268435455) rfl rfl (any_of HT_.out (by kernel_rfl)) (fun _ _ _ h=>h) (Or.inl ⟨by rfl,?_⟩) ?_ ?_;rotate_left);(intro w';go_simp;with_reducible rfl;rotate_left);(simp only [Act.put,List.setIfInBounds_toArray,List.set_cons_zero,List.set_cons_succ,i64_w,i32_w];rfl;exact norm_ (by simp only [putAll,Act.put,List.setIfInBounds_toArray,List.set_cons_zero,List.set_cons_succ]) (hCont (u4.heap.size,w6.heap.size) _ ⟨_,_,D25.reO (fun k hk=>by rcases hk with h | h | h <;> simp [h]),B25,R25,Z25⟩))
 rintro ⟨gl,gz⟩ u9 ⟨vW9,vV9,D9,B9,R9,Z9⟩
 have hHeld:u9.cell? ⟨g,1,none⟩=some (.int .u8 s.f1)∧u9.cell? ⟨g,3,none⟩=some (.int .u8 s.f3)∧u9.cell? ⟨g,4,none⟩=some (.int .u8 s.f4)∧u9.cell? ⟨gm,0,none⟩=some (.pointer (some ⟨gf,0,none⟩))∧u9.cell? ⟨gf,2,none⟩=some (.slice (some ad) F.ar.length cA)∧u9.cell? ⟨(ad.add (kk.toNat*5)).block,(ad.add (kk.toNat*5)).off+1,none⟩=some (.int .i64 (rd_T78 F.ar kk).f1):=⟨own_cell B9 1 (.int .u8 s.f1) rfl,own_cell B9 3 (.int .u8 s.f3) rfl,own_cell B9 4 (.int .u8 s.f4) rfl,D9.M.cells.1,D9.M.cells.2.2.2.2.1,D9.M.arr (((mkAny_same h1).trans (mkValue_same h2)).trans (mkValue_same h3)).2.1 hi.out.1 hi.out.2⟩
 refine norm_ (a':=?_) ?_ ?_;rotate_left;(simp only [putAll,Act.put,List.setIfInBounds_toArray,List.set_cons_zero,List.set_cons_succ];rfl)
 refine la_ 28 none HT_ (fun K hK=>?_)
 have d0:=blk_frozen Z9 0
 have d1:=blk_frozen Z9 1
 have d2:=blk_frozen Z9 2
 have d3:=blk_frozen Z9 3
 have d4:=blk_frozen Z9 4
 have e0:u9.cell? ⟨gz,0,none⟩=some (.int .i64 0):=(blk_cell Z9 0).trans rfl
 have e1:u9.cell? ⟨gz,1,none⟩=some (.int .i64 0):=(blk_cell Z9 1).trans rfl
 have e2:u9.cell? ⟨gz,2,none⟩=some (.slice none 0 0):=(blk_cell Z9 2).trans rfl
 have e3:u9.cell? ⟨gz,3,none⟩=some (.int .u64 0):=(blk_cell Z9 3).trans rfl
 have e4:u9.cell? ⟨gz,4,none⟩=some (.int .i64 0):=(blk_cell Z9 4).trans rfl
 refine skip_ (w1:=?_) (by rfl) rfl ?_ ?_;rotate_left;(go_simp)
 rfl
 clear d0 e0 d1 e1 d2 e2 d3 e3 d4 e4
 refine hK.out _ _ ?_;clear hK K
 refine done_ (done_of HT_.out (by kernel_rfl)) ?_
 have D10:=(((((D9.store (g:=gz) (.inr (.inr rfl)) 0 (.int .i64 op)).store (g:=gz) (.inr (.inr rfl)) 1 (.int .i64 (-1))).store (g:=gz) (.inr (.inr rfl)) 2 (.slice (some ⟨gl,0,none⟩) 3 3)).store (g:=gz) (.inr (.inr rfl)) 3 (.int .u64 0)).store (g:=gz) (.inr (.inr rfl)) 4 (.int .i64 kk))
 have R10:=Kd.R_set R9 Z9 (by decide) 0 (.int .i64 op)
 have Z10:=blk_put Z9 0 (.int .i64 op) rfl
 have R11:=Kd.R_set R10 Z10 (by decide) 1 (.int .i64 (-1))
 have Z11:=blk_put Z10 1 (.int .i64 (-1)) rfl
 have R12:=Kd.R_set R11 Z11 (by decide) 2 (.slice (some ⟨gl,0,none⟩) 3 3)
 have Z12:=blk_put Z11 2 (.slice (some ⟨gl,0,none⟩) 3 3) rfl
 have R13:=Kd.R_set R12 Z12 (by decide) 3 (.int .u64 0)
 have Z13:=blk_put Z12 3 (.int .u64 0) rfl
 have R14:=Kd.R_set R13 Z13 (by decide) 4 (.int .i64 kk)
 have Z14:=blk_put Z13 4 (.int .i64 kk) rfl
 clear R9 R10 R11 R12 R13 Z9 Z10 Z11 Z12 Z13 D9 B9 hHeld
 generalize World.setCell _ _ _=w10 at D10 R14 Z14 ⊢
 try go_wp2
 have D11:=D10.drew
 have R11:=Kd.R_drew R14
 have Z11:=blk_drew Z14
 clear D10 R14 Z14
 obtain ⟨gB,cap,oki,v0,v1,v4,v5,rfl,hcc,r0,r1,r4,r5,hok,⟨csB,tB⟩,hfr,hH⟩:=D11.M.lend hb0 hb1
 obtain ⟨A2,c2,rfl⟩:=Kd.R_slice r1
 have hPA:∀ k,k=gl→¬ ((P k∨w.heap.size≤k)∧¬ (k=g∨k=gl∨k=gz)):=fun k e h=>h.2 (.inr (.inl e))
 have hgz:¬ ((P gz∨w.heap.size≤gz)∧¬ (gz=g∨gz=gl∨gz=gz)):=fun h=>h.2 (.inr (.inr rfl))
 refine start_ (n:=31) (S:=fun w'=>w'.cell? ⟨gm,0,none⟩=some (.pointer (some ⟨gf,0,none⟩))∧w'.cell? ⟨gm,1,none⟩=some (.int .i64 b)∧w'.cell? ⟨gf,5,none⟩=some (.slice (some ⟨gB,0,none⟩) F3.bl.length cap)∧w'.cell? ⟨gB,b.toNat*9+1,none⟩=some (.slice A2 (rd_T53 F3.bl b).f1.length c2)∧w'.cell? ⟨gz,0,none⟩=some (.int .i64 op)∧w'.cell? ⟨gz,1,none⟩=some (.int .i64 (-1))∧w'.cell? ⟨gz,2,none⟩=some (.slice (some ⟨gl,0,none⟩) 3 3)∧w'.cell? ⟨gz,3,none⟩=some (.int .u64 0)∧w'.cell? ⟨gz,4,none⟩=some (.int .i64 kk)) (ds:=[30]) (bz 31 0) (by kernel_rfl) rfl rfl ⟨(D11.M.cells.1),(D11.M.cells.2.1),(D11.M.cells.2.2.2.2.2.2.2),(hcc 1 _ rfl),((blk_cell Z11 0).trans rfl),((blk_cell Z11 1).trans rfl),((blk_cell Z11 2).trans rfl),((blk_cell Z11 3).trans rfl),((blk_cell Z11 4).trans rfl)⟩ (fun hHeld=>?_)
 refine with_tabW mkStepT.tab19 mkStepT.bits19 (fun HT_ HW_=>?_)
 generalize w10.drew=w16 at hHeld D11 R11 Z11 hcc r0 r1 r4 r5 tB hfr hH ⊢
 have bd0:(0≤b)=True:=eq_true hb0
 have bd1:(b<(F3.bl.length:Int))=True:=eq_true hb1
 refine pu_ 0 205 HT_ ?_
 refine pu_ 1 206 HT_ ?_
 refine pu_ 2 207 HT_ ?_
 refine pu_ 7 212 HT_ ?_
 refine pu_ 8 213 HT_ ?_
 refine pu_ 9 214 HT_ ?_
 refine pu_ 11 216 HT_ ?_
 refine pu_ 12 217 HT_ ?_
 refine pu_ 13 218 HT_ ?_
 refine pu_ 18 223 HT_ ?_
 refine pu_ 19 224 HT_ ?_
 refine pu_ 20 225 HT_ ?_
 refine tk_ 3 208 HT_ HW_ hHeld ?_ (hy:=by rintro w' ⟨s0,s1,s2,s3,s4,s5,s6,s7,s8⟩;go_simp;with_reducible rfl)
 refine pu_ 4 209 HT_ ?_
 refine pu_ 5 210 HT_ ?_
 refine tk_ 6 211 HT_ HW_ hHeld ?_ (hy:=by rintro w' ⟨s0,s1,s2,s3,s4,s5,s6,s7,s8⟩;go_simp;with_reducible rfl)
 refine tk_ 10 215 HT_ HW_ hHeld ?_ (hy:=by rintro w' ⟨s0,s1,s2,s3,s4,s5,s6,s7,s8⟩;go_simp;with_reducible rfl)
 refine tk_ 14 219 HT_ HW_ hHeld ?_ (hy:=by rintro w' ⟨s0,s1,s2,s3,s4,s5,s6,s7,s8⟩;go_simp;with_reducible rfl)
 refine pu_ 15 220 HT_ ?_
 refine pu_ 16 221 HT_ ?_
 refine tk_ 17 222 HT_ HW_ hHeld ?_ (hy:=by rintro w' ⟨s0,s1,s2,s3,s4,s5,s6,s7,s8⟩;go_simp;with_reducible rfl)
 refine tk_ 21 226 HT_ HW_ hHeld ?_ (hy:=by rintro w' ⟨s0,s1,s2,s3,s4,s5,s6,s7,s8⟩;go_simp;with_reducible rfl)
 refine pu_ 22 227 HT_ ?_
 refine pu_ 23 228 HT_ ?_
 refine tk_ 24 229 HT_ HW_ hHeld ?_ (hy:=by rintro w' ⟨s0,s1,s2,s3,s4,s5,s6,s7,s8⟩;go_simp;with_reducible rfl)
 refine tk_ 25 230 HT_ HW_ hHeld ?_ (hy:=by rintro w' ⟨s0,s1,s2,s3,s4,s5,s6,s7,s8⟩;go_simp;with_reducible rfl)
 refine on_ 26 (some 231) HT_ (fun K hK=>?_)
 refine value_ (w1:=?_) (v:=?_) (by rfl) rfl ?_ ?_;rotate_left 2;(go_simp;constructor);(rfl);(rfl)
 refine hK.out _ _ ⟨(D11.alloc _).M.cells.1,(D11.alloc _).M.cells.2.1,(D11.alloc _).M.cells.2.2.2.2.2.2.2,pw_cell_below (below_alloc (Below.refl _ _) _) (hcc 1 _ rfl),(blk_cell (blk_alloc Z11 _) 0).trans rfl,(blk_cell (blk_alloc Z11 _) 1).trans rfl,(blk_cell (blk_alloc Z11 _) 2).trans rfl,(blk_cell (blk_alloc Z11 _) 3).trans rfl,(blk_cell (blk_alloc Z11 _) 4).trans rfl⟩ (fun hHeld=>?_);clear hK K
 refine no_ 231 ?_
 refine on_ 27 (some 232) HT_ (fun K hK=>?_)
 refine Kd.R_append_step k72 (w0:=w0) w0.heap.size (by rfl) (.tmp 229) (.tmp 231) 48 72 (.agg #[(.int .i64 0),(.int .i64 0),(.slice none 0 0),(.int .u64 0),(.int .i64 0)]) 56 rfl Try.underlying48 info_Inst rfl (by decide) (by omega) (.slice A2 (rd_T53 F3.bl b).f1.length c2) (rd_T53 F3.bl b).f1 ⟨op,-1,[x1,x2,x3],0,kk⟩ [.int .i64 op,.int .i64 (-1),.slice (some ⟨gl,0,none⟩) 3 3,.int .u64 0,.int .i64 kk] (fun k=>oki k∨k=gl∨w16.heap.size≤k) (fun k=>k=gl) rfl rfl (k72_mkM _ _ _ ⟨op,-1,[x1,x2,x3],0,kk⟩ R11) (fun k hk=>⟨.inr (.inl hk),fun e=>hPA k hk (hok k (r1.1 k e.symm)).1.1.1⟩) (fun k hk=>.inr (.inr hk)) (Kd.R_mono r1 (fun k hk=>.inl hk)) D11.M.hB D11.M.ge (by omega) ?_
 intro v2 w17 ho hb hg hat
 obtain ⟨A3,c3,e3⟩:=Kd.R_slice ho
 rw [List.length_append,List.length_singleton] at e3
 subst e3
 have m17:=blk_grown D11.M.hm hg (Kd.R_ne r1 D11.M.hm (by decide))
 have f17:=blk_grown D11.M.hf hg (Kd.R_ne r1 D11.M.hf (by decide))
 have I7:=blk_grown Z11 hg (fun e=>hgz (hok gz (r1.1 gz e.symm)).1.1.1)
 have B7:=blk_grown tB hg (Kd.R_ne r1 tB (by decide))
 have E7:=hg.cell (hcc 1 _ rfl) (Kd.R_ne r1 tB (by decide))
 refine hK.out _ _ ⟨(blk_cell m17 0).trans rfl,(blk_cell m17 1).trans rfl,(blk_cell f17 5).trans rfl,E7,(blk_cell I7 0).trans rfl,(blk_cell I7 1).trans rfl,(blk_cell I7 2).trans rfl,(blk_cell I7 3).trans rfl,(blk_cell I7 4).trans rfl⟩ (fun hHeld=>?_);clear hK K
 refine no_ 232 ?_
 refine pu_ 28 233 HT_ ?_
 refine pu_ 29 234 HT_ ?_
 refine la_ 30 none HT_ (fun K hK=>?_)
 have s2:=blk_frozen B7 (b.toNat*9+1)
 refine skip_ (w1:=?_) (by rfl) rfl ?_ ?_;rotate_left;(go_simp)
 rfl
 refine hK.out _ _ ?_;clear hK K
 refine done_ (done_of HT_.out (by kernel_rfl)) ?_
 obtain ⟨M12,K12⟩:=D11.M.push_inst hb0 hb1 hok hH r0 r1 r4 r5 ho hb hg hPA
 have K13:=D11.K.then_ K12 (Turn.trans (fun _ e=>e.1) D11.K D11.S D11.T)
 have hl:=(D11.hO gl (.inr (.inl rfl))).1
 have hk16:=D11.K.1
 have S11:=D11.S
 have T11:=D11.T
 clear D11 R11 Z11 ho hb hg hat hHeld hcc r0 r1 r4 r5 tB hfr hH m17 f17 I7 B7 E7 s2
 try go_wp2
 go_end0
 refine ⟨rfl,_,_,M12.mono ?_,K13,S11,T11⟩
 intro k hk
 rcases hk with (hk | hk) | hk
 ·exact hk.1
 ·exact .inr (hk ▸ hl)
 ·exact .inr (Nat.le_trans hk16 hk)
def mkStepX.T25:Bool × List (List Nat × List Nat):=(true,[([],[]),([],[]),([],[]),([],[]),([3],[3]),([4],[4]),([5],[5]),([6],[6]),([7],[7]),([8],[8]),([],[]),([9,10],[9,10]),([11],[11]),([12],[12]),([],[]),([14],[14]),([2,13,15],[2,13,15]),([],[]),([],[]),([18],[18]),([17,19,16],[17,19]),([16,20],[16,20]),([0,1,21],[0,1,21]),([],[]),([23,22,20,0,1,2,3,4,5,6,7,8,9,10,11,12,13,14,15,16,17,18,19,20,21,22,23],[22,23])])
def mkStepX.B25:List Nat:=[0,0,0,0,8,24,56,120,248,504,0,2040,4088,8184,0,16384,65532,0,0,262144,1048572,2097148,4194303,0,16777215]
theorem mkStepX.tab25:rtab .any (opsOf Try.f25 25)=mkStepX.T25:=by kernel_rfl
theorem mkStepX.bits25:waitsOk mkStepX.T25.2 mkStepX.B25=true:=by kernel_rfl
def mkStepX.T26:Bool × List (List Nat × List Nat):=(true,[([],[]),([0],[0]),([1],[1]),([2],[2]),([3],[3]),([4],[4]),([5],[5]),([],[]),([7],[7]),([8],[8]),([9],[9]),([],[]),([11],[11]),([12],[12]),([13],[13]),([14],[14]),([15],[15]),([16],[16]),([],[]),([18],[18]),([19],[19]),([20],[20]),([17,21],[17,21]),([22],[22]),([23],[23]),([],[]),([25],[25]),([24,26],[24,26]),([6,10,0,1,2,3,4,5,6,7,8,9,10,11,12,13,14,15,16,17,18,19,20,21,22,23,24,25,26,27],[6,10]),([28,0,1,2,3,4,5,6,7,8,9,10,11,12,13,14,15,16,17,18,19,20,21,22,23,24,25,26,27],[28]),([29,27,27,0,1,2,3,4,5,6,7,8,9,10,11,12,13,14,15,16,17,18,19,20,21,22,23,24,25,26,27],[27,29])])
def mkStepX.B26:List Nat:=[0,1,3,7,15,31,63,0,128,384,896,0,2048,6144,14336,30720,63488,129024,0,262144,786432,1835008,4192256,8386560,16775168,0,33554432,134215680,268435455,536870911,1073741823]
theorem mkStepX.tab26:rtab .any (opsOf Try.f25 26)=mkStepX.T26:=by kernel_rfl
theorem mkStepX.bits26:waitsOk mkStepX.T26.2 mkStepX.B26=true:=by kernel_rfl
set_option maxHeartbeats 8000000 in
set_option maxRecDepth 100000 in
theorem mkStepX_calls {w0 w:World} {P:Nat→Prop} {gm gf:Nat} {F F':FN} {b wd op:Int} {vals vals':List Int} {vW vA vS vR vB vV:Value} {s:S87} (hM:MKv w0 w P gm gf F b vals vW vA vS vR vB vV) (hwd:jacquardref27_wide.f s.f4=some wd) (hop:wrap64 (1+Int.tmod (wrap64 s.f0) 28)=op) (b1:(op==1)=false) (hc:jacquardref01_IsCompare.f op=some false) (hd:jacquardref01_IsBinary.f op=some false) (b2:(op==21)=false) (b3:decide (op<25)=false) (b4:(op==25)=false) (b5:(op==26)=false) (b6:(op==27)=false) (b7:(op==28)=true) {kk:Int} (hst:mkStream F.st true s.f2=some kk)
  (h:mkSend F b vals s op kk=some (F',vals')) :
  Calls Try.prog 25 #[.pointer (some ⟨gm,0,none⟩),.agg #[.int .u8 s.f0,.int .u8 s.f1,.int .u8 s.f2,.int .u8 s.f3,.int .u8 s.f4,.int .u64 s.f5]] w fun e w'=>e = .returned (.tuple #[])∧After w0 w P gm gf vW vA vS vR vB vV F' b vals' w':=by
 unfold mkSend at h
 split at h
 case isFalse=>exact absurd h (by simp)
 rename_i hi
 obtain ⟨⟨F1,vals1,x1⟩,h1,h⟩:=Option.bind_eq_some_iff.mp h
 obtain ⟨⟨F2,vals2,x2⟩,h2,h⟩:=Option.bind_eq_some_iff.mp h
 unfold mkPush at h
 split at h
 case isFalse=>exact absurd h (by simp)
 rename_i hb
 obtain ⟨hb0,hb1,hb2⟩:=hb
 injection h with h
 injection h with hF hv
 subst hF hv
 obtain ⟨AS,cS,rfl⟩:=Kd.R_slice hM.rS
 obtain ⟨ad,ea,-⟩:=at_T80 (Kd.R_reads' hM.rS).2.2 kk hi.1 hi.2
 cases ea
 have p0:(0≤kk)=True:=eq_true hi.1
 have q0:(kk<(F.st.length:Int))=True:=eq_true hi.2
 have p1:decide (kk≥0)=true:=decide_eq_true hi.1
 replace hi:=Aside0.mk hi
 go_enter Try.func25,Try.ntmps25
 go_upto_region 25 with (first | ((with_reducible refine gate_dst (N:=3) rfl ?_);refine box_event ?hg (N:=3) ?hd (cs := #[.int .u8 s.f0,.int .u8 s.f1,.int .u8 s.f2,.int .u8 s.f3,.int .u8 s.f4,.int .u64 s.f5]) (t:=87) ?hr ?_;(case hd=>rfl);(case hg=>rfl);(case hr=>first | (go_simp;done) | (go_simp;rfl));intro g hg w1 hbox hb1;have D:=Mid.start (O:=fun k=>k=g) hM hb1 (fun k e=>by have:=blk_lt hbox;omega);have B:=hbox;have c4:=own_cell B 4 (.int .u8 s.f4) rfl;clear hbox hb1;replace hg:=Aside0.mk hg) | (go_at_call 24;refine (jacquardref27_wide.calls s.f4 wd _ hwd).mono ?_;rintro e w2 ⟨rfl,hb2⟩;replace D:=D.below hb2;replace B:=blk_below B hb2;clear c4 hb2;have c0:=own_cell B 0 (.int .u8 s.f0) rfl;skip) | (go_at_call 42;refine (jacquardref01_IsCompare.calls op false _ hc).mono ?_;rintro e w3 ⟨rfl,hb3⟩;replace D:=D.below hb3.below;replace B:=blk_below B hb3.below;clear hb3 c0) | (go_at_call 44;refine (jacquardref01_IsBinary.calls op false _ hd).mono ?_;rintro e w4 ⟨rfl,hb4⟩;replace D:=D.below hb4.below;replace B:=blk_below B hb4.below;clear hb4;have c2:=own_cell B 2 (.int .u8 s.f2) rfl) | (go_at_call 46;refine (mkStream_calls (out:=true) D.M hst).mono ?_;rintro e w5 ⟨rfl,hb5⟩;replace D:=D.below hb5;replace B:=blk_below B hb5;clear hb5;have c2:=own_cell B 2 (.int .u8 s.f2) rfl))
 try go_wp2
 clear c2
 refine start_ (n:=25) (S:=fun w'=>w'.cell? ⟨g,1,none⟩=some (.int .u8 s.f1)∧w'.cell? ⟨g,3,none⟩=some (.int .u8 s.f3)∧w'.cell? ⟨gm,0,none⟩=some (.pointer (some ⟨gf,0,none⟩))∧w'.cell? ⟨gf,3,none⟩=some (.slice (some ad) F.st.length cS)∧w'.cell? ⟨(ad.add (kk.toNat*3)).block,(ad.add (kk.toNat*3)).off+1,none⟩=some (.int .i64 (rd_T80 F.st kk).f1)) (ds:=[24]) (bz 25 0) (by kernel_rfl) rfl rfl ⟨(own_cell (blk_drew B) 1 (.int .u8 s.f1) rfl),(own_cell (blk_drew B) 3 (.int .u8 s.f3) rfl),(D.drew.M.cells.1),(D.drew.M.cells.2.2.2.2.2.1),(D.drew.M.str rfl hi.out.1 hi.out.2)⟩ (fun hHeld=>?_)
 refine with_tabW mkStepX.tab25 mkStepX.bits25 (fun HT_ HW_=>?_)
 have D2:=D.drew
 have B2:=blk_drew B
 generalize World.drew _=w6 at hHeld D2 B2 ⊢
 clear D B
 refine pu_ 0 284 HT_ ?_
 refine pu_ 1 285 HT_ ?_
 refine pu_ 2 286 HT_ ?_
 refine pu_ 3 287 HT_ ?_
 refine pu_ 4 288 HT_ ?_
 refine pu_ 5 289 HT_ ?_
 refine pu_ 10 294 HT_ ?_
 refine pu_ 14 298 HT_ ?_
 refine pu_ 17 301 HT_ ?_
 refine pu_ 18 302 HT_ ?_
 refine tk_ 6 290 HT_ HW_ hHeld ?_ (hy:=by rintro w' ⟨s0,s1,s2,s3,s4⟩;go_simp;with_reducible rfl)
 refine pu_ 7 291 HT_ ?_
 refine pu_ 8 292 HT_ ?_
 refine tk_ 9 293 HT_ HW_ hHeld ?_ (hy:=by rintro w' ⟨s0,s1,s2,s3,s4⟩;go_simp;with_reducible rfl)
 refine pu_ 11 295 HT_ ?_
 refine pu_ 12 296 HT_ ?_
 refine tk_ 13 297 HT_ HW_ hHeld ?_ (hy:=by rintro w' ⟨s0,s1,s2,s3,s4⟩;go_simp;with_reducible rfl)
 refine tk_ 15 299 HT_ HW_ hHeld ?_ (hy:=by rintro w' ⟨s0,s1,s2,s3,s4⟩;go_simp;with_reducible rfl)
 refine tk_ 19 303 HT_ HW_ hHeld ?_ (hy:=by rintro w' ⟨s0,s1,s2,s3,s4⟩;go_simp;with_reducible rfl)
 refine join_ (σ := Nat × Nat) 1 (bz 25 16777215) (fun q=>[(300,.int .i64 x1),(304,.int .i64 x2),(305,.slice (some ⟨q.1,0,none⟩) 2 2),(306,.agg #[.int .i64 op,.int .i64 (-1),.slice (some ⟨q.1,0,none⟩) 2 2,.int .u64 0,.int .i64 kk]),(11,.pointer (some ⟨q.2,0,none⟩))]) (fun q w'=>∃ vW' vV',Mid w0 w P (fun k=>k=g∨k=q.1∨k=q.2) gm gf vW vA (.slice (some ad) F.st.length cS) vR vB vV F2 b vals2 vW' vV' w'∧w'.heap[g]? = some (.cells #[.int .u8 s.f0,.int .u8 s.f1,.int .u8 s.f2,.int .u8 s.f3,.int .u8 s.f4,.int .u64 s.f5] 87 (0,0))∧Kd.R (Kd.int .i64) 3 w' w0.heap.size (fun k=>k=q.1) (.slice (some ⟨q.1,0,none⟩) 2 2) [x1,x2]∧w'.heap[q.2]? = some (.cells #[.int .i64 0,.int .i64 0,.slice none 0 0,.int .u64 0,.int .i64 0] 72 (0,0))) ?_ ?_;rotate_left;(intro hCont;refine two_ (i:=16) (j:=23) (Ni:=some 300) (Nj:=some 11) (bz 25 1048575) (bz 25 9371647) rfl rfl rfl rfl (two_of HT_.out (by kernel_rfl)) (by decide) (by decide) (fun K hK=>?_) (fun K hK=>?_));(skip;refine gs_ Try.func43 #[.pointer (some ⟨gm,0,none⟩),.int .i64 (rd_T80 F.st kk).f1,.int .u8 s.f1] ?_;refine (mkValue_calls D2.M h1).mono ?_;rintro e u1 ⟨rfl,hA⟩;refine ⟨_,rfl,?_⟩;obtain ⟨vWD21,vVD21,D21,hk⟩:=D2.next hA;have B21:=(hk g (rfl)).trans B2;clear hA hk;refine hK.out _ _ ⟨own_cell B21 1 (.int .u8 s.f1) rfl,own_cell B21 3 (.int .u8 s.f3) rfl,D21.M.cells.1,D21.M.cells.2.2.2.2.2.1,D21.M.str (mkValue_same h1).2.2.1 hi.out.1 hi.out.2⟩ (fun hHeld=>?_);clear hK K;refine norm_ (a':=?_) ?_ ?_;rotate_left);(show Act.put _ (some 300) _=_;simp only [Act.put,List.setIfInBounds_toArray,List.set_cons_zero,List.set_cons_succ,i64_w,i32_w];rfl;refine two_ (i:=20) (j:=23) (Ni:=some 304) (Nj:=some 11) (bz 25 2097151) (bz 25 9437183) rfl rfl rfl rfl (two_of HT_.out (by kernel_rfl)) (by decide) (by decide) (fun K hK=>?_) (fun K hK=>?_));(skip;refine gs_ Try.func43 #[.pointer (some ⟨gm,0,none⟩),.int .i64 1,.int .u8 s.f3] ?_;refine (mkValue_calls D21.M h2).mono ?_;rintro e u2 ⟨rfl,hA⟩;refine ⟨_,rfl,?_⟩;obtain ⟨vWD22,vVD22,D22,hk⟩:=D21.next hA;have B22:=(hk g (rfl)).trans B21;clear hA hk;refine hK.out _ _ ⟨own_cell B22 1 (.int .u8 s.f1) rfl,own_cell B22 3 (.int .u8 s.f3) rfl,D22.M.cells.1,D22.M.cells.2.2.2.2.2.1,D22.M.str ((mkValue_same h1).trans (mkValue_same h2)).2.2.1 hi.out.1 hi.out.2⟩ (fun hHeld=>?_);clear hK K;refine norm_ (a':=?_) ?_ ?_;rotate_left);(show Act.put _ (some 304) _=_;simp only [Act.put,List.setIfInBounds_toArray,List.set_cons_zero,List.set_cons_succ,i64_w,i32_w];rfl;refine two_ (i:=21) (j:=23) (Ni:=some 305) (Nj:=some 11) (bz 25 4194303) (bz 25 10485759) rfl rfl rfl rfl (two_of HT_.out (by kernel_rfl)) (by decide) (by decide) (fun K hK=>?_) (fun K hK=>?_));(skip;refine value_ (w1:=?_) (v:=?_) (by rfl) rfl ?_ ?_;rotate_left 2);(go_simp;constructor);(rfl);(rfl;generalize hq:World.alloc _ _=u3;obtain ⟨D23,hb,R23⟩:=D22.lit [x1,x2] (by show 2≤_;omega) hq rfl;have B23:=blk_below B22 hb;clear hq hb;refine hK.out _ _ ⟨own_cell B23 1 (.int .u8 s.f1) rfl,own_cell B23 3 (.int .u8 s.f3) rfl,D23.M.cells.1,D23.M.cells.2.2.2.2.2.1,D23.M.str ((mkValue_same h1).trans (mkValue_same h2)).2.2.1 hi.out.1 hi.out.2⟩ (fun hHeld=>?_);clear hK K;refine norm_ (a':=?_) ?_ ?_;rotate_left);(show Act.put _ (some 305) _=_;simp only [Act.put,List.setIfInBounds_toArray,List.set_cons_zero,List.set_cons_succ,i64_w,i32_w];rfl;refine pure_ (i:=22) (N:=some 306) (v:=?_) (a':=?_) (bz 25 8388607) rfl rfl (any_of HT_.out (by kernel_rfl)) (fun _ _ _ h=>h) (Or.inl ⟨by rfl,?_⟩) ?_ ?_;rotate_left);(intro w';go_simp;with_reducible rfl;rotate_left);(simp only [Act.put,List.setIfInBounds_toArray,List.set_cons_zero,List.set_cons_succ,i64_w,i32_w];rfl;refine on_ 23 (some 11) HT_ (fun K hK=>?_);refine value_ (w1:=?_) (v:=?_) (by rfl) rfl ?_ ?_;rotate_left 2);(go_simp;constructor);(rfl);(rfl;generalize hq:World.alloc _ _=u4;obtain ⟨D24,hb,Z24⟩:=D23.new _ hq;have B24:=blk_below B23 hb;have R24:=Kd.R_below R23 hb;clear hq hb;refine hK.out _ _ ⟨own_cell B24 1 (.int .u8 s.f1) rfl,own_cell B24 3 (.int .u8 s.f3) rfl,D24.M.cells.1,D24.M.cells.2.2.2.2.2.1,D24.M.str ((mkValue_same h1).trans (mkValue_same h2)).2.2.1 hi.out.1 hi.out.2⟩ (fun hHeld=>?_);clear hK K;refine norm_ (a':=?_) ?_ ?_;rotate_left);(show Act.put _ (some 11) _=_;simp only [Act.put,List.setIfInBounds_toArray,List.set_cons_zero,List.set_cons_succ,i64_w,i32_w];rfl;exact norm_ (by simp only [putAll,Act.put,List.setIfInBounds_toArray,List.set_cons_zero,List.set_cons_succ]) (hCont (u2.heap.size,u3.heap.size) _ ⟨_,_,D24.reO (fun k hk=>by rcases hk with h | h | h <;> simp [h]),B24,R24,Z24⟩));(skip;refine value_ (w1:=?_) (v:=?_) (by rfl) rfl ?_ ?_;rotate_left 2);(go_simp;constructor);(rfl);(rfl;generalize hq:World.alloc _ _=u3;obtain ⟨D23,hb,Z23⟩:=D22.new _ hq;have B23:=blk_below B22 hb;clear hq hb;refine hK.out _ _ ⟨own_cell B23 1 (.int .u8 s.f1) rfl,own_cell B23 3 (.int .u8 s.f3) rfl,D23.M.cells.1,D23.M.cells.2.2.2.2.2.1,D23.M.str ((mkValue_same h1).trans (mkValue_same h2)).2.2.1 hi.out.1 hi.out.2⟩ (fun hHeld=>?_);clear hK K;refine norm_ (a':=?_) ?_ ?_;rotate_left);(show Act.put _ (some 11) _=_;simp only [Act.put,List.setIfInBounds_toArray,List.set_cons_zero,List.set_cons_succ,i64_w,i32_w];rfl;refine on_ 21 (some 305) HT_ (fun K hK=>?_);refine value_ (w1:=?_) (v:=?_) (by rfl) rfl ?_ ?_;rotate_left 2);(go_simp;constructor);(rfl);(rfl;generalize hq:World.alloc _ _=u4;obtain ⟨D24,hb,R24⟩:=D23.lit [x1,x2] (by show 2≤_;omega) hq rfl;have B24:=blk_below B23 hb;have Z24:=blk_below Z23 hb;clear hq hb;refine hK.out _ _ ⟨own_cell B24 1 (.int .u8 s.f1) rfl,own_cell B24 3 (.int .u8 s.f3) rfl,D24.M.cells.1,D24.M.cells.2.2.2.2.2.1,D24.M.str ((mkValue_same h1).trans (mkValue_same h2)).2.2.1 hi.out.1 hi.out.2⟩ (fun hHeld=>?_);clear hK K;refine norm_ (a':=?_) ?_ ?_;rotate_left);(show Act.put _ (some 305) _=_;simp only [Act.put,List.setIfInBounds_toArray,List.set_cons_zero,List.set_cons_succ,i64_w,i32_w];rfl;refine pure_ (i:=22) (N:=some 306) (v:=?_) (a':=?_) (bz 25 16777215) rfl rfl (any_of HT_.out (by kernel_rfl)) (fun _ _ _ h=>h) (Or.inl ⟨by rfl,?_⟩) ?_ ?_;rotate_left);(intro w';go_simp;with_reducible rfl;rotate_left);(simp only [Act.put,List.setIfInBounds_toArray,List.set_cons_zero,List.set_cons_succ,i64_w,i32_w];rfl;exact norm_ (by simp only [putAll,Act.put,List.setIfInBounds_toArray,List.set_cons_zero,List.set_cons_succ]) (hCont (u3.heap.size,u2.heap.size) _ ⟨_,_,D24.reO (fun k hk=>by rcases hk with h | h | h <;> simp [h]),B24,R24,Z24⟩));(skip;refine value_ (w1:=?_) (v:=?_) (by rfl) rfl ?_ ?_;rotate_left 2);(go_simp;constructor);(rfl);(rfl;generalize hq:World.alloc _ _=u2;obtain ⟨D22,hb,Z22⟩:=D21.new _ hq;have B22:=blk_below B21 hb;clear hq hb;refine hK.out _ _ ⟨own_cell B22 1 (.int .u8 s.f1) rfl,own_cell B22 3 (.int .u8 s.f3) rfl,D22.M.cells.1,D22.M.cells.2.2.2.2.2.1,D22.M.str (mkValue_same h1).2.2.1 hi.out.1 hi.out.2⟩ (fun hHeld=>?_);clear hK K;refine norm_ (a':=?_) ?_ ?_;rotate_left);(show Act.put _ (some 11) _=_;simp only [Act.put,List.setIfInBounds_toArray,List.set_cons_zero,List.set_cons_succ,i64_w,i32_w];rfl;refine on_ 20 (some 304) HT_ (fun K hK=>?_);refine gs_ Try.func43 #[.pointer (some ⟨gm,0,none⟩),.int .i64 1,.int .u8 s.f3] ?_;refine (mkValue_calls D22.M h2).mono ?_;rintro e u3 ⟨rfl,hA⟩;refine ⟨_,rfl,?_⟩;obtain ⟨vWD23,vVD23,D23,hk⟩:=D22.next hA;have B23:=(hk g (.inl (rfl))).trans B22;have Z23:=(hk _ (.inr rfl)).trans Z22;clear hA hk;refine hK.out _ _ ⟨own_cell B23 1 (.int .u8 s.f1) rfl,own_cell B23 3 (.int .u8 s.f3) rfl,D23.M.cells.1,D23.M.cells.2.2.2.2.2.1,D23.M.str ((mkValue_same h1).trans (mkValue_same h2)).2.2.1 hi.out.1 hi.out.2⟩ (fun hHeld=>?_);clear hK K;refine norm_ (a':=?_) ?_ ?_;rotate_left);(show Act.put _ (some 304) _=_;simp only [Act.put,List.setIfInBounds_toArray,List.set_cons_zero,List.set_cons_succ,i64_w,i32_w];rfl;refine on_ 21 (some 305) HT_ (fun K hK=>?_);refine value_ (w1:=?_) (v:=?_) (by rfl) rfl ?_ ?_;rotate_left 2);(go_simp;constructor);(rfl);(rfl;generalize hq:World.alloc _ _=u4;obtain ⟨D24,hb,R24⟩:=D23.lit [x1,x2] (by show 2≤_;omega) hq rfl;have B24:=blk_below B23 hb;have Z24:=blk_below Z23 hb;clear hq hb;refine hK.out _ _ ⟨own_cell B24 1 (.int .u8 s.f1) rfl,own_cell B24 3 (.int .u8 s.f3) rfl,D24.M.cells.1,D24.M.cells.2.2.2.2.2.1,D24.M.str ((mkValue_same h1).trans (mkValue_same h2)).2.2.1 hi.out.1 hi.out.2⟩ (fun hHeld=>?_);clear hK K;refine norm_ (a':=?_) ?_ ?_;rotate_left);(show Act.put _ (some 305) _=_;simp only [Act.put,List.setIfInBounds_toArray,List.set_cons_zero,List.set_cons_succ,i64_w,i32_w];rfl;refine pure_ (i:=22) (N:=some 306) (v:=?_) (a':=?_) (bz 25 16777215) rfl rfl (any_of HT_.out (by kernel_rfl)) (fun _ _ _ h=>h) (Or.inl ⟨by rfl,?_⟩) ?_ ?_;rotate_left);(intro w';go_simp;with_reducible rfl;rotate_left);(simp only [Act.put,List.setIfInBounds_toArray,List.set_cons_zero,List.set_cons_succ,i64_w,i32_w];rfl;exact norm_ (by simp only [putAll,Act.put,List.setIfInBounds_toArray,List.set_cons_zero,List.set_cons_succ]) (hCont (u3.heap.size,u1.heap.size) _ ⟨_,_,D24.reO (fun k hk=>by rcases hk with h | h | h <;> simp [h]),B24,R24,Z24⟩));(skip;refine value_ (w1:=?_) (v:=?_) (by rfl) rfl ?_ ?_;rotate_left 2);(go_simp;constructor);(rfl);(rfl;generalize hq:World.alloc _ _=u1;obtain ⟨D21,hb,Z21⟩:=D2.new _ hq;have B21:=blk_below B2 hb;clear hq hb;refine hK.out _ _ ⟨own_cell B21 1 (.int .u8 s.f1) rfl,own_cell B21 3 (.int .u8 s.f3) rfl,D21.M.cells.1,D21.M.cells.2.2.2.2.2.1,D21.M.str rfl hi.out.1 hi.out.2⟩ (fun hHeld=>?_);clear hK K;refine norm_ (a':=?_) ?_ ?_;rotate_left);(show Act.put _ (some 11) _=_;simp only [Act.put,List.setIfInBounds_toArray,List.set_cons_zero,List.set_cons_succ,i64_w,i32_w];rfl;refine on_ 16 (some 300) HT_ (fun K hK=>?_);refine gs_ Try.func43 #[.pointer (some ⟨gm,0,none⟩),.int .i64 (rd_T80 F.st kk).f1,.int .u8 s.f1] ?_;refine (mkValue_calls D21.M h1).mono ?_;rintro e u2 ⟨rfl,hA⟩;refine ⟨_,rfl,?_⟩;obtain ⟨vWD22,vVD22,D22,hk⟩:=D21.next hA;have B22:=(hk g (.inl (rfl))).trans B21;have Z22:=(hk _ (.inr rfl)).trans Z21;clear hA hk;refine hK.out _ _ ⟨own_cell B22 1 (.int .u8 s.f1) rfl,own_cell B22 3 (.int .u8 s.f3) rfl,D22.M.cells.1,D22.M.cells.2.2.2.2.2.1,D22.M.str (mkValue_same h1).2.2.1 hi.out.1 hi.out.2⟩ (fun hHeld=>?_);clear hK K;refine norm_ (a':=?_) ?_ ?_;rotate_left);(show Act.put _ (some 300) _=_;simp only [Act.put,List.setIfInBounds_toArray,List.set_cons_zero,List.set_cons_succ,i64_w,i32_w];rfl;refine on_ 20 (some 304) HT_ (fun K hK=>?_);refine gs_ Try.func43 #[.pointer (some ⟨gm,0,none⟩),.int .i64 1,.int .u8 s.f3] ?_;refine (mkValue_calls D22.M h2).mono ?_;rintro e u3 ⟨rfl,hA⟩;refine ⟨_,rfl,?_⟩;obtain ⟨vWD23,vVD23,D23,hk⟩:=D22.next hA;have B23:=(hk g (.inl (rfl))).trans B22;have Z23:=(hk _ (.inr rfl)).trans Z22;clear hA hk;refine hK.out _ _ ⟨own_cell B23 1 (.int .u8 s.f1) rfl,own_cell B23 3 (.int .u8 s.f3) rfl,D23.M.cells.1,D23.M.cells.2.2.2.2.2.1,D23.M.str ((mkValue_same h1).trans (mkValue_same h2)).2.2.1 hi.out.1 hi.out.2⟩ (fun hHeld=>?_);clear hK K;refine norm_ (a':=?_) ?_ ?_;rotate_left);(show Act.put _ (some 304) _=_;simp only [Act.put,List.setIfInBounds_toArray,List.set_cons_zero,List.set_cons_succ,i64_w,i32_w];rfl;refine on_ 21 (some 305) HT_ (fun K hK=>?_);refine value_ (w1:=?_) (v:=?_) (by rfl) rfl ?_ ?_;rotate_left 2);(go_simp;constructor);(rfl);(rfl;generalize hq:World.alloc _ _=u4;obtain ⟨D24,hb,R24⟩:=D23.lit [x1,x2] (by show 2≤_;omega) hq rfl;have B24:=blk_below B23 hb;have Z24:=blk_below Z23 hb;clear hq hb;refine hK.out _ _ ⟨own_cell B24 1 (.int .u8 s.f1) rfl,own_cell B24 3 (.int .u8 s.f3) rfl,D24.M.cells.1,D24.M.cells.2.2.2.2.2.1,D24.M.str ((mkValue_same h1).trans (mkValue_same h2)).2.2.1 hi.out.1 hi.out.2⟩ (fun hHeld=>?_);clear hK K;refine norm_ (a':=?_) ?_ ?_;rotate_left);(show Act.put _ (some 305) _=_;simp only [Act.put,List.setIfInBounds_toArray,List.set_cons_zero,List.set_cons_succ,i64_w,i32_w];rfl;refine pure_ (i:=22) (N:=some 306) (v:=?_) (a':=?_) (bz 25 16777215) rfl rfl (any_of HT_.out (by kernel_rfl)) (fun _ _ _ h=>h) (Or.inl ⟨by rfl,?_⟩) ?_ ?_;rotate_left);(intro w';go_simp;with_reducible rfl;rotate_left);(simp only [Act.put,List.setIfInBounds_toArray,List.set_cons_zero,List.set_cons_succ,i64_w,i32_w];rfl;exact norm_ (by simp only [putAll,Act.put,List.setIfInBounds_toArray,List.set_cons_zero,List.set_cons_succ]) (hCont (u3.heap.size,w6.heap.size) _ ⟨_,_,D24.reO (fun k hk=>by rcases hk with h | h | h <;> simp [h]),B24,R24,Z24⟩))
 rintro ⟨gl,gz⟩ u9 ⟨vW9,vV9,D9,B9,R9,Z9⟩
 have hHeld:u9.cell? ⟨g,1,none⟩=some (.int .u8 s.f1)∧u9.cell? ⟨g,3,none⟩=some (.int .u8 s.f3)∧u9.cell? ⟨gm,0,none⟩=some (.pointer (some ⟨gf,0,none⟩))∧u9.cell? ⟨gf,3,none⟩=some (.slice (some ad) F.st.length cS)∧u9.cell? ⟨(ad.add (kk.toNat*3)).block,(ad.add (kk.toNat*3)).off+1,none⟩=some (.int .i64 (rd_T80 F.st kk).f1):=⟨own_cell B9 1 (.int .u8 s.f1) rfl,own_cell B9 3 (.int .u8 s.f3) rfl,D9.M.cells.1,D9.M.cells.2.2.2.2.2.1,D9.M.str ((mkValue_same h1).trans (mkValue_same h2)).2.2.1 hi.out.1 hi.out.2⟩
 refine norm_ (a':=?_) ?_ ?_;rotate_left;(simp only [putAll,Act.put,List.setIfInBounds_toArray,List.set_cons_zero,List.set_cons_succ];rfl)
 refine la_ 24 none HT_ (fun K hK=>?_)
 have d0:=blk_frozen Z9 0
 have d1:=blk_frozen Z9 1
 have d2:=blk_frozen Z9 2
 have d3:=blk_frozen Z9 3
 have d4:=blk_frozen Z9 4
 have e0:u9.cell? ⟨gz,0,none⟩=some (.int .i64 0):=(blk_cell Z9 0).trans rfl
 have e1:u9.cell? ⟨gz,1,none⟩=some (.int .i64 0):=(blk_cell Z9 1).trans rfl
 have e2:u9.cell? ⟨gz,2,none⟩=some (.slice none 0 0):=(blk_cell Z9 2).trans rfl
 have e3:u9.cell? ⟨gz,3,none⟩=some (.int .u64 0):=(blk_cell Z9 3).trans rfl
 have e4:u9.cell? ⟨gz,4,none⟩=some (.int .i64 0):=(blk_cell Z9 4).trans rfl
 refine skip_ (w1:=?_) (by rfl) rfl ?_ ?_;rotate_left;(go_simp)
 rfl
 clear d0 e0 d1 e1 d2 e2 d3 e3 d4 e4
 refine hK.out _ _ ?_;clear hK K
 refine done_ (done_of HT_.out (by kernel_rfl)) ?_
 have D10:=(((((D9.store (g:=gz) (.inr (.inr rfl)) 0 (.int .i64 op)).store (g:=gz) (.inr (.inr rfl)) 1 (.int .i64 (-1))).store (g:=gz) (.inr (.inr rfl)) 2 (.slice (some ⟨gl,0,none⟩) 2 2)).store (g:=gz) (.inr (.inr rfl)) 3 (.int .u64 0)).store (g:=gz) (.inr (.inr rfl)) 4 (.int .i64 kk))
 have R10:=Kd.R_set R9 Z9 (by decide) 0 (.int .i64 op)
 have Z10:=blk_put Z9 0 (.int .i64 op) rfl
 have R11:=Kd.R_set R10 Z10 (by decide) 1 (.int .i64 (-1))
 have Z11:=blk_put Z10 1 (.int .i64 (-1)) rfl
 have R12:=Kd.R_set R11 Z11 (by decide) 2 (.slice (some ⟨gl,0,none⟩) 2 2)
 have Z12:=blk_put Z11 2 (.slice (some ⟨gl,0,none⟩) 2 2) rfl
 have R13:=Kd.R_set R12 Z12 (by decide) 3 (.int .u64 0)
 have Z13:=blk_put Z12 3 (.int .u64 0) rfl
 have R14:=Kd.R_set R13 Z13 (by decide) 4 (.int .i64 kk)
 have Z14:=blk_put Z13 4 (.int .i64 kk) rfl
 clear R9 R10 R11 R12 R13 Z9 Z10 Z11 Z12 Z13 D9 B9 hHeld
 generalize World.setCell _ _ _=w10 at D10 R14 Z14 ⊢
 try go_wp2
 have D11:=D10.drew
 have R11:=Kd.R_drew R14
 have Z11:=blk_drew Z14
 clear D10 R14 Z14
 obtain ⟨gB,cap,oki,v0,v1,v4,v5,rfl,hcc,r0,r1,r4,r5,hok,⟨csB,tB⟩,hfr,hH⟩:=D11.M.lend hb0 hb1
 obtain ⟨A2,c2,rfl⟩:=Kd.R_slice r1
 have hPA:∀ k,k=gl→¬ ((P k∨w.heap.size≤k)∧¬ (k=g∨k=gl∨k=gz)):=fun k e h=>h.2 (.inr (.inl e))
 have hgz:¬ ((P gz∨w.heap.size≤gz)∧¬ (gz=g∨gz=gl∨gz=gz)):=fun h=>h.2 (.inr (.inr rfl))
 refine start_ (n:=31) (S:=fun w'=>w'.cell? ⟨gm,0,none⟩=some (.pointer (some ⟨gf,0,none⟩))∧w'.cell? ⟨gm,1,none⟩=some (.int .i64 b)∧w'.cell? ⟨gf,5,none⟩=some (.slice (some ⟨gB,0,none⟩) F2.bl.length cap)∧w'.cell? ⟨gB,b.toNat*9+1,none⟩=some (.slice A2 (rd_T53 F2.bl b).f1.length c2)∧w'.cell? ⟨gz,0,none⟩=some (.int .i64 op)∧w'.cell? ⟨gz,1,none⟩=some (.int .i64 (-1))∧w'.cell? ⟨gz,2,none⟩=some (.slice (some ⟨gl,0,none⟩) 2 2)∧w'.cell? ⟨gz,3,none⟩=some (.int .u64 0)∧w'.cell? ⟨gz,4,none⟩=some (.int .i64 kk)) (ds:=[30]) (bz 31 0) (by kernel_rfl) rfl rfl ⟨(D11.M.cells.1),(D11.M.cells.2.1),(D11.M.cells.2.2.2.2.2.2.2),(hcc 1 _ rfl),((blk_cell Z11 0).trans rfl),((blk_cell Z11 1).trans rfl),((blk_cell Z11 2).trans rfl),((blk_cell Z11 3).trans rfl),((blk_cell Z11 4).trans rfl)⟩ (fun hHeld=>?_)
 refine with_tabW mkStepX.tab26 mkStepX.bits26 (fun HT_ HW_=>?_)
 generalize w10.drew=w16 at hHeld D11 R11 Z11 hcc r0 r1 r4 r5 tB hfr hH ⊢
 have bd0:(0≤b)=True:=eq_true hb0
 have bd1:(b<(F2.bl.length:Int))=True:=eq_true hb1
 refine pu_ 0 307 HT_ ?_
 refine pu_ 1 308 HT_ ?_
 refine pu_ 2 309 HT_ ?_
 refine pu_ 7 314 HT_ ?_
 refine pu_ 8 315 HT_ ?_
 refine pu_ 9 316 HT_ ?_
 refine pu_ 11 318 HT_ ?_
 refine pu_ 12 319 HT_ ?_
 refine pu_ 13 320 HT_ ?_
 refine pu_ 18 325 HT_ ?_
 refine pu_ 19 326 HT_ ?_
 refine pu_ 20 327 HT_ ?_
 refine tk_ 3 310 HT_ HW_ hHeld ?_ (hy:=by rintro w' ⟨s0,s1,s2,s3,s4,s5,s6,s7,s8⟩;go_simp;with_reducible rfl)
 refine pu_ 4 311 HT_ ?_
 refine pu_ 5 312 HT_ ?_
 refine tk_ 6 313 HT_ HW_ hHeld ?_ (hy:=by rintro w' ⟨s0,s1,s2,s3,s4,s5,s6,s7,s8⟩;go_simp;with_reducible rfl)
 refine tk_ 10 317 HT_ HW_ hHeld ?_ (hy:=by rintro w' ⟨s0,s1,s2,s3,s4,s5,s6,s7,s8⟩;go_simp;with_reducible rfl)
 refine tk_ 14 321 HT_ HW_ hHeld ?_ (hy:=by rintro w' ⟨s0,s1,s2,s3,s4,s5,s6,s7,s8⟩;go_simp;with_reducible rfl)
 refine pu_ 15 322 HT_ ?_
 refine pu_ 16 323 HT_ ?_
 refine tk_ 17 324 HT_ HW_ hHeld ?_ (hy:=by rintro w' ⟨s0,s1,s2,s3,s4,s5,s6,s7,s8⟩;go_simp;with_reducible rfl)
 refine tk_ 21 328 HT_ HW_ hHeld ?_ (hy:=by rintro w' ⟨s0,s1,s2,s3,s4,s5,s6,s7,s8⟩;go_simp;with_reducible rfl)
 refine pu_ 22 329 HT_ ?_
 refine pu_ 23 330 HT_ ?_
 refine tk_ 24 331 HT_ HW_ hHeld ?_ (hy:=by rintro w' ⟨s0,s1,s2,s3,s4,s5,s6,s7,s8⟩;go_simp;with_reducible rfl)
 refine tk_ 25 332 HT_ HW_ hHeld ?_ (hy:=by rintro w' ⟨s0,s1,s2,s3,s4,s5,s6,s7,s8⟩;go_simp;with_reducible rfl)
 refine on_ 26 (some 333) HT_ (fun K hK=>?_)
 refine value_ (w1:=?_) (v:=?_) (by rfl) rfl ?_ ?_;rotate_left 2;(go_simp;constructor);(rfl);(rfl)
 refine hK.out _ _ ⟨(D11.alloc _).M.cells.1,(D11.alloc _).M.cells.2.1,(D11.alloc _).M.cells.2.2.2.2.2.2.2,pw_cell_below (below_alloc (Below.refl _ _) _) (hcc 1 _ rfl),(blk_cell (blk_alloc Z11 _) 0).trans rfl,(blk_cell (blk_alloc Z11 _) 1).trans rfl,(blk_cell (blk_alloc Z11 _) 2).trans rfl,(blk_cell (blk_alloc Z11 _) 3).trans rfl,(blk_cell (blk_alloc Z11 _) 4).trans rfl⟩ (fun hHeld=>?_);clear hK K
 refine no_ 333 ?_
 refine on_ 27 (some 334) HT_ (fun K hK=>?_)
 refine Kd.R_append_step k72 (w0:=w0) w0.heap.size (by rfl) (.tmp 331) (.tmp 333) 48 72 (.agg #[(.int .i64 0),(.int .i64 0),(.slice none 0 0),(.int .u64 0),(.int .i64 0)]) 56 rfl Try.underlying48 info_Inst rfl (by decide) (by omega) (.slice A2 (rd_T53 F2.bl b).f1.length c2) (rd_T53 F2.bl b).f1 ⟨op,-1,[x1,x2],0,kk⟩ [.int .i64 op,.int .i64 (-1),.slice (some ⟨gl,0,none⟩) 2 2,.int .u64 0,.int .i64 kk] (fun k=>oki k∨k=gl∨w16.heap.size≤k) (fun k=>k=gl) rfl rfl (k72_mkM _ _ _ ⟨op,-1,[x1,x2],0,kk⟩ R11) (fun k hk=>⟨.inr (.inl hk),fun e=>hPA k hk (hok k (r1.1 k e.symm)).1.1.1⟩) (fun k hk=>.inr (.inr hk)) (Kd.R_mono r1 (fun k hk=>.inl hk)) D11.M.hB D11.M.ge (by omega) ?_
 intro v2 w17 ho hb hg hat
 obtain ⟨A3,c3,e3⟩:=Kd.R_slice ho
 rw [List.length_append,List.length_singleton] at e3
 subst e3
 have m17:=blk_grown D11.M.hm hg (Kd.R_ne r1 D11.M.hm (by decide))
 have f17:=blk_grown D11.M.hf hg (Kd.R_ne r1 D11.M.hf (by decide))
 have I7:=blk_grown Z11 hg (fun e=>hgz (hok gz (r1.1 gz e.symm)).1.1.1)
 have B7:=blk_grown tB hg (Kd.R_ne r1 tB (by decide))
 have E7:=hg.cell (hcc 1 _ rfl) (Kd.R_ne r1 tB (by decide))
 refine hK.out _ _ ⟨(blk_cell m17 0).trans rfl,(blk_cell m17 1).trans rfl,(blk_cell f17 5).trans rfl,E7,(blk_cell I7 0).trans rfl,(blk_cell I7 1).trans rfl,(blk_cell I7 2).trans rfl,(blk_cell I7 3).trans rfl,(blk_cell I7 4).trans rfl⟩ (fun hHeld=>?_);clear hK K
 refine no_ 334 ?_
 refine pu_ 28 335 HT_ ?_
 refine pu_ 29 336 HT_ ?_
 refine la_ 30 none HT_ (fun K hK=>?_)
 have s2:=blk_frozen B7 (b.toNat*9+1)
 refine skip_ (w1:=?_) (by rfl) rfl ?_ ?_;rotate_left;(go_simp)
 rfl
 refine hK.out _ _ ?_;clear hK K
 refine done_ (done_of HT_.out (by kernel_rfl)) ?_
 obtain ⟨M12,K12⟩:=D11.M.push_inst hb0 hb1 hok hH r0 r1 r4 r5 ho hb hg hPA
 have K13:=D11.K.then_ K12 (Turn.trans (fun _ e=>e.1) D11.K D11.S D11.T)
 have hl:=(D11.hO gl (.inr (.inl rfl))).1
 have hk16:=D11.K.1
 have S11:=D11.S
 have T11:=D11.T
 clear D11 R11 Z11 ho hb hg hat hHeld hcc r0 r1 r4 r5 tB hfr hH m17 f17 I7 B7 E7 s2
 try go_wp2
 go_end0
 refine ⟨rfl,_,_,M12.mono ?_,K13,S11,T11⟩
 intro k hk
 rcases hk with (hk | hk) | hk
 ·exact hk.1
 ·exact .inr (hk ▸ hl)
 ·exact .inr (Nat.le_trans hk16 hk)
set_option maxHeartbeats 8000000 in
set_option maxRecDepth 100000 in
theorem mkStepN1_calls {w0 w:World} {P:Nat→Prop} {gm gf:Nat} {F F':FN} {b wd op:Int} {vals vals':List Int} {vW vA vS vR vB vV:Value} {s:S87} (hM:MKv w0 w P gm gf F b vals vW vA vS vR vB vV) (hwd:jacquardref27_wide.f s.f4=some wd) (hop:wrap64 (1+Int.tmod (wrap64 s.f0) 28)=op) (b1:(op==1)=false) (hc:jacquardref01_IsCompare.f op=some false) (hd:jacquardref01_IsBinary.f op=some false) (b2:(op==21)=false) (b3:decide (op<25)=false) (b4:(op==25)=true) (b5:(op==26)=false) (b6:(op==27)=false) (b7:(op==28)=false) (hlen:F.ar.length=0)
  (h:some (F,vals)=some (F',vals')) :
  Calls Try.prog 25 #[.pointer (some ⟨gm,0,none⟩),.agg #[.int .u8 s.f0,.int .u8 s.f1,.int .u8 s.f2,.int .u8 s.f3,.int .u8 s.f4,.int .u64 s.f5]] w fun e w'=>e = .returned (.tuple #[])∧After w0 w P gm gf vW vA vS vR vB vV F' b vals' w':=by
 injection h with h
 injection h with hF hv
 subst hF hv
 obtain ⟨AA,cA,rfl⟩:=Kd.R_slice hM.rA
 have l1:decide ((F.ar.length:Int)>0)=false:=decide_eq_false (by omega)
 have l2:decide (0<F.ar.length)=false:=decide_eq_false (by omega)
 replace hlen:=Aside0.mk hlen
 go_enter Try.func25,Try.ntmps25
 go_wp2_with (first | ((with_reducible refine gate_dst (N:=3) rfl ?_);refine box_event ?hg (N:=3) ?hd (cs := #[.int .u8 s.f0,.int .u8 s.f1,.int .u8 s.f2,.int .u8 s.f3,.int .u8 s.f4,.int .u64 s.f5]) (t:=87) ?hr ?_;(case hd=>rfl);(case hg=>rfl);(case hr=>first | (go_simp;done) | (go_simp;rfl));intro g hg w1 hbox hb1;have D:=Mid.start (O:=fun k=>k=g) hM hb1 (fun k e=>by have:=blk_lt hbox;omega);have B:=hbox;have c4:=own_cell B 4 (.int .u8 s.f4) rfl;clear hbox hb1;replace hg:=Aside0.mk hg) | (go_at_call 24;refine (jacquardref27_wide.calls s.f4 wd _ hwd).mono ?_;rintro e w2 ⟨rfl,hb2⟩;replace D:=D.below hb2;replace B:=blk_below B hb2;clear c4 hb2;have c0:=own_cell B 0 (.int .u8 s.f0) rfl;skip) | (go_at_call 42;refine (jacquardref01_IsCompare.calls op false _ hc).mono ?_;rintro e w3 ⟨rfl,hb3⟩;replace D:=D.below hb3.below;replace B:=blk_below B hb3.below;clear hb3 c0) | (go_at_call 44;refine (jacquardref01_IsBinary.calls op false _ hd).mono ?_;rintro e w4 ⟨rfl,hb4⟩;replace D:=D.below hb4.below;replace B:=blk_below B hb4.below;clear hb4;have z1:=D.M.cells.1;have z5:=D.M.cells.2.2.2.2.1))
 go_end0
 exact ⟨rfl,D.done⟩
set_option maxHeartbeats 8000000 in
set_option maxRecDepth 100000 in
theorem mkStepN2_calls {w0 w:World} {P:Nat→Prop} {gm gf:Nat} {F F':FN} {b wd op:Int} {vals vals':List Int} {vW vA vS vR vB vV:Value} {s:S87} (hM:MKv w0 w P gm gf F b vals vW vA vS vR vB vV) (hwd:jacquardref27_wide.f s.f4=some wd) (hop:wrap64 (1+Int.tmod (wrap64 s.f0) 28)=op) (b1:(op==1)=false) (hc:jacquardref01_IsCompare.f op=some false) (hd:jacquardref01_IsBinary.f op=some false) (b2:(op==21)=false) (b3:decide (op<25)=false) (b4:(op==25)=false) (b5:(op==26)=true) (b6:(op==27)=false) (b7:(op==28)=false) (hlen:F.ar.length=0)
  (h:some (F,vals)=some (F',vals')) :
  Calls Try.prog 25 #[.pointer (some ⟨gm,0,none⟩),.agg #[.int .u8 s.f0,.int .u8 s.f1,.int .u8 s.f2,.int .u8 s.f3,.int .u8 s.f4,.int .u64 s.f5]] w fun e w'=>e = .returned (.tuple #[])∧After w0 w P gm gf vW vA vS vR vB vV F' b vals' w':=by
 injection h with h
 injection h with hF hv
 subst hF hv
 obtain ⟨AA,cA,rfl⟩:=Kd.R_slice hM.rA
 have l1:decide ((F.ar.length:Int)>0)=false:=decide_eq_false (by omega)
 have l2:decide (0<F.ar.length)=false:=decide_eq_false (by omega)
 replace hlen:=Aside0.mk hlen
 go_enter Try.func25,Try.ntmps25
 go_wp2_with (first | ((with_reducible refine gate_dst (N:=3) rfl ?_);refine box_event ?hg (N:=3) ?hd (cs := #[.int .u8 s.f0,.int .u8 s.f1,.int .u8 s.f2,.int .u8 s.f3,.int .u8 s.f4,.int .u64 s.f5]) (t:=87) ?hr ?_;(case hd=>rfl);(case hg=>rfl);(case hr=>first | (go_simp;done) | (go_simp;rfl));intro g hg w1 hbox hb1;have D:=Mid.start (O:=fun k=>k=g) hM hb1 (fun k e=>by have:=blk_lt hbox;omega);have B:=hbox;have c4:=own_cell B 4 (.int .u8 s.f4) rfl;clear hbox hb1;replace hg:=Aside0.mk hg) | (go_at_call 24;refine (jacquardref27_wide.calls s.f4 wd _ hwd).mono ?_;rintro e w2 ⟨rfl,hb2⟩;replace D:=D.below hb2;replace B:=blk_below B hb2;clear c4 hb2;have c0:=own_cell B 0 (.int .u8 s.f0) rfl;skip) | (go_at_call 42;refine (jacquardref01_IsCompare.calls op false _ hc).mono ?_;rintro e w3 ⟨rfl,hb3⟩;replace D:=D.below hb3.below;replace B:=blk_below B hb3.below;clear hb3 c0) | (go_at_call 44;refine (jacquardref01_IsBinary.calls op false _ hd).mono ?_;rintro e w4 ⟨rfl,hb4⟩;replace D:=D.below hb4.below;replace B:=blk_below B hb4.below;clear hb4;have z1:=D.M.cells.1;have z5:=D.M.cells.2.2.2.2.1))
 go_end0
 exact ⟨rfl,D.done⟩
set_option maxHeartbeats 8000000 in
set_option maxRecDepth 100000 in
theorem mkStepN3_calls {w0 w:World} {P:Nat→Prop} {gm gf:Nat} {F F':FN} {b wd op:Int} {vals vals':List Int} {vW vA vS vR vB vV:Value} {s:S87} (hM:MKv w0 w P gm gf F b vals vW vA vS vR vB vV) (hwd:jacquardref27_wide.f s.f4=some wd) (hop:wrap64 (1+Int.tmod (wrap64 s.f0) 28)=op) (b1:(op==1)=false) (hc:jacquardref01_IsCompare.f op=some false) (hd:jacquardref01_IsBinary.f op=some false) (b2:(op==21)=false) (b3:decide (op<25)=false) (b4:(op==25)=false) (b5:(op==26)=false) (b6:(op==27)=true) (b7:(op==28)=false) {kk:Int} (hst:mkStream F.st false s.f2=some kk) (hkk:¬ 0≤kk)
  (h:some (F,vals)=some (F',vals')) :
  Calls Try.prog 25 #[.pointer (some ⟨gm,0,none⟩),.agg #[.int .u8 s.f0,.int .u8 s.f1,.int .u8 s.f2,.int .u8 s.f3,.int .u8 s.f4,.int .u64 s.f5]] w fun e w'=>e = .returned (.tuple #[])∧After w0 w P gm gf vW vA vS vR vB vV F' b vals' w':=by
 injection h with h
 injection h with hF hv
 subst hF hv
 have p1:decide (kk≥0)=false:=decide_eq_false hkk
 replace hkk:=Aside0.mk hkk
 go_enter Try.func25,Try.ntmps25
 go_wp2_with (first | ((with_reducible refine gate_dst (N:=3) rfl ?_);refine box_event ?hg (N:=3) ?hd (cs := #[.int .u8 s.f0,.int .u8 s.f1,.int .u8 s.f2,.int .u8 s.f3,.int .u8 s.f4,.int .u64 s.f5]) (t:=87) ?hr ?_;(case hd=>rfl);(case hg=>rfl);(case hr=>first | (go_simp;done) | (go_simp;rfl));intro g hg w1 hbox hb1;have D:=Mid.start (O:=fun k=>k=g) hM hb1 (fun k e=>by have:=blk_lt hbox;omega);have B:=hbox;have c4:=own_cell B 4 (.int .u8 s.f4) rfl;clear hbox hb1;replace hg:=Aside0.mk hg) | (go_at_call 24;refine (jacquardref27_wide.calls s.f4 wd _ hwd).mono ?_;rintro e w2 ⟨rfl,hb2⟩;replace D:=D.below hb2;replace B:=blk_below B hb2;clear c4 hb2;have c0:=own_cell B 0 (.int .u8 s.f0) rfl;skip) | (go_at_call 42;refine (jacquardref01_IsCompare.calls op false _ hc).mono ?_;rintro e w3 ⟨rfl,hb3⟩;replace D:=D.below hb3.below;replace B:=blk_below B hb3.below;clear hb3 c0) | (go_at_call 44;refine (jacquardref01_IsBinary.calls op false _ hd).mono ?_;rintro e w4 ⟨rfl,hb4⟩;replace D:=D.below hb4.below;replace B:=blk_below B hb4.below;clear hb4;have c2:=own_cell B 2 (.int .u8 s.f2) rfl) | (go_at_call 46;refine (mkStream_calls (out:=false) D.M hst).mono ?_;rintro e w5 ⟨rfl,hb5⟩;replace D:=D.below hb5;replace B:=blk_below B hb5;clear hb5;have c2:=own_cell B 2 (.int .u8 s.f2) rfl))
 go_end0
 exact ⟨rfl,D.done⟩
set_option maxHeartbeats 8000000 in
set_option maxRecDepth 100000 in
theorem mkStepN4_calls {w0 w:World} {P:Nat→Prop} {gm gf:Nat} {F F':FN} {b wd op:Int} {vals vals':List Int} {vW vA vS vR vB vV:Value} {s:S87} (hM:MKv w0 w P gm gf F b vals vW vA vS vR vB vV) (hwd:jacquardref27_wide.f s.f4=some wd) (hop:wrap64 (1+Int.tmod (wrap64 s.f0) 28)=op) (b1:(op==1)=false) (hc:jacquardref01_IsCompare.f op=some false) (hd:jacquardref01_IsBinary.f op=some false) (b2:(op==21)=false) (b3:decide (op<25)=false) (b4:(op==25)=false) (b5:(op==26)=false) (b6:(op==27)=false) (b7:(op==28)=true) {kk:Int} (hst:mkStream F.st true s.f2=some kk) (hkk:¬ 0≤kk)
  (h:some (F,vals)=some (F',vals')) :
  Calls Try.prog 25 #[.pointer (some ⟨gm,0,none⟩),.agg #[.int .u8 s.f0,.int .u8 s.f1,.int .u8 s.f2,.int .u8 s.f3,.int .u8 s.f4,.int .u64 s.f5]] w fun e w'=>e = .returned (.tuple #[])∧After w0 w P gm gf vW vA vS vR vB vV F' b vals' w':=by
 injection h with h
 injection h with hF hv
 subst hF hv
 have p1:decide (kk≥0)=false:=decide_eq_false hkk
 replace hkk:=Aside0.mk hkk
 go_enter Try.func25,Try.ntmps25
 go_wp2_with (first | ((with_reducible refine gate_dst (N:=3) rfl ?_);refine box_event ?hg (N:=3) ?hd (cs := #[.int .u8 s.f0,.int .u8 s.f1,.int .u8 s.f2,.int .u8 s.f3,.int .u8 s.f4,.int .u64 s.f5]) (t:=87) ?hr ?_;(case hd=>rfl);(case hg=>rfl);(case hr=>first | (go_simp;done) | (go_simp;rfl));intro g hg w1 hbox hb1;have D:=Mid.start (O:=fun k=>k=g) hM hb1 (fun k e=>by have:=blk_lt hbox;omega);have B:=hbox;have c4:=own_cell B 4 (.int .u8 s.f4) rfl;clear hbox hb1;replace hg:=Aside0.mk hg) | (go_at_call 24;refine (jacquardref27_wide.calls s.f4 wd _ hwd).mono ?_;rintro e w2 ⟨rfl,hb2⟩;replace D:=D.below hb2;replace B:=blk_below B hb2;clear c4 hb2;have c0:=own_cell B 0 (.int .u8 s.f0) rfl;skip) | (go_at_call 42;refine (jacquardref01_IsCompare.calls op false _ hc).mono ?_;rintro e w3 ⟨rfl,hb3⟩;replace D:=D.below hb3.below;replace B:=blk_below B hb3.below;clear hb3 c0) | (go_at_call 44;refine (jacquardref01_IsBinary.calls op false _ hd).mono ?_;rintro e w4 ⟨rfl,hb4⟩;replace D:=D.below hb4.below;replace B:=blk_below B hb4.below;clear hb4;have c2:=own_cell B 2 (.int .u8 s.f2) rfl) | (go_at_call 46;refine (mkStream_calls (out:=true) D.M hst).mono ?_;rintro e w5 ⟨rfl,hb5⟩;replace D:=D.below hb5;replace B:=blk_below B hb5;clear hb5;have c2:=own_cell B 2 (.int .u8 s.f2) rfl))
 go_end0
 exact ⟨rfl,D.done⟩
def mkStepOp (k:Nat) (F:FN) (b:Int) (vals:List Int) (s:S87) (op wd:Int):Option (FN × List Int):=
 if op=1 then mkConst k F b vals s op wd
 else if 15≤op∧op≤20 then mkBin F b vals s op wd 1
 else if 2≤op∧op≤20 then mkBin F b vals s op wd wd
 else if op=21 then mkSel F b vals s op wd
 else if op<25 then (mkValue F b vals wd (Go.bits .or .u8 s.f1 7)).bind fun z=>some (z.1,z.2.1)
 else if op=25 then (if F.ar.length=0 then some (F,vals) else mkLoad F b vals s op (Int.tmod (wrap64 s.f2) (F.ar.length:Int)))
 else if op=26 then (if F.ar.length=0 then some (F,vals) else mkStore F b vals s op (Int.tmod (wrap64 s.f2) (F.ar.length:Int)))
 else if op=27 then (mkStream F.st false s.f2).bind fun kk=>if 0≤kk then mkRecv F b vals s op kk else some (F,vals)
 else if op=28 then (mkStream F.st true s.f2).bind fun kk=>if 0≤kk then mkSend F b vals s op kk else some (F,vals)
 else none
def mkStep (k:Nat) (F:FN) (b:Int) (vals:List Int) (s:S87):Option (FN × List Int):=
 (jacquardref27_wide.f s.f4).bind fun wd=>mkStepOp k F b vals s (wrap64 (1+Int.tmod (wrap64 s.f0) 28)) wd
theorem mkStep_calls {k:Nat} {w0 w:World} {P:Nat→Prop} {gm gf:Nat} {F F':FN} {b:Int} {vals vals':List Int} {vW vA vS vR vB vV:Value} {s:S87} (hM:MKv w0 w P gm gf F b vals vW vA vS vR vB vV) (h:mkStep k F b vals s=some (F',vals')) :
  Calls Try.prog 25 #[.pointer (some ⟨gm,0,none⟩),.agg #[.int .u8 s.f0,.int .u8 s.f1,.int .u8 s.f2,.int .u8 s.f3,.int .u8 s.f4,.int .u64 s.f5]] w fun e w'=>e = .returned (.tuple #[])∧After w0 w P gm gf vW vA vS vR vB vV F' b vals' w':=by
 obtain ⟨wd,hwd,h⟩:=Option.bind_eq_some_iff.mp h
 generalize hop:wrap64 (1+Int.tmod (wrap64 s.f0) 28)=op at h
 have bt:∀ {n:Int},op=n→(op==n)=true:=fun e=>by simpa using e
 have bf:∀ {n:Int},¬ op=n→(op==n)=false:=fun e=>by simpa using e
 have cF:¬ (15≤op∧op≤20)→jacquardref01_IsCompare.f op=some false:=fun e=>by
  unfold jacquardref01_IsCompare.f
  split
  ·rw [decide_eq_false (by omega)]
  ·rfl
 have iF:¬ (2≤op∧op≤20)→jacquardref01_IsBinary.f op=some false:=fun e=>by
  unfold jacquardref01_IsBinary.f
  split
  ·rw [decide_eq_false (by omega)]
  ·rfl
 unfold mkStepOp at h
 by_cases h1:op=1
 ·rw [if_pos h1] at h;exact mkStepK_calls hM hwd hop (bt h1) h
 rw [if_neg h1] at h
 by_cases h2:15≤op∧op≤20
 ·rw [if_pos h2] at h
  exact mkStepC_calls hM hwd hop (bf h1) (by unfold jacquardref01_IsCompare.f;rw [if_pos h2.1,decide_eq_true h2.2]) h
 rw [if_neg h2] at h
 by_cases h3:2≤op∧op≤20
 ·rw [if_pos h3] at h
  exact mkStepB_calls hM hwd hop (bf h1) (cF h2) (by unfold jacquardref01_IsBinary.f;rw [if_pos h3.1,decide_eq_true h3.2]) h
 rw [if_neg h3] at h
 by_cases h4:op=21
 ·rw [if_pos h4] at h;exact mkStepS_calls hM hwd hop (bf h1) (cF h2) (iF h3) (bt h4) h
 rw [if_neg h4] at h
 by_cases h5:op<25
 ·rw [if_pos h5] at h;exact mkStepE_calls hM hwd hop (bf h1) (cF h2) (iF h3) (bf h4) (decide_eq_true h5) h
 rw [if_neg h5] at h
 have h5':=decide_eq_false h5
 by_cases h6:op=25
 ·rw [if_pos h6] at h
  split at h
  ·exact mkStepN1_calls hM hwd hop (bf h1) (cF h2) (iF h3) (bf h4) h5' (bt h6) (bf (by omega)) (bf (by omega)) (bf (by omega)) ‹_› h
  ·exact mkStepL_calls hM hwd hop (bf h1) (cF h2) (iF h3) (bf h4) h5' (bt h6) rfl h
 rw [if_neg h6] at h
 by_cases h7:op=26
 ·rw [if_pos h7] at h
  split at h
  ·exact mkStepN2_calls hM hwd hop (bf h1) (cF h2) (iF h3) (bf h4) h5' (bf h6) (bt h7) (bf (by omega)) (bf (by omega)) ‹_› h
  ·exact mkStepT_calls hM hwd hop (bf h1) (cF h2) (iF h3) (bf h4) h5' (bf h6) (bt h7) rfl h
 rw [if_neg h7] at h
 by_cases h8:op=27
 ·rw [if_pos h8] at h
  obtain ⟨kk,hst,h⟩:=Option.bind_eq_some_iff.mp h
  by_cases h9:0≤kk
  ·rw [if_pos h9] at h;exact mkStepR_calls hM hwd hop (bf h1) (cF h2) (iF h3) (bf h4) h5' (bf h6) (bf h7) (bt h8) hst h
  ·rw [if_neg h9] at h;exact mkStepN3_calls hM hwd hop (bf h1) (cF h2) (iF h3) (bf h4) h5' (bf h6) (bf h7) (bt h8) (bf (by omega)) hst h9 h
 rw [if_neg h8] at h
 by_cases h9:op=28
 ·rw [if_pos h9] at h
  obtain ⟨kk,hst,h⟩:=Option.bind_eq_some_iff.mp h
  by_cases h10:0≤kk
  ·rw [if_pos h10] at h;exact mkStepX_calls hM hwd hop (bf h1) (cF h2) (iF h3) (bf h4) h5' (bf h6) (bf h7) (bf h8) (bt h9) hst h
  ·rw [if_neg h10] at h;exact mkStepN4_calls hM hwd hop (bf h1) (cF h2) (iF h3) (bf h4) h5' (bf h6) (bf h7) (bf h8) (bt h9) hst h10 h
 rw [if_neg h9] at h
 exact absurd h (by simp)
section
variable {α : Type} {w0 w W W1:World} {P PA O O' oki:Nat→Prop} {gm gf gB cap g t:Nat} {F F':FN} {b i:Int} {vals vals':List Int} {vW vA vS vR vB vV vW' vV' v0 v1 v4 v5:Value}
theorem Kd.R_fresh (d:Kd α) (W:World) (base e:Nat) {xs:List α} {inner:List Value} {okp:Nat→Prop} (hrep:Reps (d.M W base okp) d.sz xs inner) (hb:base≤W.heap.size) (hm:xs.length≤9223372036854775807) :
  d.R e (W.alloc (.cells inner.toArray e)) base (fun k=>okp k∨k=W.heap.size) (.slice (some ⟨W.heap.size,0,none⟩) xs.length xs.length) xs:=by
 refine ⟨fun k hk=>?_,inner,?_,?_⟩
 ·have:W.heap.size=k:=by simpa [Value.ownBlock] using hk
  exact .inr this.symm
 ·have h2:=World.ownsRow_lit (base:=base) (e:=e) (size:=d.sz) W inner.toArray xs.length hb (by simpa [maxLen] using hm) (by simpa using hrep.1)
  simpa using h2
 ·refine hrep.imp_ (fun p c hp=>d.M_mono (fun k hk=>⟨.inl hk.1,fun he=>?_⟩) (Kd.M_below (d.M_bound hp) (below_alloc (Below.refl _ _) _)))
  have h3:k=W.heap.size:=by simpa [Value.ownBlock] using he
  have:=hk.2.2.1
  omega
theorem Mid.row (h:Mid w0 w P O gm gf vW vA vS vR vB vV F b vals vW' vV' W) (d:Kd α) {e:Nat} {xs:List α} {inner:List Value} {okp:Nat→Prop} {cs:Array Value} (hq:W.alloc (.cells cs e)=W1) (hcs:cs=inner.toArray) (hrep:Reps (d.M W w0.heap.size okp) d.sz xs inner) (hm:xs.length≤9223372036854775807) :
  Mid w0 w P (fun k=>O k∨k=W.heap.size) gm gf vW vA vS vR vB vV F b vals vW' vV' W1∧Below W.heap.size W W1∧d.R e W1 w0.heap.size (fun k=>okp k∨k=W.heap.size) (.slice (some ⟨W.heap.size,0,none⟩) xs.length xs.length) xs:=by
 obtain ⟨a,c,_⟩:=h.new _ hq
 refine ⟨a,c,?_⟩
 subst hcs hq
 exact Kd.R_fresh d W w0.heap.size e hrep h.M.ge hm
theorem Mid.next_edge {vE:Value} {xs:List Int} {vW2 vV2:Value} (h:Mid w0 w P O gm gf vW vA vS vR vB vV F b vals vW' vV' W) (m:MKv w0 W1 (fun k=>(((P k∨w.heap.size≤k)∧¬ O k)∨W.heap.size≤k)∧some k≠vE.ownBlock) gm gf F' b vals' vW2 vA vS vR vB vV2)
  (k:Kept W W1 (Turn W (fun k=>(P k∨w.heap.size≤k)∧¬ O k) gm gf vW' vV')) (s:SameB W vW' vW2) (q:SameB W vV' vV2) (r:Kd.R (Kd.int .i64) 3 W1 W.heap.size (fun k=>some k=vE.ownBlock) vE xs) :
  Mid w0 w P (fun k=>O k∨some k=vE.ownBlock) gm gf vW vA vS vR vB vV F' b vals' vW2 vV2 W1∧(∀ k,O k→W1.heap[k]? = W.heap[k]?)∧Kd.R (Kd.int .i64) 3 W1 w0.heap.size (fun k=>some k=vE.ownBlock) vE xs:=
 ⟨⟨m.mono (fun i hi=>⟨hi.1.elim (fun e=>e.1) (fun e=>.inr (Nat.le_trans h.K.1 e)),fun o=>o.elim (fun o=>hi.1.elim (fun e=>e.2 o) (fun e=>by have:=h.hO i o;omega)) hi.2⟩),h.K.then_ k (Turn.trans (fun _ e=>e.1) h.K h.S h.T),h.S.trans s h.K.1,h.T.trans q h.K.1,
  fun i o=>o.elim (fun o=>⟨(h.hO i o).1,Nat.lt_of_lt_of_le (h.hO i o).2 k.1⟩) (fun e=>⟨Nat.le_trans h.K.1 (Kd.R_base r i e.symm),Kd.R_lt r i e.symm⟩),h.hw⟩,fun i o=>k.2 i (h.hO i o).2 (fun e=>e.1.2 o),Kd.R_lower r h.M.ge⟩
theorem Mid.grown {v v1:Value} (h:Mid w0 w P (fun k=>O k∨some k=v.ownBlock) gm gf vW vA vS vR vB vV F b vals vW' vV' W) (hg:W.grownBy W1 v.ownBlock) (hat:v1.ownBlock=v.ownBlock∨∃ c,v1.ownBlock=some c∧W.heap.size≤c) (hl:∀ k,v1.ownBlock=some k→k<W1.heap.size) :
  Mid w0 w P (fun k=>O k∨some k=v1.ownBlock) gm gf vW vA vS vR vB vV F b vals vW' vV' W1:=by
 refine ⟨(h.M.beside hg (fun k hk _ e=>hk.2 (.inr e)) (fun k e=>Nat.le_trans h.hw (h.hO k (.inr e.symm)).1)).mono (fun k hk=>⟨hk.1.1,fun o=>o.elim (fun o=>hk.1.2 (.inl o)) (fun e=>?_)⟩),Kept.of_grown hg h.K (fun k e=>.inr (h.hO k (.inr e.symm)).1),h.S,h.T,fun k o=>?_,h.hw⟩
 ·rcases hat with hat | ⟨c,hat,hc⟩
  ·exact hk.1.2 (.inr (hat ▸ e))
  ·rw [hat] at e;injection e with e;have:=hk.2;omega
 ·rcases o with o | e
  ·exact ⟨(h.hO k (.inl o)).1,Nat.lt_of_lt_of_le (h.hO k (.inl o)).2 hg.size⟩
  ·refine ⟨?_,hl k e.symm⟩
   rcases hat with hat | ⟨c,hat,hc⟩
   ·exact (h.hO k (.inr (hat ▸ e))).1
   ·rw [hat] at e;injection e with e;exact Nat.le_trans h.K.1 (e ▸ hc)
theorem MKv.set_term {kind cond:Int} {es:List S111} {rets:List Int} {vT vQ:Value} (h:MKv w0 W P gm gf F b vals vW vA vS vR (.slice (some ⟨gB,0,none⟩) F.bl.length cap) vV) (h0:0≤i) (h1:i<F.bl.length) (hok:∀ k,oki k→((P k∧some k≠vW.ownBlock)∧some k≠vV.ownBlock)∧k≠gB)
  (hH:Kd.H k53 53 W w0.heap.size (fun k=>(((P k∧k<W.heap.size)∧some k≠vW.ownBlock)∧some k≠vV.ownBlock)∧some k≠vR.ownBlock) (.slice (some ⟨gB,0,none⟩) F.bl.length cap) F.bl i oki [v0,v1,.int .i64 (rd_T53 F.bl i).f2.f0,.int .i64 (rd_T53 F.bl i).f2.f1,v4,v5,.int .i64 (rd_T53 F.bl i).f3,.int .i64 (rd_T53 F.bl i).f4,.int .i64 (rd_T53 F.bl i).f5])
  (r0:(Kd.int .i64).R 3 W w0.heap.size oki v0 (rd_T53 F.bl i).f0) (r1:k72.R 72 W w0.heap.size oki v1 (rd_T53 F.bl i).f1) (rT:k111.R 111 W w0.heap.size PA vT es) (rQ:(Kd.int .i64).R 3 W w0.heap.size PA vQ rets) (hPA:∀ k,PA k→¬ P k) :
  MKv w0 (W.setCells gB (i.toNat*9+2) [.int .i64 kind,.int .i64 cond,vT,vQ]) (fun k=>(P k∨PA k)∨W.heap.size≤k) gm gf { F with bl:=F.bl.set i.toNat { rd_T53 F.bl i with f2:=⟨kind,cond,es,rets⟩ } } b vals vW vA vS vR (.slice (some ⟨gB,0,none⟩) F.bl.length cap) vV∧Kept W (W.setCells gB (i.toNat*9+2) [.int .i64 kind,.int .i64 cond,vT,vQ]) (Turn W P gm gf vW vV):=
 h.back (v1:=.slice none 0 0) h0 h1 hok hH (fun k e=>by simp [Value.ownBlock] at e) (fun k e=>by simp [Value.ownBlock] at e) (grown_of_below (Below.refl _ _) _) h.hB (seg:=[.int .i64 kind,.int .i64 cond,vT,vQ]) (j:=2) (by show 6≤9;omega) (x':={ rd_T53 F.bl i with f2:=⟨kind,cond,es,rets⟩ }) (okp:=fun k=>oki k∨PA k)
  (k53_mkM _ _ _ { rd_T53 F.bl i with f2:=⟨kind,cond,es,rets⟩ } (Kd.R_mono r0 (fun k hk=>.inl hk)) (Kd.R_mono r1 (fun k hk=>.inl hk)) (Kd.R_mono rT (fun k hk=>.inr hk)) (Kd.R_mono rQ (fun k hk=>.inr hk))) (fun k hk=>hk.imp id .inl) hPA
theorem MKv.set_pipe {pl:Int} (h:MKv w0 W P gm gf F b vals vW vA vS vR (.slice (some ⟨gB,0,none⟩) F.bl.length cap) vV) (h0:0≤i) (h1:i<F.bl.length) (hok:∀ k,oki k→((P k∧some k≠vW.ownBlock)∧some k≠vV.ownBlock)∧k≠gB)
  (hH:Kd.H k53 53 W w0.heap.size (fun k=>(((P k∧k<W.heap.size)∧some k≠vW.ownBlock)∧some k≠vV.ownBlock)∧some k≠vR.ownBlock) (.slice (some ⟨gB,0,none⟩) F.bl.length cap) F.bl i oki [v0,v1,.int .i64 (rd_T53 F.bl i).f2.f0,.int .i64 (rd_T53 F.bl i).f2.f1,v4,v5,.int .i64 (rd_T53 F.bl i).f3,.int .i64 (rd_T53 F.bl i).f4,.int .i64 (rd_T53 F.bl i).f5])
  (r0:(Kd.int .i64).R 3 W w0.heap.size oki v0 (rd_T53 F.bl i).f0) (r1:k72.R 72 W w0.heap.size oki v1 (rd_T53 F.bl i).f1) (r4:k111.R 111 W w0.heap.size oki v4 (rd_T53 F.bl i).f2.f2) (r5:(Kd.int .i64).R 3 W w0.heap.size oki v5 (rd_T53 F.bl i).f2.f3) :
  MKv w0 (W.setCell ⟨gB,i.toNat*9+6,none⟩ (.int .i64 pl)) (fun k=>P k∨W.heap.size≤k) gm gf { F with bl:=F.bl.set i.toNat { rd_T53 F.bl i with f3:=pl } } b vals vW vA vS vR (.slice (some ⟨gB,0,none⟩) F.bl.length cap) vV∧Kept W (W.setCell ⟨gB,i.toNat*9+6,none⟩ (.int .i64 pl)) (Turn W P gm gf vW vV):=by
 obtain ⟨m,k⟩:=h.back (PA:=fun _=>False) (v1:=.slice none 0 0) h0 h1 hok hH (fun k e=>by simp [Value.ownBlock] at e) (fun k e=>by simp [Value.ownBlock] at e) (grown_of_below (Below.refl _ _) _) h.hB (seg:=[.int .i64 pl]) (j:=6) (by show 7≤9;omega) (x':={ rd_T53 F.bl i with f3:=pl }) (okp:=oki)
  (k53_mkM _ _ _ { rd_T53 F.bl i with f3:=pl } r0 r1 r4 r5) (fun k hk=>.inl hk) (fun k hk=>hk.elim)
 exact ⟨m.mono (fun k hk=>hk.elim (fun e=>.inl (e.elim id False.elim)) .inr),k⟩
end
def endKind (n b pk:Int) (pl:Bool):Int:=if (n==1 || (b==wrap64 (n - 1)) && !pl)=true then 0 else Int.tmod pk 4
def endTo (n p:Int):Int:=wrap64 (1+Int.tmod (wrap64 p) (if wrap64 (n - 1)<1 then 1 else wrap64 (n - 1)))
def endLoop (n b:Int) (pl:Bool):Bool:=pl&&decide (b>0)&&decide (n>2)
def mkTerm (F:FN) (b:Int) (vals:List Int) (t:S51):Option (FN × List Int):=
 if 0≤b∧b<F.bl.length then some ({ F with bl:=F.bl.set b.toNat { rd_T53 F.bl b with f2:=t } },vals) else none
def mkEndJ (F:FN) (b:Int) (vals:List Int) (pt:Int):Option (FN × List Int):=
 (mkEdge F b vals (endTo F.bl.length pt) pt).bind fun e=>mkTerm e.1 b e.2.1 ⟨1,-1,[e.2.2],[]⟩
def mkEndB (F:FN) (b:Int) (vals:List Int) (pc pt pf:Int):Option (FN × List Int):=
 (mkValue F b vals 1 pc).bind fun c=>(mkEdge c.1 b c.2.1 (endTo F.bl.length pt) pt).bind fun e=>(mkEdge e.1 b e.2.1 (endTo F.bl.length pf) pf).bind fun q=>mkTerm q.1 b q.2.1 ⟨2,c.2.2,[e.2.2,q.2.2],[]⟩
def mkRetsL (b:Int) (p:List Int) (k:Int):Nat→Int→FN→List Int→List Int→Option (FN × List Int × List Int)
 | 0,_,F,vals,acc=>some (F,vals,acc)
 | d+1,i,F,vals,acc=>(mkValue F b vals (rd p i) ((k+i % 256) % 256)).bind fun r=>mkRetsL b p k d (i+1) r.1 r.2.1 (acc++[r.2.2])
def mkEndR (F:FN) (b:Int) (vals:List Int) (pt:Int):Option (FN × List Int):=
 if F.rt.length<17592186044415 then (mkRetsL b F.rt pt F.rt.length 0 F vals []).bind fun r=>mkTerm r.1 b r.2.1 ⟨3,-1,[],r.2.2⟩ else none
def mkEndL (F:FN) (b:Int) (vals:List Int) (pk pc pt pf:Int):Option (FN × List Int):=
 (mkValue F b vals 1 pc).bind fun c=>(mkEdge c.1 b c.2.1 b pt).bind fun e=>
  (mkEdge e.1 b e.2.1 (if endTo F.bl.length pf=b then wrap64 (1+Int.tmod (endTo F.bl.length pf) (wrap64 ((F.bl.length:Int) - 1))) else endTo F.bl.length pf) pf).bind fun q=>
   if 0≤b∧b<q.1.bl.length then
    mkTerm { q.1 with bl:=q.1.bl.set b.toNat { rd_T53 q.1.bl b with f3:=wrap64 (1+wrap64 (Int.tmod pk 4)) } } b q.2.1 ⟨2,c.2.2,if Int.tmod pc 2=1 then [q.2.2,e.2.2] else [e.2.2,q.2.2],[]⟩
   else none
def mkEnd (F:FN) (b:Int) (vals:List Int) (pk pc pt pf:Int) (pl:Bool):Option (FN × List Int):=
 if endLoop F.bl.length b pl=true then mkEndL F b vals pk pc pt pf
 else if endKind F.bl.length b pk pl=0 then mkEndR F b vals pt
 else if endKind F.bl.length b pk pl=1 then mkEndJ F b vals pt
 else mkEndB F b vals pc pt pf
def mkEndhm1.T6:Bool × List (List Nat × List Nat):=(true,[([],[]),([0],[0]),([1],[1]),([],[]),([3],[3]),([4],[4]),([2,5],[2,5]),([6],[6]),([],[]),([8],[8]),([9],[9]),([],[]),([11],[11]),([12],[12]),([10,13],[10,13]),([14],[14]),([7,0,1,2,3,4,5,6,7],[7]),([15,16,0,1,2,3,4,5,6,7,8,9,10,11,12,13,14,15,16],[15])])
def mkEndhm1.B6:List Nat:=[0,1,3,0,8,24,63,127,0,256,768,0,2048,6144,16128,32512,255,131071]
theorem mkEndhm1.tab6:rtab .any (opsOf Try.f26 6)=mkEndhm1.T6:=by kernel_rfl
theorem mkEndhm1.bits6:waitsOk mkEndhm1.T6.2 mkEndhm1.B6=true:=by kernel_rfl
def mkEndL.T16:Bool × List (List Nat × List Nat):=(true,[([],[]),([],[]),([1],[1]),([2],[2]),([3],[3]),([],[]),([5],[5]),([0,4,6],[0,4,6]),([],[]),([],[]),([],[]),([10],[10]),([8,9,11,7],[8,9,11]),([7,12],[7,12]),([0,1,2,3,4,5,6,7,8,9,10,11,12,13],[]),([14,13,12,0,1,2,3,4,5,6,7,8,9,10,11,12,13],[13,14])])
def mkEndL.B16:List Nat:=[0,0,2,6,14,0,32,127,0,0,0,1024,4095,8191,16383,32767]
theorem mkEndL.tab16:rtab .any (opsOf Try.f26 16)=mkEndL.T16:=by kernel_rfl
theorem mkEndL.bits16:waitsOk mkEndL.T16.2 mkEndL.B16=true:=by kernel_rfl
def mkEndL.T18:Bool × List (List Nat × List Nat):=(true,[([],[]),([0],[0]),([1],[1]),([2],[2]),([],[]),([4],[4]),([5],[5]),([6],[6]),([3,7],[3,7]),([0,1,2,3,4,5,6,7,8],[]),([9,8,0,1,2,3,4,5,6,7,8],[8,9])])
def mkEndL.B18:List Nat:=[0,1,3,7,0,16,48,112,255,511,1023]
theorem mkEndL.tab18:rtab .any (opsOf Try.f26 18)=mkEndL.T18:=by kernel_rfl
theorem mkEndL.bits18:waitsOk mkEndL.T18.2 mkEndL.B18=true:=by kernel_rfl
def mkEndL.T19:Bool × List (List Nat × List Nat):=(true,[([],[]),([0],[0]),([1],[1]),([2],[2]),([3],[3]),([4],[4]),([5],[5]),([],[]),([7],[7]),([8],[8]),([9],[9]),([],[]),([11],[11]),([12],[12]),([13],[13]),([14],[14]),([6,10,0,1,2,3,4,5,6,7,8,9,10,11,12,13,14,15],[6,10]),([16,0,1,2,3,4,5,6,7,8,9,10,11,12,13,14,15],[16]),([17,15,0,1,2,3,4,5,6,7,8,9,10,11,12,13,14,15],[15,17])])
def mkEndL.B19:List Nat:=[0,1,3,7,15,31,63,0,128,384,896,0,2048,6144,14336,30720,65535,131071,262143]
theorem mkEndL.tab19:rtab .any (opsOf Try.f26 19)=mkEndL.T19:=by kernel_rfl
theorem mkEndL.bits19:waitsOk mkEndL.T19.2 mkEndL.B19=true:=by kernel_rfl
def mkEndL.T28:Bool × List (List Nat × List Nat):=(true,[([],[]),([0],[0]),([1],[1]),([2],[2]),([3],[3]),([4],[4]),([5],[5]),([],[]),([7],[7]),([8],[8]),([9],[9]),([],[]),([6,10,0,1,2,3,4,5,6,7,8,9,10,11],[6,10]),([12,0,1,2,3,4,5,6,7,8,9,10,11],[12]),([13,11,0,1,2,3,4,5,6,7,8,9,10,11],[11,13])])
def mkEndL.B28:List Nat:=[0,1,3,7,15,31,63,0,128,384,896,0,4095,8191,16383]
theorem mkEndL.tab28:rtab .any (opsOf Try.f26 28)=mkEndL.T28:=by kernel_rfl
theorem mkEndL.bits28:waitsOk mkEndL.T28.2 mkEndL.B28=true:=by kernel_rfl
def mkEndR.T24:Bool × List (List Nat × List Nat):=(true,[([],[]),([0],[0]),([],[]),([],[]),([3],[3]),([4],[4]),([5],[5]),([6],[6]),([7],[7]),([8],[8]),([],[]),([9,10],[9,10]),([11],[11]),([],[]),([13],[13]),([],[]),([15],[15]),([14,16],[14,16]),([2,12,17],[2,12,17]),([18],[18]),([1,19,18],[1,19]),([0,1,2,3,4,5,6,7,8,9,10,11,12,13,14,15,16,17,18,19,20],[]),([21,20,20,0,1,2,3,4,5,6,7,8,9,10,11,12,13,14,15,16,17,18,19,20],[20,21])])
def mkEndR.B24:List Nat:=[0,1,0,0,8,24,56,120,248,504,0,2040,4088,0,8192,0,32768,122880,262140,524284,1048575,2097151,4194303]
theorem mkEndR.tab24:rtab .any (opsOf Try.f26 24)=mkEndR.T24:=by kernel_rfl
theorem mkEndR.bits24:waitsOk mkEndR.T24.2 mkEndR.B24=true:=by kernel_rfl
def mkEndB.T10:Bool × List (List Nat × List Nat):=(true,[([],[]),([],[]),([],[]),([2],[2]),([0,1,3],[0,1,3]),([],[]),([],[]),([],[]),([7],[7]),([5,6,8,4],[5,6,8]),([4,9],[4,9]),([0,1,2,3,4,5,6,7,8,9,10],[]),([11,10,9,0,1,2,3,4,5,6,7,8,9,10],[10,11])])
def mkEndB.B10:List Nat:=[0,0,0,4,15,0,0,0,128,511,1023,2047,4095]
theorem mkEndB.tab10:rtab .any (opsOf Try.f26 10)=mkEndB.T10:=by kernel_rfl
theorem mkEndB.bits10:waitsOk mkEndB.T10.2 mkEndB.B10=true:=by kernel_rfl
end Go.Proofs.Ytabcdpddhmekkaa.PAll
