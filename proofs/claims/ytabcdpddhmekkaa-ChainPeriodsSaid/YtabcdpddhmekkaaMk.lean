-- Written for this claim by programs of this session (wip/print2 in its repo: a changed printer, a shortener, a packer). Lean checks it.
import Derived.Test.YtabcdpddhmekkaaMkc
import Derived.Test.YtabcdpddhmekkaaMkd
set_option linter.all false
namespace Go.Proofs.Ytabcdpddhmekkaa.PAll
open Go.RowKit Go.Proofs.YtabcdpddhmekkaaW.PrintWords Go.Proofs.YtabcdpddhmekkaaW.PrintLast Go.Proofs.YtabcdpddhmekkaaW.PrintMore
attribute [local go_sem] max2_int min2_int max_two min_two max_three min_three max_four min_four
set_option linter.unusedVariables false
set_option linter.unusedSimpArgs false
set_option maxHeartbeats 8000000 in
set_option maxRecDepth 100000 in
theorem mkEnd_calls {w0 w:World} {P:Nat→Prop} {gm gf n1 c1 n2 c2:Nat} {A1 A2:Option Addr} {F F':FN} {b pk pc pt pf:Int} {pl:Bool} {vals vals':List Int} {vW vA vS vR vB vV:Value} (hM:MKv w0 w P gm gf F b vals vW vA vS vR vB vV) (hb:0≤b∧b<F.bl.length)
  (h:mkEnd F b vals pk pc pt pf pl=some (F',vals')) :
  Calls Try.prog 26 #[.pointer (some ⟨gm,0,none⟩),.agg #[.slice A1 n1 c1,.slice A2 n2 c2,.int .u8 pk,.int .u8 pc,.int .u8 pt,.int .u8 pf,.bool pl]] w fun e w'=>e = .returned (.tuple #[])∧After w0 w P gm gf vW vA vS vR vB vV F' b vals' w':=by
 unfold mkEnd at h
 by_cases hl:endLoop F.bl.length b pl=true
 ·rw [if_pos hl] at h
  exact mkEndL_calls hM hb hl h
 rw [if_neg hl] at h
 exact mkEndS_calls hM hb (by simpa using hl) h
theorem info_Arr:(Try.prog.info? 78).map (fun i=>(i.zero,i.size,i.bytes))=some (some (.agg #[.string ⟨#[]⟩,.int .i64 0,.int .i64 0,.int .i64 0,.int .i64 0]),5,48):=by kernel_rfl
theorem info_Str:(Try.prog.info? 80).map (fun i=>(i.zero,i.size,i.bytes))=some (some (.agg #[.string ⟨#[]⟩,.int .i64 0,.bool false]),3,32):=by kernel_rfl
theorem info_Blk:(Try.prog.info? 53).map (fun i=>(i.zero,i.size,i.bytes))=some (some (.agg #[.slice none 0 0,.slice none 0 0,.int .i64 0,.int .i64 0,.slice none 0 0,.slice none 0 0,.int .i64 0,.int .i64 0,.int .i64 0]),9,136):=by kernel_rfl
def nm1 (c:UInt8) (i n:Int):ByteArray:=⟨#[c,if Int.tmod i n=0 then 48 else if Int.tmod i n=1 then 49 else if Int.tmod i n=2 then 50 else 51]⟩
def mkArrs (l:List S66):Nat→Int→List S78→Option (List S78)
 | 0,_,acc=>some acc
 | d+1,i,acc=>(jacquardref27_wide.f (rd_T66 l i).f0).bind fun wd=>mkArrs l d (i+1) (acc++[⟨nm1 97 i 3,wd,wrap64 (1+wrap64 (Int.tmod (rd_T66 l i).f1 6)),0,0⟩])
def mkStrs (l:List S66):Nat→Int→List S80→Option (List S80)
 | 0,_,acc=>some acc
 | d+1,i,acc=>(jacquardref27_wide.f (rd_T66 l i).f0).bind fun wd=>mkStrs l d (i+1) (acc++[⟨nm1 115 i 4,wd,Int.tmod (rd_T66 l i).f1 2==1⟩])
def mkRts (l:List Int):Nat→Int→List Int→Option (List Int)
 | 0,_,acc=>some acc
 | d+1,i,acc=>(jacquardref27_wide.f (rd l i)).bind fun wd=>mkRts l d (i+1) (acc++[wd])
def mkPars (l:List Int):Nat→Int→List Int→List Int→Option (List Int × List Int)
 | 0,_,ws,ps=>some (ws,ps)
 | d+1,i,ws,ps=>(jacquardref27_wide.f (rd l i)).bind fun wd=>mkPars l d (i+1) (ws++[wd]) (ps++[(ws.length:Int)])
def mkBlks (ins:List Int) (parts:List S75):Nat→Int→List Int→List S53→Option (List Int × List S53)
 | 0,_,ws,bl=>some (ws,bl)
 | d+1,i,ws,bl=>
  if (if i>0 then (rd_T75 parts i).f0 else ins).length≤1000 then
   (mkPars (if i>0 then (rd_T75 parts i).f0 else ins) (if i>0 then (rd_T75 parts i).f0 else ins).length 0 ws []).bind fun r=>mkBlks ins parts d (i+1) r.1 (bl++[{ z53 with f0:=r.2 }])
  else none
def mkSteps (k:Nat) (b:Int) (l:List S87):Nat→Int→FN→List Int→Option (FN × List Int)
 | 0,_,F,vals=>some (F,vals)
 | d+1,i,F,vals=>(mkStep k F b vals (rd_T87 l i)).bind fun r=>mkSteps k b l d (i+1) r.1 r.2
def partAt (parts:List S75) (b:Int):S75:=if b<(parts.length:Int) then rd_T75 parts b else z75
def mkBodies (k:Nat) (parts:List S75):Nat→Int→FN→Option FN
 | 0,_,F=>some F
 | d+1,b,F=>
  if (rd_T53 F.bl b).f0.length<17592186044415∧(partAt parts b).f1.length≤1000000 then
   (mkSteps k b (partAt parts b).f1 (partAt parts b).f1.length 0 F (rd_T53 F.bl b).f0).bind fun r=>
    (mkEnd r.1 b r.2 (partAt parts b).f2 (partAt parts b).f3 (partAt parts b).f4 (partAt parts b).f5 (partAt parts b).f6).bind fun q=>mkBodies k parts d (b+1) q.1
  else none
def mkFunc (k:Nat) (l0:List Int) (l1 l2:List S66) (l3:List Int) (l4:List S75):Option FN:=
 if l0.length≤1000∧l1.length≤3∧l2.length≤4∧l3.length≤1000∧l4.length≤1000 then
  (mkArrs l1 l1.length 0 []).bind fun ar=>(mkStrs l2 l2.length 0 []).bind fun st=>(mkRts l3 l3.length 0 []).bind fun rt=>
   (mkBlks l0 l4 (if (l4.length:Int)<1 then 1 else l4.length) 0 [] []).bind fun r=>mkBodies k l4 r.2.length 0 ⟨⟨#[102]⟩,r.1,ar,st,rt,r.2⟩
 else none
theorem mkPush_same {F F':FN} {b:Int} {vals vals':List Int} {x:S72} (h:mkPush F b vals x=some (F',vals')):SameF F F':=by
 unfold mkPush at h
 split at h
 case isFalse=>exact absurd h (by simp)
 injection h with h
 injection h with hF _
 subst hF
 exact ⟨rfl,rfl,rfl,rfl,by simp⟩
theorem mkTerm_same {F F':FN} {b:Int} {vals vals':List Int} {x:S51} (h:mkTerm F b vals x=some (F',vals')):SameF F F':=by
 unfold mkTerm at h
 split at h
 case isFalse=>exact absurd h (by simp)
 injection h with h
 injection h with hF _
 subst hF
 exact ⟨rfl,rfl,rfl,rfl,by simp⟩
theorem add_same {F F':FN} {b wd:Int} {vals vals':List Int} {x:S72} (h:((mkAdd F b vals x wd).bind fun z=>some (z.1,z.2.1))=some (F',vals')):SameF F F':=by
 obtain ⟨⟨G,v,d⟩,h1,h2⟩:=Option.bind_eq_some_iff.mp h
 injection h2 with h2
 injection h2 with hF _
 subst hF
 exact mkAdd_same h1
theorem mkBin_same {F F':FN} {b op wd rw:Int} {vals vals':List Int} {s:S87} (h:mkBin F b vals s op wd rw=some (F',vals')):SameF F F':=by
 obtain ⟨⟨G,v,d⟩,h1,h⟩:=Option.bind_eq_some_iff.mp h
 obtain ⟨⟨G2,v2,d2⟩,h2,h⟩:=Option.bind_eq_some_iff.mp h
 exact ((mkValue_same h1).trans (mkValue_same h2)).trans (add_same h)
theorem mkSel_same {F F':FN} {b op wd:Int} {vals vals':List Int} {s:S87} (h:mkSel F b vals s op wd=some (F',vals')):SameF F F':=by
 obtain ⟨⟨G,v,d⟩,h1,h⟩:=Option.bind_eq_some_iff.mp h
 obtain ⟨⟨G2,v2,d2⟩,h2,h⟩:=Option.bind_eq_some_iff.mp h
 obtain ⟨⟨G3,v3,d3⟩,h3,h⟩:=Option.bind_eq_some_iff.mp h
 exact (((mkValue_same h1).trans (mkValue_same h2)).trans (mkValue_same h3)).trans (add_same h)
theorem mkConst_same {k:Nat} {F F':FN} {b op wd:Int} {vals vals':List Int} {s:S87} (h:mkConst k F b vals s op wd=some (F',vals')):SameF F F':=by
 obtain ⟨n,_,h⟩:=Option.bind_eq_some_iff.mp h
 exact add_same h
theorem mkLoad_same {F F':FN} {b op kk:Int} {vals vals':List Int} {s:S87} (h:mkLoad F b vals s op kk=some (F',vals')):SameF F F':=by
 unfold mkLoad at h
 split at h
 case isFalse=>exact absurd h (by simp)
 obtain ⟨⟨G,v,d⟩,h1,h⟩:=Option.bind_eq_some_iff.mp h
 obtain ⟨⟨G2,v2,d2⟩,h2,h⟩:=Option.bind_eq_some_iff.mp h
 exact ((mkAny_same h1).trans (mkValue_same h2)).trans (add_same h)
theorem mkStore_same {F F':FN} {b op kk:Int} {vals vals':List Int} {s:S87} (h:mkStore F b vals s op kk=some (F',vals')):SameF F F':=by
 unfold mkStore at h
 split at h
 case isFalse=>exact absurd h (by simp)
 obtain ⟨⟨G,v,d⟩,h1,h⟩:=Option.bind_eq_some_iff.mp h
 obtain ⟨⟨G2,v2,d2⟩,h2,h⟩:=Option.bind_eq_some_iff.mp h
 obtain ⟨⟨G3,v3,d3⟩,h3,h⟩:=Option.bind_eq_some_iff.mp h
 exact (((mkAny_same h1).trans (mkValue_same h2)).trans (mkValue_same h3)).trans (mkPush_same h)
theorem mkRecv_same {F F':FN} {b op kk:Int} {vals vals':List Int} {s:S87} (h:mkRecv F b vals s op kk=some (F',vals')):SameF F F':=by
 unfold mkRecv at h
 split at h
 case isFalse=>exact absurd h (by simp)
 obtain ⟨⟨G,v,d⟩,h1,h⟩:=Option.bind_eq_some_iff.mp h
 exact (mkValue_same h1).trans (add_same h)
theorem mkSend_same {F F':FN} {b op kk:Int} {vals vals':List Int} {s:S87} (h:mkSend F b vals s op kk=some (F',vals')):SameF F F':=by
 unfold mkSend at h
 split at h
 case isFalse=>exact absurd h (by simp)
 obtain ⟨⟨G,v,d⟩,h1,h⟩:=Option.bind_eq_some_iff.mp h
 obtain ⟨⟨G2,v2,d2⟩,h2,h⟩:=Option.bind_eq_some_iff.mp h
 exact ((mkValue_same h1).trans (mkValue_same h2)).trans (mkPush_same h)
theorem mkStep_same {k:Nat} {F F':FN} {b:Int} {vals vals':List Int} {s:S87} (h:mkStep k F b vals s=some (F',vals')):SameF F F':=by
 have nil:∀ {G:FN} {v:List Int},some (F,vals)=some (G,v)→SameF F G:=fun e=>by
  injection e with e
  injection e with hF _
  subst hF
  exact SameF.refl _
 obtain ⟨wd,_,h⟩:=Option.bind_eq_some_iff.mp h
 unfold mkStepOp at h
 split at h
 ·exact mkConst_same h
 split at h
 ·exact mkBin_same h
 split at h
 ·exact mkBin_same h
 split at h
 ·exact mkSel_same h
 split at h
 ·obtain ⟨⟨G,v,d⟩,h1,h2⟩:=Option.bind_eq_some_iff.mp h
  injection h2 with h2
  injection h2 with hF _
  subst hF
  exact mkValue_same h1
 split at h
 ·split at h
  ·exact nil h
  ·exact mkLoad_same h
 split at h
 ·split at h
  ·exact nil h
  ·exact mkStore_same h
 split at h
 ·obtain ⟨kk,_,h⟩:=Option.bind_eq_some_iff.mp h
  split at h
  ·exact mkRecv_same h
  ·exact nil h
 split at h
 ·obtain ⟨kk,_,h⟩:=Option.bind_eq_some_iff.mp h
  split at h
  ·exact mkSend_same h
  ·exact nil h
 ·exact absurd h (by simp)
theorem mkRetsL_same {b k:Int} {p:List Int}:∀ (d:Nat) {i:Int} {F F':FN} {vals vals' acc acc':List Int},mkRetsL b p k d i F vals acc=some (F',vals',acc')→SameF F F'
 | 0,_,_,_,_,_,_,_,h=>by
  rw [mkRetsL] at h
  injection h with h
  injection h with hF _
  subst hF
  exact SameF.refl _
 | d+1,_,_,_,_,_,_,_,h=>by
  rw [mkRetsL] at h
  obtain ⟨⟨G,v1,x⟩,h1,h2⟩:=Option.bind_eq_some_iff.mp h
  exact (mkValue_same h1).trans (mkRetsL_same d h2)
theorem mkEnd_same {F F':FN} {b pk pc pt pf:Int} {pl:Bool} {vals vals':List Int} (h:mkEnd F b vals pk pc pt pf pl=some (F',vals')):SameF F F':=by
 unfold mkEnd at h
 split at h
 ·obtain ⟨⟨G,v,d⟩,h1,h⟩:=Option.bind_eq_some_iff.mp h
  obtain ⟨⟨G2,v2,d2⟩,h2,h⟩:=Option.bind_eq_some_iff.mp h
  obtain ⟨⟨G3,v3,d3⟩,h3,h⟩:=Option.bind_eq_some_iff.mp h
  have e:=((mkValue_same h1).trans (mkEdge_same h2)).trans (mkEdge_same h3)
  dsimp only at h
  by_cases hb:0≤b∧b<(G3.bl.length:Int)
  ·rw [if_pos hb] at h
   refine e.trans (SameF.trans ?_ (mkTerm_same h))
   exact ⟨rfl,rfl,rfl,rfl,by simp⟩
  ·rw [if_neg hb] at h
   exact absurd h (by simp)
 split at h
 ·unfold mkEndR at h
  split at h
  case isFalse=>exact absurd h (by simp)
  obtain ⟨⟨G,v,d⟩,h1,h⟩:=Option.bind_eq_some_iff.mp h
  exact (mkRetsL_same _ h1).trans (mkTerm_same h)
 split at h
 ·obtain ⟨⟨G,v,d⟩,h1,h⟩:=Option.bind_eq_some_iff.mp h
  exact (mkEdge_same h1).trans (mkTerm_same h)
 ·obtain ⟨⟨G,v,d⟩,h1,h⟩:=Option.bind_eq_some_iff.mp h
  obtain ⟨⟨G2,v2,d2⟩,h2,h⟩:=Option.bind_eq_some_iff.mp h
  obtain ⟨⟨G3,v3,d3⟩,h3,h⟩:=Option.bind_eq_some_iff.mp h
  exact (((mkValue_same h1).trans (mkEdge_same h2)).trans (mkEdge_same h3)).trans (mkTerm_same h)
def mkFuncA0.T5:Bool × List (List Nat × List Nat):=(true,[([],[]),([0],[0]),([],[]),([2],[2]),([],[]),([4],[4]),([5],[5]),([3,6],[3,6]),([7],[7]),([],[]),([9],[9]),([],[]),([10,11],[10,11]),([12],[12]),([13],[13]),([14],[14]),([],[]),([16],[16]),([],[]),([17,18],[17,18]),([19],[19]),([20],[20]),([21],[21]),([22],[22]),([23],[23]),([8,15,24],[8,15,24]),([25],[25]),([1,26,15],[1,26]),([0,1,2,3,4,5,6,7,8,9,10,11,12,13,14,15,16,17,18,19,20,21,22,23,24,25,26,27],[]),([28,27,27,0,1,2,3,4,5,6,7,8,9,10,11,12,13,14,15,16,17,18,19,20,21,22,23,24,25,26,27],[27,28])])
def mkFuncA0.B5:List Nat:=[0,1,0,4,0,16,48,124,252,0,512,0,3584,7680,15872,32256,0,65536,0,458752,983040,2031616,4128768,8323072,16711680,33554428,67108860,134217727,268435455,536870911]
theorem mkFuncA0.tab5:rtab .any (opsOf Try.f11 5)=mkFuncA0.T5:=by kernel_rfl
theorem mkFuncA0.bits5:waitsOk mkFuncA0.T5.2 mkFuncA0.B5=true:=by kernel_rfl
def mkFuncB0.T9:Bool × List (List Nat × List Nat):=(true,[([],[]),([0],[0]),([],[]),([2],[2]),([],[]),([4],[4]),([5],[5]),([3,6],[3,6]),([7],[7]),([],[]),([9],[9]),([],[]),([10,11],[10,11]),([12],[12]),([13],[13]),([14],[14]),([],[]),([16],[16]),([],[]),([17,18],[17,18]),([19],[19]),([20],[20]),([21],[21]),([22],[22]),([8,15,23],[8,15,23]),([24],[24]),([1,25,15],[1,25]),([0,1,2,3,4,5,6,7,8,9,10,11,12,13,14,15,16,17,18,19,20,21,22,23,24,25,26],[]),([27,26,26,0,1,2,3,4,5,6,7,8,9,10,11,12,13,14,15,16,17,18,19,20,21,22,23,24,25,26],[26,27])])
def mkFuncB0.B9:List Nat:=[0,1,0,4,0,16,48,124,252,0,512,0,3584,7680,15872,32256,0,65536,0,458752,983040,2031616,4128768,8323072,16777212,33554428,67108863,134217727,268435455]
theorem mkFuncB0.tab9:rtab .any (opsOf Try.f11 9)=mkFuncB0.T9:=by kernel_rfl
theorem mkFuncB0.bits9:waitsOk mkFuncB0.T9.2 mkFuncB0.B9=true:=by kernel_rfl
def mkFuncC.T13:Bool × List (List Nat × List Nat):=(true,[([],[]),([0],[0]),([],[]),([2],[2]),([],[]),([3,4],[3,4]),([5],[5]),([6],[6]),([7],[7]),([1,8,7],[1,8]),([0,1,2,3,4,5,6,7,8,9],[]),([10,9,9,0,1,2,3,4,5,6,7,8,9],[9,10])])
def mkFuncC.B13:List Nat:=[0,1,0,4,0,28,60,124,252,511,1023,2047]
theorem mkFuncC.tab13:rtab .any (opsOf Try.f11 13)=mkFuncC.T13:=by kernel_rfl
theorem mkFuncC.bits13:waitsOk mkFuncC.T13.2 mkFuncC.B13=true:=by kernel_rfl
def mkFuncD.T25:Bool × List (List Nat × List Nat):=(true,[([],[]),([0],[0]),([],[]),([],[]),([2,3],[2,3]),([4],[4]),([5],[5]),([6],[6]),([1,7,6],[1,7]),([0,1,2,3,4,5,6,7,8],[]),([9,8,8,0,1,2,3,4,5,6,7,8],[8,9])])
def mkFuncD.B25:List Nat:=[0,1,0,0,12,28,60,124,255,511,1023]
theorem mkFuncD.tab25:rtab .any (opsOf Try.f11 25)=mkFuncD.T25:=by kernel_rfl
theorem mkFuncD.bits25:waitsOk mkFuncD.T25.2 mkFuncD.B25=true:=by kernel_rfl
set_option maxHeartbeats 16000000 in
set_option maxRecDepth 100000 in
theorem mkFunc_calls {w:World} {k:Nat} {l0 l3:List Int} {l1 l2:List S66} {l4:List S75} {A0 A1 A2 A3 A4:Option Addr} {c0 c1 c2 c3 c4:Nat} {F:FN} (hr0:(Kd.int .u8).C w A0 l0.length l0) (hr1:Kd.C k66 w A1 l1.length l1) (hr2:Kd.C k66 w A2 l2.length l2) (hr3:(Kd.int .u8).C w A3 l3.length l3) (hr4:Kd.C k75 w A4 l4.length l4)
  (h:mkFunc k l0 l1 l2 l3 l4=some F) :
  Calls Try.prog 11 #[.agg #[.slice A0 l0.length c0,.slice A1 l1.length c1,.slice A2 l2.length c2,.slice A3 l3.length c3,.slice A4 l4.length c4]] w fun e w'=>∃ v1 v2 v3 v4 v5:Value,e = .returned (.agg #[.string F.nm,v1,v2,v3,v4,v5])∧Kd.R (Kd.int .i64) 3 w' w.heap.size (fun k_=>some k_≠v4.ownBlock) v1 F.ws∧Kd.R k78 78 w' w.heap.size (fun _=>True) v2 F.ar∧Kd.R k80 80 w' w.heap.size (fun _=>True) v3 F.st ∧
   Kd.R (Kd.int .i64) 3 w' w.heap.size (fun k_=>some k_≠v1.ownBlock) v4 F.rt∧Kd.R k53 53 w' w.heap.size (fun k_=>some k_≠v1.ownBlock∧some k_≠v4.ownBlock) v5 F.bl∧Below w.heap.size w w':=by
 unfold mkFunc at h
 split at h
 case isFalse=>exact absurd h (by simp)
 rename_i hlim
 obtain ⟨ar,hA,h⟩:=Option.bind_eq_some_iff.mp h
 obtain ⟨st,hS,h⟩:=Option.bind_eq_some_iff.mp h
 obtain ⟨rt,hR,h⟩:=Option.bind_eq_some_iff.mp h
 obtain ⟨⟨wsF,blF⟩,hBk,h⟩:=Option.bind_eq_some_iff.mp h
 replace h:=Aside0.mk h
 replace hA:=Aside0.mk hA
 replace hS:=Aside0.mk hS
 replace hR:=Aside0.mk hR
 replace hBk:=Aside0.mk hBk
 replace hlim:=Aside0.mk hlim
 replace hr0:=Aside0.mk hr0
 replace hr1:=Aside0.mk hr1
 replace hr2:=Aside0.mk hr2
 replace hr3:=Aside0.mk hr3
 replace hr4:=Aside0.mk hr4
 go_enter Try.func11,Try.ntmps11
 go_upto_region 2 with (first | ((with_reducible refine gate_dst (N:=1) rfl ?_);refine box_event ?hg (N:=1) ?hd (cs := #[.slice A0 l0.length c0,.slice A1 l1.length c1,.slice A2 l2.length c2,.slice A3 l3.length c3,.slice A4 l4.length c4]) (t:=26) ?hr ?_;(case hd=>rfl);(case hg=>rfl);(case hr=>first | (go_simp;done) | (go_simp;rfl));intro g1 hg1 w1 hbox1 hb1;replace hg1:=Aside0.mk hg1;skip) | ((with_reducible refine gate_dst (N:=2) rfl ?_);refine box_event ?hg (N:=2) ?hd (cs := #[.string ⟨#[]⟩,.slice none 0 0,.slice none 0 0,.slice none 0 0,.slice none 0 0,.slice none 0 0]) (t:=34) ?hr ?_;(case hd=>rfl);(case hg=>rfl);(case hr=>first | (go_simp;done) | (go_simp;rfl));intro g2 hg2 w2 hbox2 hb2;replace hg2:=Aside0.mk hg2;skip) | ((with_reducible refine gate_dst (N:=3) rfl ?_);refine box_event ?hg (N:=3) ?hd (cs := #[.string ⟨#[]⟩,.slice none 0 0,.slice none 0 0,.slice none 0 0,.slice none 0 0,.slice none 0 0]) (t:=34) ?hr ?_;(case hd=>rfl);(case hg=>rfl);(case hr=>first | (go_simp;done) | (go_simp;rfl));intro g3 hg3 w3 hbox3 hb3;replace hg3:=Aside0.mk hg3;have f0:=blk_frozen hbox3 0;have f1:=blk_frozen hbox3 1;have f2:=blk_frozen hbox3 2;have f3:=blk_frozen hbox3 3;have f4:=blk_frozen hbox3 4;have f5:=blk_frozen hbox3 5;have d0:w3.cell? ⟨g3,0,none⟩=some (.string ⟨#[]⟩):=(blk_cell hbox3 0).trans rfl;have d1:w3.cell? ⟨g3,1,none⟩=some (.slice none 0 0):=(blk_cell hbox3 1).trans rfl;have d2:w3.cell? ⟨g3,2,none⟩=some (.slice none 0 0):=(blk_cell hbox3 2).trans rfl;have d3:w3.cell? ⟨g3,3,none⟩=some (.slice none 0 0):=(blk_cell hbox3 3).trans rfl;have d4:w3.cell? ⟨g3,4,none⟩=some (.slice none 0 0):=(blk_cell hbox3 4).trans rfl;have d5:w3.cell? ⟨g3,5,none⟩=some (.slice none 0 0):=(blk_cell hbox3 5).trans rfl))
 have n12:g1≠g2:=by have:=blk_lt hbox1;have:=hg2.out;omega
 have n13:g1≠g3:=by have:=blk_lt (blk_below hbox1 hb2);have:=hg3.out;omega
 have n23:g2≠g3:=by have:=blk_lt hbox2;have:=hg3.out;omega
 have hg1w:w.heap.size≤g1:=Nat.le_of_eq hg1.out.symm
 have hg2w:w.heap.size≤g2:=by have:=hg2.out;have:=hb1.size;omega
 have hg3w:w.heap.size≤g3:=by have:=hg3.out;have:=hb1.size;have:=hb2.size;omega
 have X3:=(blk_put (blk_put (blk_put (blk_put (blk_put (blk_put hbox3 0 (.string ⟨#[102]⟩) rfl) 1 (.slice none 0 0) rfl) 2 (.slice none 0 0) rfl) 3 (.slice none 0 0) rfl) 4 (.slice none 0 0) rfl) 5 (.slice none 0 0) rfl)
 have X1:=(blk_far (blk_far (blk_far (blk_far (blk_far (blk_far (blk_below (blk_below hbox1 hb2) hb3) (p:=⟨g3,0,none⟩) n13 (.string ⟨#[102]⟩)) (p:=⟨g3,1,none⟩) n13 (.slice none 0 0)) (p:=⟨g3,2,none⟩) n13 (.slice none 0 0)) (p:=⟨g3,3,none⟩) n13 (.slice none 0 0)) (p:=⟨g3,4,none⟩) n13 (.slice none 0 0)) (p:=⟨g3,5,none⟩) n13 (.slice none 0 0))
 have X2:=(blk_far (blk_far (blk_far (blk_far (blk_far (blk_far (blk_below hbox2 hb3) (p:=⟨g3,0,none⟩) n23 (.string ⟨#[102]⟩)) (p:=⟨g3,1,none⟩) n23 (.slice none 0 0)) (p:=⟨g3,2,none⟩) n23 (.slice none 0 0)) (p:=⟨g3,3,none⟩) n23 (.slice none 0 0)) (p:=⟨g3,4,none⟩) n23 (.slice none 0 0)) (p:=⟨g3,5,none⟩) n23 (.slice none 0 0))
 have HB:=(below_set (below_set (below_set (below_set (below_set (below_set (below_weaken (below_weaken hb1 (below_size hb1) hb2) (below_size (below_weaken hb1 (below_size hb1) hb2)) hb3) (g:=g3) (j:=0) (v:=(.string ⟨#[102]⟩)) hg3w) (g:=g3) (j:=1) (v:=(.slice none 0 0)) hg3w) (g:=g3) (j:=2) (v:=(.slice none 0 0)) hg3w) (g:=g3) (j:=3) (v:=(.slice none 0 0)) hg3w) (g:=g3) (j:=4) (v:=(.slice none 0 0)) hg3w) (g:=g3) (j:=5) (v:=(.slice none 0 0)) hg3w)
 clear hbox1 hbox2 hbox3 hb1 hb2 hb3 f0 f1 f2 f3 f4 f5 d0 d1 d2 d3 d4 d5
 generalize World.setCell _ _ _=w4 at X3 X1 X2 HB ⊢
 go_wp2
 go_loopg [4] l1.length (fun kq v4 w'=>∃ (i:Int) (acc:List S78) (vA:Value),v4 = .int .i64 i∧Aside0 (0≤i∧i+kq=l1.length∧(acc.length:Int)=i)∧Aside0 (mkArrs l1 kq i acc=some ar)∧Aside0 (Kd.R k78 78 w' w.heap.size (fun _=>True) vA acc)∧Aside0 (w'.heap[g3]? = some (.cells #[.string ⟨#[102]⟩,.slice none 0 0,vA,.slice none 0 0,.slice none 0 0,.slice none 0 0] 34 (0,0)))∧Aside0 (w'.heap[g1]? = some (.cells #[.slice A0 l0.length c0,.slice A1 l1.length c1,.slice A2 l2.length c2,.slice A3 l3.length c3,.slice A4 l4.length c4] 26 (0,0)))∧Aside0 (w'.heap[g2]? = some (.cells #[.string ⟨#[]⟩,.slice none 0 0,.slice none 0 0,.slice none 0 0,.slice none 0 0,.slice none 0 0] 34 (0,0)))∧Aside0 (Below w.heap.size w w'))
 case atStart=>exact ⟨0,[],.slice none 0 0,rfl,⟨by simp⟩,hA,⟨Kd.R_nil _ _ _ _ _⟩,⟨X3⟩,⟨X1⟩,⟨X2⟩,⟨HB⟩⟩
 case round=>
  clear X3 X1 X2 HB
  obtain ⟨i,acc,vA,rfl,HI,HL,RA,⟨X3⟩,⟨X1⟩,⟨X2⟩,⟨HB⟩⟩:=hrel
  have c1_:=own_cell X1 1 (.slice A1 l1.length c1) rfl
  obtain ⟨AA,cA,rfl⟩:=Kd.R_slice RA.out
  by_cases hlt:i<(l1.length:Int)
  ·have e0:decide (i<(l1.length:Int))=true:=decide_eq_true hlt
   obtain ⟨kq,rfl⟩:∃ q,gk=q+1:=⟨gk - 1,by have:=HI.out;omega⟩
   have HL':=HL.out
   rw [mkArrs] at HL'
   obtain ⟨wd,hwd,HL'⟩:=Option.bind_eq_some_iff.mp HL'
   obtain ⟨ad,e,y0,y1⟩:=at_T66 (Kd.C_drew (Kd.C_below hr1.out HB)) i HI.out.1 hlt
   cases e
   have p0:(0≤i)=True:=eq_true HI.out.1
   have q0:(i<(l1.length:Int))=True:=eq_true hlt
   have t0:=Int.tmod_nonneg 3 HI.out.1
   have t1:Int.tmod i 3<3:=Int.tmod_lt_of_pos i (by decide)
   have ec:Int.tmod i 3=0∨Int.tmod i 3=1∨Int.tmod i 3=2:=by omega
   have hwi:wrap64 (i+1)=i+1:=w64m _ (by have:=HI.out.1;omega) (by have:=hlim.out;omega)
   replace hwi:=Aside0.mk hwi
   replace hlt:=Aside0.mk hlt
   try go_wp2
   clear c1_
   have wa:wrap64 0=0:=w64m _ (by decide) (by decide)
   have wb:wrap64 1=1:=w64m _ (by decide) (by decide)
   have wc:wrap64 2=2:=w64m _ (by decide) (by decide)
   have wd_:wrap64 3=3:=w64m _ (by decide) (by decide)
   have we_:wrap64 4=4:=w64m _ (by decide) (by decide)
   clear t0 t1
   rcases ec with et | et | et
   ·skip
    have en:nm1 97 i 3=⟨#[97,48]⟩:=by unfold nm1;rw [et];rfl
    replace en:=Aside0.mk en
    refine start_ (n:=30) (S:=fun w'=>w'.cell? ⟨g3,2,none⟩=some (.slice AA acc.length cA)∧w'.cell? ⟨g1,1,none⟩=some (.slice (some ad) l1.length c1)∧w'.cell? (ad.add (i.toNat*2))=some (.int .u8 (rd_T66 l1 i).f0)∧w'.cell? ⟨(ad.add (i.toNat*2)).block,(ad.add (i.toNat*2)).off+1,none⟩=some (.int .u8 (rd_T66 l1 i).f1)) (ds:=[29]) (bz 30 0) (by kernel_rfl) rfl rfl ⟨(own_cell (blk_drew X3) 2 (.slice AA acc.length cA) rfl),(own_cell (blk_drew X1) 1 (.slice (some ad) l1.length c1) rfl),(y0),(y1)⟩ (fun hHeld=>?_)
    refine with_tabW mkFuncA0.tab5 mkFuncA0.bits5 (fun HT_ HW_=>?_)
    have X13:=blk_drew X1
    have X23:=blk_drew X2
    have X33:=blk_drew X3
    have HB3:=below_drew1 HB
    have R3:=Kd.R_drew RA.out
    generalize wr.drew=w5 at hHeld X13 X23 X33 HB3 R3  ⊢
    refine pu_ 0 23 HT_ ?_
    refine pu_ 2 25 HT_ ?_
    refine pu_ 3 26 HT_ ?_
    refine pu_ 4 27 HT_ ?_
    refine pu_ 5 28 HT_ ?_
    refine pu_ 6 29 HT_ ?_
    refine pu_ 7 30 HT_ ?_
    refine pu_ 8 31 HT_ ?_
    refine pu_ 9 32 HT_ ?_
    refine pu_ 11 34 HT_ ?_
    refine pu_ 16 39 HT_ ?_
    refine pu_ 18 41 HT_ ?_
    refine tk_ 1 24 HT_ HW_ hHeld ?_ (hy:=by rintro w' ⟨s0,s1,s2,s3⟩;go_simp;with_reducible rfl)
    refine tk_ 10 33 HT_ HW_ hHeld ?_ (hy:=by rintro w' ⟨s0,s1,s2,s3⟩;go_simp;with_reducible rfl)
    refine pu_ 12 35 HT_ ?_
    refine pu_ 13 36 HT_ ?_
    refine tk_ 14 37 HT_ HW_ hHeld ?_ (hy:=by rintro w' ⟨s0,s1,s2,s3⟩;go_simp;with_reducible rfl)
    refine tk_ 17 40 HT_ HW_ hHeld ?_ (hy:=by rintro w' ⟨s0,s1,s2,s3⟩;go_simp;with_reducible rfl)
    refine pu_ 19 42 HT_ ?_
    refine pu_ 20 43 HT_ ?_
    refine tk_ 21 44 HT_ HW_ hHeld ?_ (hy:=by rintro w' ⟨s0,s1,s2,s3⟩;go_simp;with_reducible rfl)
    refine pu_ 22 45 HT_ ?_
    refine pu_ 23 46 HT_ ?_
    refine pu_ 24 47 HT_ ?_
    refine on_ 15 (some 38) HT_ (fun K hK=>?_)
    refine gs_ Try.func24 #[.int .u8 (rd_T66 l1 i).f0] ?_
    refine (jacquardref27_wide.calls (rd_T66 l1 i).f0 wd _ hwd).mono ?_
    rintro e w6 ⟨rfl,hb6⟩
    refine ⟨_,rfl,?_⟩
    have h6:=hHeld
    replace X13:=blk_below X13 hb6
    replace X23:=blk_below X23 hb6
    replace X33:=blk_below X33 hb6
    replace HB3:=below_weaken HB3 (below_size HB3) hb6
    replace R3:=Kd.R_below R3 hb6
    refine hK.out _ _ ⟨pw_cell_below hb6 h6.1,pw_cell_below hb6 h6.2.1,pw_cell_below hb6 h6.2.2.1,pw_cell_below hb6 h6.2.2.2⟩ (fun hHeld=>?_);clear hK K
    refine no_ 38 ?_
    refine pu_ 25 48 HT_ ?_
    refine on_ 26 (some 49) HT_ (fun K hK=>?_)
    refine value_ (w1:=?_) (v:=?_) (by rfl) rfl ?_ ?_;rotate_left 2;(go_simp;constructor);(rfl);(rfl)
    have h7:=hHeld
    refine hK.out _ _ ⟨pw_cell_below (below_alloc (Below.refl _ _) _) h7.1,pw_cell_below (below_alloc (Below.refl _ _) _) h7.2.1,pw_cell_below (below_alloc (Below.refl _ _) _) h7.2.2.1,pw_cell_below (below_alloc (Below.refl _ _) _) h7.2.2.2⟩ (fun hHeld=>?_);clear hK K
    refine no_ 49 ?_
    refine on_ 27 (some 50) HT_ (fun K hK=>?_)
    refine Kd.R_append_step k78 (w0:=w) w.heap.size (by rfl) (.tmp 24) (.tmp 49) 30 78 (.agg #[.string ⟨#[]⟩,.int .i64 0,.int .i64 0,.int .i64 0,.int .i64 0]) 48 rfl Try.underlying30 info_Arr rfl (by decide) (by omega) (.slice AA acc.length cA) acc (⟨⟨#[97,48]⟩,wd,wrap64 (1+wrap64 (Int.tmod (rd_T66 l1 i).f1 6)),0,0⟩) [.string ⟨#[97,48]⟩,.int .i64 wd,.int .i64 (wrap64 (1+wrap64 (Int.tmod (rd_T66 l1 i).f1 6))),.int .i64 0,.int .i64 0] (fun _=>True) (fun _=>False) rfl rfl (k78_mkM _ _ _ (⟨⟨#[97,48]⟩,wd,wrap64 (1+wrap64 (Int.tmod (rd_T66 l1 i).f1 6)),0,0⟩)) (fun _ hk=>hk.elim) (fun _ _=>trivial) R3 HB3 (below_size HB3) ?aL ?_
    (case aL=>have:=HI.out;have:=hlim.out;have:=hlt.out;omega)
    intro v9 w9 ho hb9 hg9 hat
    obtain ⟨A9,c9,e9⟩:=Kd.R_slice ho
    rw [List.length_append,List.length_singleton] at e9
    subst e9
    have X19:=blk_grown X13 hg9 (Kd.R_ne R3 X13 (by decide))
    have X29:=blk_grown X23 hg9 (Kd.R_ne R3 X23 (by decide))
    have X39:=blk_grown X33 hg9 (Kd.R_ne R3 X33 (by decide))
    obtain ⟨ad9,e9,z0,z1⟩:=at_T66 (Kd.C_below hr1.out hb9) i HI.out.1 hlt.out
    cases e9
    refine hK.out _ _ ⟨own_cell X39 2 (.slice AA acc.length cA) rfl,own_cell X19 1 (.slice (some ad) l1.length c1) rfl,z0,z1⟩ (fun hHeld=>?_);clear hK K
    refine no_ 50 ?_
    refine pu_ 28 51 HT_ ?_
    refine la_ 29 none HT_ (fun K hK=>?_)
    have s1:=blk_frozen X39 2
    have s2:=own_cell X39 2 (.slice AA acc.length cA) rfl
    refine skip_ (w1:=?_) (by rfl) rfl ?_ ?_;rotate_left;(go_simp)
    rfl
    clear s1 s2
    refine hK.out _ _ ?_;clear hK K
    refine done_ (done_of HT_.out (by kernel_rfl)) ?_
    have Y3:=blk_put X39 2 (.slice A9 (acc.length+1) c9) rfl
    have Y1:=blk_far X19 (p:=⟨g3,2,none⟩) n13 (.slice A9 (acc.length+1) c9)
    have Y2:=blk_far X29 (p:=⟨g3,2,none⟩) n23 (.slice A9 (acc.length+1) c9)
    have YR:=Kd.R_set ho X39 (by decide) 2 (.slice A9 (acc.length+1) c9)
    have YB:=below_set hb9 (g:=g3) (j:=2) (v:=.slice A9 (acc.length+1) c9) hg3w
    clear hHeld h6 h7 X13 X23 X33 HB3 R3 X19 X29 X39 ho hb9 hg9 hat z0 z1
    generalize World.setCell _ _ _=w10 at Y3 Y1 Y2 YR  YB ⊢
    go_wp2
    go_roundg kq
    case measure=>omega
    case rel=>exact ⟨wrap64 (i+1),acc++[⟨⟨#[97,48]⟩,wd,wrap64 (1+wrap64 (Int.tmod (rd_T66 l1 i).f1 6)),0,0⟩],.slice A9 (acc.length+1) c9,rfl,⟨by have:=HI.out;rw [hwi.out,List.length_append,List.length_singleton];omega⟩,⟨by rw [hwi.out,← en.out];exact HL'⟩,⟨YR⟩,⟨Y3⟩,⟨Y1⟩,⟨Y2⟩,⟨YB⟩⟩
   ·skip
    have en:nm1 97 i 3=⟨#[97,49]⟩:=by unfold nm1;rw [et];rfl
    replace en:=Aside0.mk en
    refine start_ (n:=30) (S:=fun w'=>w'.cell? ⟨g3,2,none⟩=some (.slice AA acc.length cA)∧w'.cell? ⟨g1,1,none⟩=some (.slice (some ad) l1.length c1)∧w'.cell? (ad.add (i.toNat*2))=some (.int .u8 (rd_T66 l1 i).f0)∧w'.cell? ⟨(ad.add (i.toNat*2)).block,(ad.add (i.toNat*2)).off+1,none⟩=some (.int .u8 (rd_T66 l1 i).f1)) (ds:=[29]) (bz 30 0) (by kernel_rfl) rfl rfl ⟨(own_cell (blk_drew X3) 2 (.slice AA acc.length cA) rfl),(own_cell (blk_drew X1) 1 (.slice (some ad) l1.length c1) rfl),(y0),(y1)⟩ (fun hHeld=>?_)
    refine with_tabW mkFuncA0.tab5 mkFuncA0.bits5 (fun HT_ HW_=>?_)
    have X13:=blk_drew X1
    have X23:=blk_drew X2
    have X33:=blk_drew X3
    have HB3:=below_drew1 HB
    have R3:=Kd.R_drew RA.out
    generalize wr.drew=w5 at hHeld X13 X23 X33 HB3 R3  ⊢
    refine pu_ 0 23 HT_ ?_
    refine pu_ 2 25 HT_ ?_
    refine pu_ 3 26 HT_ ?_
    refine pu_ 4 27 HT_ ?_
    refine pu_ 5 28 HT_ ?_
    refine pu_ 6 29 HT_ ?_
    refine pu_ 7 30 HT_ ?_
    refine pu_ 8 31 HT_ ?_
    refine pu_ 9 32 HT_ ?_
    refine pu_ 11 34 HT_ ?_
    refine pu_ 16 39 HT_ ?_
    refine pu_ 18 41 HT_ ?_
    refine tk_ 1 24 HT_ HW_ hHeld ?_ (hy:=by rintro w' ⟨s0,s1,s2,s3⟩;go_simp;with_reducible rfl)
    refine tk_ 10 33 HT_ HW_ hHeld ?_ (hy:=by rintro w' ⟨s0,s1,s2,s3⟩;go_simp;with_reducible rfl)
    refine pu_ 12 35 HT_ ?_
    refine pu_ 13 36 HT_ ?_
    refine tk_ 14 37 HT_ HW_ hHeld ?_ (hy:=by rintro w' ⟨s0,s1,s2,s3⟩;go_simp;with_reducible rfl)
    refine tk_ 17 40 HT_ HW_ hHeld ?_ (hy:=by rintro w' ⟨s0,s1,s2,s3⟩;go_simp;with_reducible rfl)
    refine pu_ 19 42 HT_ ?_
    refine pu_ 20 43 HT_ ?_
    refine tk_ 21 44 HT_ HW_ hHeld ?_ (hy:=by rintro w' ⟨s0,s1,s2,s3⟩;go_simp;with_reducible rfl)
    refine pu_ 22 45 HT_ ?_
    refine pu_ 23 46 HT_ ?_
    refine pu_ 24 47 HT_ ?_
    refine on_ 15 (some 38) HT_ (fun K hK=>?_)
    refine gs_ Try.func24 #[.int .u8 (rd_T66 l1 i).f0] ?_
    refine (jacquardref27_wide.calls (rd_T66 l1 i).f0 wd _ hwd).mono ?_
    rintro e w6 ⟨rfl,hb6⟩
    refine ⟨_,rfl,?_⟩
    have h6:=hHeld
    replace X13:=blk_below X13 hb6
    replace X23:=blk_below X23 hb6
    replace X33:=blk_below X33 hb6
    replace HB3:=below_weaken HB3 (below_size HB3) hb6
    replace R3:=Kd.R_below R3 hb6
    refine hK.out _ _ ⟨pw_cell_below hb6 h6.1,pw_cell_below hb6 h6.2.1,pw_cell_below hb6 h6.2.2.1,pw_cell_below hb6 h6.2.2.2⟩ (fun hHeld=>?_);clear hK K
    refine no_ 38 ?_
    refine pu_ 25 48 HT_ ?_
    refine on_ 26 (some 49) HT_ (fun K hK=>?_)
    refine value_ (w1:=?_) (v:=?_) (by rfl) rfl ?_ ?_;rotate_left 2;(go_simp;constructor);(rfl);(rfl)
    have h7:=hHeld
    refine hK.out _ _ ⟨pw_cell_below (below_alloc (Below.refl _ _) _) h7.1,pw_cell_below (below_alloc (Below.refl _ _) _) h7.2.1,pw_cell_below (below_alloc (Below.refl _ _) _) h7.2.2.1,pw_cell_below (below_alloc (Below.refl _ _) _) h7.2.2.2⟩ (fun hHeld=>?_);clear hK K
    refine no_ 49 ?_
    refine on_ 27 (some 50) HT_ (fun K hK=>?_)
    refine Kd.R_append_step k78 (w0:=w) w.heap.size (by rfl) (.tmp 24) (.tmp 49) 30 78 (.agg #[.string ⟨#[]⟩,.int .i64 0,.int .i64 0,.int .i64 0,.int .i64 0]) 48 rfl Try.underlying30 info_Arr rfl (by decide) (by omega) (.slice AA acc.length cA) acc (⟨⟨#[97,49]⟩,wd,wrap64 (1+wrap64 (Int.tmod (rd_T66 l1 i).f1 6)),0,0⟩) [.string ⟨#[97,49]⟩,.int .i64 wd,.int .i64 (wrap64 (1+wrap64 (Int.tmod (rd_T66 l1 i).f1 6))),.int .i64 0,.int .i64 0] (fun _=>True) (fun _=>False) rfl rfl (k78_mkM _ _ _ (⟨⟨#[97,49]⟩,wd,wrap64 (1+wrap64 (Int.tmod (rd_T66 l1 i).f1 6)),0,0⟩)) (fun _ hk=>hk.elim) (fun _ _=>trivial) R3 HB3 (below_size HB3) ?aL ?_
    (case aL=>have:=HI.out;have:=hlim.out;have:=hlt.out;omega)
    intro v9 w9 ho hb9 hg9 hat
    obtain ⟨A9,c9,e9⟩:=Kd.R_slice ho
    rw [List.length_append,List.length_singleton] at e9
    subst e9
    have X19:=blk_grown X13 hg9 (Kd.R_ne R3 X13 (by decide))
    have X29:=blk_grown X23 hg9 (Kd.R_ne R3 X23 (by decide))
    have X39:=blk_grown X33 hg9 (Kd.R_ne R3 X33 (by decide))
    obtain ⟨ad9,e9,z0,z1⟩:=at_T66 (Kd.C_below hr1.out hb9) i HI.out.1 hlt.out
    cases e9
    refine hK.out _ _ ⟨own_cell X39 2 (.slice AA acc.length cA) rfl,own_cell X19 1 (.slice (some ad) l1.length c1) rfl,z0,z1⟩ (fun hHeld=>?_);clear hK K
    refine no_ 50 ?_
    refine pu_ 28 51 HT_ ?_
    refine la_ 29 none HT_ (fun K hK=>?_)
    have s1:=blk_frozen X39 2
    have s2:=own_cell X39 2 (.slice AA acc.length cA) rfl
    refine skip_ (w1:=?_) (by rfl) rfl ?_ ?_;rotate_left;(go_simp)
    rfl
    clear s1 s2
    refine hK.out _ _ ?_;clear hK K
    refine done_ (done_of HT_.out (by kernel_rfl)) ?_
    have Y3:=blk_put X39 2 (.slice A9 (acc.length+1) c9) rfl
    have Y1:=blk_far X19 (p:=⟨g3,2,none⟩) n13 (.slice A9 (acc.length+1) c9)
    have Y2:=blk_far X29 (p:=⟨g3,2,none⟩) n23 (.slice A9 (acc.length+1) c9)
    have YR:=Kd.R_set ho X39 (by decide) 2 (.slice A9 (acc.length+1) c9)
    have YB:=below_set hb9 (g:=g3) (j:=2) (v:=.slice A9 (acc.length+1) c9) hg3w
    clear hHeld h6 h7 X13 X23 X33 HB3 R3 X19 X29 X39 ho hb9 hg9 hat z0 z1
    generalize World.setCell _ _ _=w10 at Y3 Y1 Y2 YR  YB ⊢
    go_wp2
    go_roundg kq
    case measure=>omega
    case rel=>exact ⟨wrap64 (i+1),acc++[⟨⟨#[97,49]⟩,wd,wrap64 (1+wrap64 (Int.tmod (rd_T66 l1 i).f1 6)),0,0⟩],.slice A9 (acc.length+1) c9,rfl,⟨by have:=HI.out;rw [hwi.out,List.length_append,List.length_singleton];omega⟩,⟨by rw [hwi.out,← en.out];exact HL'⟩,⟨YR⟩,⟨Y3⟩,⟨Y1⟩,⟨Y2⟩,⟨YB⟩⟩
   ·skip
    have en:nm1 97 i 3=⟨#[97,50]⟩:=by unfold nm1;rw [et];rfl
    replace en:=Aside0.mk en
    refine start_ (n:=30) (S:=fun w'=>w'.cell? ⟨g3,2,none⟩=some (.slice AA acc.length cA)∧w'.cell? ⟨g1,1,none⟩=some (.slice (some ad) l1.length c1)∧w'.cell? (ad.add (i.toNat*2))=some (.int .u8 (rd_T66 l1 i).f0)∧w'.cell? ⟨(ad.add (i.toNat*2)).block,(ad.add (i.toNat*2)).off+1,none⟩=some (.int .u8 (rd_T66 l1 i).f1)) (ds:=[29]) (bz 30 0) (by kernel_rfl) rfl rfl ⟨(own_cell (blk_drew X3) 2 (.slice AA acc.length cA) rfl),(own_cell (blk_drew X1) 1 (.slice (some ad) l1.length c1) rfl),(y0),(y1)⟩ (fun hHeld=>?_)
    refine with_tabW mkFuncA0.tab5 mkFuncA0.bits5 (fun HT_ HW_=>?_)
    have X13:=blk_drew X1
    have X23:=blk_drew X2
    have X33:=blk_drew X3
    have HB3:=below_drew1 HB
    have R3:=Kd.R_drew RA.out
    generalize wr.drew=w5 at hHeld X13 X23 X33 HB3 R3  ⊢
    refine pu_ 0 23 HT_ ?_
    refine pu_ 2 25 HT_ ?_
    refine pu_ 3 26 HT_ ?_
    refine pu_ 4 27 HT_ ?_
    refine pu_ 5 28 HT_ ?_
    refine pu_ 6 29 HT_ ?_
    refine pu_ 7 30 HT_ ?_
    refine pu_ 8 31 HT_ ?_
    refine pu_ 9 32 HT_ ?_
    refine pu_ 11 34 HT_ ?_
    refine pu_ 16 39 HT_ ?_
    refine pu_ 18 41 HT_ ?_
    refine tk_ 1 24 HT_ HW_ hHeld ?_ (hy:=by rintro w' ⟨s0,s1,s2,s3⟩;go_simp;with_reducible rfl)
    refine tk_ 10 33 HT_ HW_ hHeld ?_ (hy:=by rintro w' ⟨s0,s1,s2,s3⟩;go_simp;with_reducible rfl)
    refine pu_ 12 35 HT_ ?_
    refine pu_ 13 36 HT_ ?_
    refine tk_ 14 37 HT_ HW_ hHeld ?_ (hy:=by rintro w' ⟨s0,s1,s2,s3⟩;go_simp;with_reducible rfl)
    refine tk_ 17 40 HT_ HW_ hHeld ?_ (hy:=by rintro w' ⟨s0,s1,s2,s3⟩;go_simp;with_reducible rfl)
    refine pu_ 19 42 HT_ ?_
    refine pu_ 20 43 HT_ ?_
    refine tk_ 21 44 HT_ HW_ hHeld ?_ (hy:=by rintro w' ⟨s0,s1,s2,s3⟩;go_simp;with_reducible rfl)
    refine pu_ 22 45 HT_ ?_
    refine pu_ 23 46 HT_ ?_
    refine pu_ 24 47 HT_ ?_
    refine on_ 15 (some 38) HT_ (fun K hK=>?_)
    refine gs_ Try.func24 #[.int .u8 (rd_T66 l1 i).f0] ?_
    refine (jacquardref27_wide.calls (rd_T66 l1 i).f0 wd _ hwd).mono ?_
    rintro e w6 ⟨rfl,hb6⟩
    refine ⟨_,rfl,?_⟩
    have h6:=hHeld
    replace X13:=blk_below X13 hb6
    replace X23:=blk_below X23 hb6
    replace X33:=blk_below X33 hb6
    replace HB3:=below_weaken HB3 (below_size HB3) hb6
    replace R3:=Kd.R_below R3 hb6
    refine hK.out _ _ ⟨pw_cell_below hb6 h6.1,pw_cell_below hb6 h6.2.1,pw_cell_below hb6 h6.2.2.1,pw_cell_below hb6 h6.2.2.2⟩ (fun hHeld=>?_);clear hK K
    refine no_ 38 ?_
    refine pu_ 25 48 HT_ ?_
    refine on_ 26 (some 49) HT_ (fun K hK=>?_)
    refine value_ (w1:=?_) (v:=?_) (by rfl) rfl ?_ ?_;rotate_left 2;(go_simp;constructor);(rfl);(rfl)
    have h7:=hHeld
    refine hK.out _ _ ⟨pw_cell_below (below_alloc (Below.refl _ _) _) h7.1,pw_cell_below (below_alloc (Below.refl _ _) _) h7.2.1,pw_cell_below (below_alloc (Below.refl _ _) _) h7.2.2.1,pw_cell_below (below_alloc (Below.refl _ _) _) h7.2.2.2⟩ (fun hHeld=>?_);clear hK K
    refine no_ 49 ?_
    refine on_ 27 (some 50) HT_ (fun K hK=>?_)
    refine Kd.R_append_step k78 (w0:=w) w.heap.size (by rfl) (.tmp 24) (.tmp 49) 30 78 (.agg #[.string ⟨#[]⟩,.int .i64 0,.int .i64 0,.int .i64 0,.int .i64 0]) 48 rfl Try.underlying30 info_Arr rfl (by decide) (by omega) (.slice AA acc.length cA) acc (⟨⟨#[97,50]⟩,wd,wrap64 (1+wrap64 (Int.tmod (rd_T66 l1 i).f1 6)),0,0⟩) [.string ⟨#[97,50]⟩,.int .i64 wd,.int .i64 (wrap64 (1+wrap64 (Int.tmod (rd_T66 l1 i).f1 6))),.int .i64 0,.int .i64 0] (fun _=>True) (fun _=>False) rfl rfl (k78_mkM _ _ _ (⟨⟨#[97,50]⟩,wd,wrap64 (1+wrap64 (Int.tmod (rd_T66 l1 i).f1 6)),0,0⟩)) (fun _ hk=>hk.elim) (fun _ _=>trivial) R3 HB3 (below_size HB3) ?aL ?_
    (case aL=>have:=HI.out;have:=hlim.out;have:=hlt.out;omega)
    intro v9 w9 ho hb9 hg9 hat
    obtain ⟨A9,c9,e9⟩:=Kd.R_slice ho
    rw [List.length_append,List.length_singleton] at e9
    subst e9
    have X19:=blk_grown X13 hg9 (Kd.R_ne R3 X13 (by decide))
    have X29:=blk_grown X23 hg9 (Kd.R_ne R3 X23 (by decide))
    have X39:=blk_grown X33 hg9 (Kd.R_ne R3 X33 (by decide))
    obtain ⟨ad9,e9,z0,z1⟩:=at_T66 (Kd.C_below hr1.out hb9) i HI.out.1 hlt.out
    cases e9
    refine hK.out _ _ ⟨own_cell X39 2 (.slice AA acc.length cA) rfl,own_cell X19 1 (.slice (some ad) l1.length c1) rfl,z0,z1⟩ (fun hHeld=>?_);clear hK K
    refine no_ 50 ?_
    refine pu_ 28 51 HT_ ?_
    refine la_ 29 none HT_ (fun K hK=>?_)
    have s1:=blk_frozen X39 2
    have s2:=own_cell X39 2 (.slice AA acc.length cA) rfl
    refine skip_ (w1:=?_) (by rfl) rfl ?_ ?_;rotate_left;(go_simp)
    rfl
    clear s1 s2
    refine hK.out _ _ ?_;clear hK K
    refine done_ (done_of HT_.out (by kernel_rfl)) ?_
    have Y3:=blk_put X39 2 (.slice A9 (acc.length+1) c9) rfl
    have Y1:=blk_far X19 (p:=⟨g3,2,none⟩) n13 (.slice A9 (acc.length+1) c9)
    have Y2:=blk_far X29 (p:=⟨g3,2,none⟩) n23 (.slice A9 (acc.length+1) c9)
    have YR:=Kd.R_set ho X39 (by decide) 2 (.slice A9 (acc.length+1) c9)
    have YB:=below_set hb9 (g:=g3) (j:=2) (v:=.slice A9 (acc.length+1) c9) hg3w
    clear hHeld h6 h7 X13 X23 X33 HB3 R3 X19 X29 X39 ho hb9 hg9 hat z0 z1
    generalize World.setCell _ _ _=w10 at Y3 Y1 Y2 YR  YB ⊢
    go_wp2
    go_roundg kq
    case measure=>omega
    case rel=>exact ⟨wrap64 (i+1),acc++[⟨⟨#[97,50]⟩,wd,wrap64 (1+wrap64 (Int.tmod (rd_T66 l1 i).f1 6)),0,0⟩],.slice A9 (acc.length+1) c9,rfl,⟨by have:=HI.out;rw [hwi.out,List.length_append,List.length_singleton];omega⟩,⟨by rw [hwi.out,← en.out];exact HL'⟩,⟨YR⟩,⟨Y3⟩,⟨Y1⟩,⟨Y2⟩,⟨YB⟩⟩
  ·have e0:decide (i<(l1.length:Int))=false:=decide_eq_false hlt
   have e1:gk=0:=by have:=HI.out;omega
   subst e1
   have eL:=HL.out
   rw [mkArrs] at eL
   injection eL with eL
   replace eL:=eL.symm
   subst eL
   replace hlt:=Aside0.mk hlt
   clear HI HL
   go_wp2
   clear c1_
   generalize (Value.slice AA ar.length cA)=vA0 at X3 RA
   have QA:=RA
   clear RA
   go_loopg [5] l2.length (fun kq v4 w'=>∃ (i:Int) (acc:List S80) (vA:Value),v4 = .int .i64 i∧Aside0 (0≤i∧i+kq=l2.length∧(acc.length:Int)=i)∧Aside0 (mkStrs l2 kq i acc=some st)∧Aside0 (Kd.R k80 80 w' w.heap.size (fun _=>True) vA acc)∧Aside0 (w'.heap[g3]? = some (.cells #[.string ⟨#[102]⟩,.slice none 0 0,vA0,vA,.slice none 0 0,.slice none 0 0] 34 (0,0)))∧Aside0 (Kd.R k78 78 w' w.heap.size (fun _=>True) vA0 ar)∧Aside0 (w'.heap[g1]? = some (.cells #[.slice A0 l0.length c0,.slice A1 l1.length c1,.slice A2 l2.length c2,.slice A3 l3.length c3,.slice A4 l4.length c4] 26 (0,0)))∧Aside0 (w'.heap[g2]? = some (.cells #[.string ⟨#[]⟩,.slice none 0 0,.slice none 0 0,.slice none 0 0,.slice none 0 0,.slice none 0 0] 34 (0,0)))∧Aside0 (Below w.heap.size w w'))
   case atStart=>exact ⟨0,[],.slice none 0 0,rfl,⟨by simp⟩,hS,⟨Kd.R_nil _ _ _ _ _⟩,⟨X3⟩,QA,⟨X1⟩,⟨X2⟩,⟨HB⟩⟩
   case round=>
    clear X3 X1 X2 HB QA
    obtain ⟨i,acc,vA,rfl,HI,HL,RA,⟨X3⟩,QA,⟨X1⟩,⟨X2⟩,⟨HB⟩⟩:=hrel
    have c2_:=own_cell X1 2 (.slice A2 l2.length c2) rfl
    obtain ⟨AA,cA,rfl⟩:=Kd.R_slice RA.out
    by_cases hlt:i<(l2.length:Int)
    ·have e0:decide (i<(l2.length:Int))=true:=decide_eq_true hlt
     obtain ⟨kq,rfl⟩:∃ q,gk=q+1:=⟨gk - 1,by have:=HI.out;omega⟩
     have HL':=HL.out
     rw [mkStrs] at HL'
     obtain ⟨wd,hwd,HL'⟩:=Option.bind_eq_some_iff.mp HL'
     obtain ⟨ad,e,y0,y1⟩:=at_T66 (Kd.C_drew (Kd.C_below hr2.out HB)) i HI.out.1 hlt
     cases e
     have p0:(0≤i)=True:=eq_true HI.out.1
     have q0:(i<(l2.length:Int))=True:=eq_true hlt
     have t0:=Int.tmod_nonneg 4 HI.out.1
     have t1:Int.tmod i 4<4:=Int.tmod_lt_of_pos i (by decide)
     have ec:Int.tmod i 4=0∨Int.tmod i 4=1∨Int.tmod i 4=2∨Int.tmod i 4=3:=by omega
     have hwi:wrap64 (i+1)=i+1:=w64m _ (by have:=HI.out.1;omega) (by have:=hlim.out;omega)
     replace hwi:=Aside0.mk hwi
     replace hlt:=Aside0.mk hlt
     try go_wp2
     clear c2_
     have wa:wrap64 0=0:=w64m _ (by decide) (by decide)
     have wb:wrap64 1=1:=w64m _ (by decide) (by decide)
     have wc:wrap64 2=2:=w64m _ (by decide) (by decide)
     have wd_:wrap64 3=3:=w64m _ (by decide) (by decide)
     have we_:wrap64 4=4:=w64m _ (by decide) (by decide)
     clear t0 t1
     rcases ec with et | et | et | et
     ·skip
      have en:nm1 115 i 4=⟨#[115,48]⟩:=by unfold nm1;rw [et];rfl
      replace en:=Aside0.mk en
      refine start_ (n:=29) (S:=fun w'=>w'.cell? ⟨g3,3,none⟩=some (.slice AA acc.length cA)∧w'.cell? ⟨g1,2,none⟩=some (.slice (some ad) l2.length c2)∧w'.cell? (ad.add (i.toNat*2))=some (.int .u8 (rd_T66 l2 i).f0)∧w'.cell? ⟨(ad.add (i.toNat*2)).block,(ad.add (i.toNat*2)).off+1,none⟩=some (.int .u8 (rd_T66 l2 i).f1)) (ds:=[28]) (bz 29 0) (by kernel_rfl) rfl rfl ⟨(own_cell (blk_drew X3) 3 (.slice AA acc.length cA) rfl),(own_cell (blk_drew X1) 2 (.slice (some ad) l2.length c2) rfl),(y0),(y1)⟩ (fun hHeld=>?_)
      refine with_tabW mkFuncB0.tab9 mkFuncB0.bits9 (fun HT_ HW_=>?_)
      have X13:=blk_drew X1
      have X23:=blk_drew X2
      have X33:=blk_drew X3
      have HB3:=below_drew1 HB
      have R3:=Kd.R_drew RA.out
      have QA3:=Kd.R_drew QA.out
      generalize wr.drew=w5 at hHeld X13 X23 X33 HB3 R3 QA3 ⊢
      refine pu_ 0 59 HT_ ?_
      refine pu_ 2 61 HT_ ?_
      refine pu_ 3 62 HT_ ?_
      refine pu_ 4 63 HT_ ?_
      refine pu_ 5 64 HT_ ?_
      refine pu_ 6 65 HT_ ?_
      refine pu_ 7 66 HT_ ?_
      refine pu_ 8 67 HT_ ?_
      refine pu_ 9 68 HT_ ?_
      refine pu_ 11 70 HT_ ?_
      refine pu_ 16 75 HT_ ?_
      refine pu_ 18 77 HT_ ?_
      refine tk_ 1 60 HT_ HW_ hHeld ?_ (hy:=by rintro w' ⟨s0,s1,s2,s3⟩;go_simp;with_reducible rfl)
      refine tk_ 10 69 HT_ HW_ hHeld ?_ (hy:=by rintro w' ⟨s0,s1,s2,s3⟩;go_simp;with_reducible rfl)
      refine pu_ 12 71 HT_ ?_
      refine pu_ 13 72 HT_ ?_
      refine tk_ 14 73 HT_ HW_ hHeld ?_ (hy:=by rintro w' ⟨s0,s1,s2,s3⟩;go_simp;with_reducible rfl)
      refine tk_ 17 76 HT_ HW_ hHeld ?_ (hy:=by rintro w' ⟨s0,s1,s2,s3⟩;go_simp;with_reducible rfl)
      refine pu_ 19 78 HT_ ?_
      refine pu_ 20 79 HT_ ?_
      refine tk_ 21 80 HT_ HW_ hHeld ?_ (hy:=by rintro w' ⟨s0,s1,s2,s3⟩;go_simp;with_reducible rfl)
      refine pu_ 22 81 HT_ ?_
      refine pu_ 23 82 HT_ ?_
      refine on_ 15 (some 74) HT_ (fun K hK=>?_)
      refine gs_ Try.func24 #[.int .u8 (rd_T66 l2 i).f0] ?_
      refine (jacquardref27_wide.calls (rd_T66 l2 i).f0 wd _ hwd).mono ?_
      rintro e w6 ⟨rfl,hb6⟩
      refine ⟨_,rfl,?_⟩
      have h6:=hHeld
      replace X13:=blk_below X13 hb6
      replace X23:=blk_below X23 hb6
      replace X33:=blk_below X33 hb6
      replace HB3:=below_weaken HB3 (below_size HB3) hb6
      replace R3:=Kd.R_below R3 hb6
      replace QA3:=Kd.R_below QA3 hb6
      refine hK.out _ _ ⟨pw_cell_below hb6 h6.1,pw_cell_below hb6 h6.2.1,pw_cell_below hb6 h6.2.2.1,pw_cell_below hb6 h6.2.2.2⟩ (fun hHeld=>?_);clear hK K
      refine no_ 74 ?_
      refine pu_ 24 83 HT_ ?_
      refine on_ 25 (some 84) HT_ (fun K hK=>?_)
      refine value_ (w1:=?_) (v:=?_) (by rfl) rfl ?_ ?_;rotate_left 2;(go_simp;constructor);(rfl);(rfl)
      have h7:=hHeld
      refine hK.out _ _ ⟨pw_cell_below (below_alloc (Below.refl _ _) _) h7.1,pw_cell_below (below_alloc (Below.refl _ _) _) h7.2.1,pw_cell_below (below_alloc (Below.refl _ _) _) h7.2.2.1,pw_cell_below (below_alloc (Below.refl _ _) _) h7.2.2.2⟩ (fun hHeld=>?_);clear hK K
      refine no_ 84 ?_
      refine on_ 26 (some 85) HT_ (fun K hK=>?_)
      refine Kd.R_append_step k80 (w0:=w) w.heap.size (by rfl) (.tmp 60) (.tmp 84) 31 80 (.agg #[.string ⟨#[]⟩,.int .i64 0,.bool false]) 32 rfl Try.underlying31 info_Str rfl (by decide) (by omega) (.slice AA acc.length cA) acc (⟨⟨#[115,48]⟩,wd,Int.tmod (rd_T66 l2 i).f1 2==1⟩) [.string ⟨#[115,48]⟩,.int .i64 wd,.bool (Int.tmod (rd_T66 l2 i).f1 2==1)] (fun _=>True) (fun _=>False) rfl rfl (k80_mkM _ _ _ (⟨⟨#[115,48]⟩,wd,Int.tmod (rd_T66 l2 i).f1 2==1⟩)) (fun _ hk=>hk.elim) (fun _ _=>trivial) R3 HB3 (below_size HB3) ?aL ?_
      (case aL=>have:=HI.out;have:=hlim.out;have:=hlt.out;omega)
      intro v9 w9 ho hb9 hg9 hat
      obtain ⟨A9,c9,e9⟩:=Kd.R_slice ho
      rw [List.length_append,List.length_singleton] at e9
      subst e9
      have X19:=blk_grown X13 hg9 (Kd.R_ne R3 X13 (by decide))
      have X29:=blk_grown X23 hg9 (Kd.R_ne R3 X23 (by decide))
      have X39:=blk_grown X33 hg9 (Kd.R_ne R3 X33 (by decide))
      have QA9:=Kd.R_over' QA3 (Kd.R_typed R3) (by decide) hg9
      obtain ⟨ad9,e9,z0,z1⟩:=at_T66 (Kd.C_below hr2.out hb9) i HI.out.1 hlt.out
      cases e9
      refine hK.out _ _ ⟨own_cell X39 3 (.slice AA acc.length cA) rfl,own_cell X19 2 (.slice (some ad) l2.length c2) rfl,z0,z1⟩ (fun hHeld=>?_);clear hK K
      refine no_ 85 ?_
      refine pu_ 27 86 HT_ ?_
      refine la_ 28 none HT_ (fun K hK=>?_)
      have s1:=blk_frozen X39 3
      have s2:=own_cell X39 3 (.slice AA acc.length cA) rfl
      refine skip_ (w1:=?_) (by rfl) rfl ?_ ?_;rotate_left;(go_simp)
      rfl
      clear s1 s2
      refine hK.out _ _ ?_;clear hK K
      refine done_ (done_of HT_.out (by kernel_rfl)) ?_
      have Y3:=blk_put X39 3 (.slice A9 (acc.length+1) c9) rfl
      have Y1:=blk_far X19 (p:=⟨g3,3,none⟩) n13 (.slice A9 (acc.length+1) c9)
      have Y2:=blk_far X29 (p:=⟨g3,3,none⟩) n23 (.slice A9 (acc.length+1) c9)
      have YR:=Kd.R_set ho X39 (by decide) 3 (.slice A9 (acc.length+1) c9)
      have YQA:=Kd.R_set QA9 X39 (by decide) 3 (.slice A9 (acc.length+1) c9)
      have YB:=below_set hb9 (g:=g3) (j:=3) (v:=.slice A9 (acc.length+1) c9) hg3w
      clear hHeld h6 h7 X13 X23 X33 HB3 R3 X19 X29 X39 ho hb9 hg9 hat z0 z1 QA3 QA9
      generalize World.setCell _ _ _=w10 at Y3 Y1 Y2 YR YQA YB ⊢
      go_wp2
      go_roundg kq
      case measure=>omega
      case rel=>exact ⟨wrap64 (i+1),acc++[⟨⟨#[115,48]⟩,wd,Int.tmod (rd_T66 l2 i).f1 2==1⟩],.slice A9 (acc.length+1) c9,rfl,⟨by have:=HI.out;rw [hwi.out,List.length_append,List.length_singleton];omega⟩,⟨by rw [hwi.out,← en.out];exact HL'⟩,⟨YR⟩,⟨Y3⟩,⟨YQA⟩,⟨Y1⟩,⟨Y2⟩,⟨YB⟩⟩
     ·skip
      have en:nm1 115 i 4=⟨#[115,49]⟩:=by unfold nm1;rw [et];rfl
      replace en:=Aside0.mk en
      refine start_ (n:=29) (S:=fun w'=>w'.cell? ⟨g3,3,none⟩=some (.slice AA acc.length cA)∧w'.cell? ⟨g1,2,none⟩=some (.slice (some ad) l2.length c2)∧w'.cell? (ad.add (i.toNat*2))=some (.int .u8 (rd_T66 l2 i).f0)∧w'.cell? ⟨(ad.add (i.toNat*2)).block,(ad.add (i.toNat*2)).off+1,none⟩=some (.int .u8 (rd_T66 l2 i).f1)) (ds:=[28]) (bz 29 0) (by kernel_rfl) rfl rfl ⟨(own_cell (blk_drew X3) 3 (.slice AA acc.length cA) rfl),(own_cell (blk_drew X1) 2 (.slice (some ad) l2.length c2) rfl),(y0),(y1)⟩ (fun hHeld=>?_)
      refine with_tabW mkFuncB0.tab9 mkFuncB0.bits9 (fun HT_ HW_=>?_)
      have X13:=blk_drew X1
      have X23:=blk_drew X2
      have X33:=blk_drew X3
      have HB3:=below_drew1 HB
      have R3:=Kd.R_drew RA.out
      have QA3:=Kd.R_drew QA.out
      generalize wr.drew=w5 at hHeld X13 X23 X33 HB3 R3 QA3 ⊢
      refine pu_ 0 59 HT_ ?_
      refine pu_ 2 61 HT_ ?_
      refine pu_ 3 62 HT_ ?_
      refine pu_ 4 63 HT_ ?_
      refine pu_ 5 64 HT_ ?_
      refine pu_ 6 65 HT_ ?_
      refine pu_ 7 66 HT_ ?_
      refine pu_ 8 67 HT_ ?_
      refine pu_ 9 68 HT_ ?_
      refine pu_ 11 70 HT_ ?_
      refine pu_ 16 75 HT_ ?_
      refine pu_ 18 77 HT_ ?_
      refine tk_ 1 60 HT_ HW_ hHeld ?_ (hy:=by rintro w' ⟨s0,s1,s2,s3⟩;go_simp;with_reducible rfl)
      refine tk_ 10 69 HT_ HW_ hHeld ?_ (hy:=by rintro w' ⟨s0,s1,s2,s3⟩;go_simp;with_reducible rfl)
      refine pu_ 12 71 HT_ ?_
      refine pu_ 13 72 HT_ ?_
      refine tk_ 14 73 HT_ HW_ hHeld ?_ (hy:=by rintro w' ⟨s0,s1,s2,s3⟩;go_simp;with_reducible rfl)
      refine tk_ 17 76 HT_ HW_ hHeld ?_ (hy:=by rintro w' ⟨s0,s1,s2,s3⟩;go_simp;with_reducible rfl)
      refine pu_ 19 78 HT_ ?_
      refine pu_ 20 79 HT_ ?_
      refine tk_ 21 80 HT_ HW_ hHeld ?_ (hy:=by rintro w' ⟨s0,s1,s2,s3⟩;go_simp;with_reducible rfl)
      refine pu_ 22 81 HT_ ?_
      refine pu_ 23 82 HT_ ?_
      refine on_ 15 (some 74) HT_ (fun K hK=>?_)
      refine gs_ Try.func24 #[.int .u8 (rd_T66 l2 i).f0] ?_
      refine (jacquardref27_wide.calls (rd_T66 l2 i).f0 wd _ hwd).mono ?_
      rintro e w6 ⟨rfl,hb6⟩
      refine ⟨_,rfl,?_⟩
      have h6:=hHeld
      replace X13:=blk_below X13 hb6
      replace X23:=blk_below X23 hb6
      replace X33:=blk_below X33 hb6
      replace HB3:=below_weaken HB3 (below_size HB3) hb6
      replace R3:=Kd.R_below R3 hb6
      replace QA3:=Kd.R_below QA3 hb6
      refine hK.out _ _ ⟨pw_cell_below hb6 h6.1,pw_cell_below hb6 h6.2.1,pw_cell_below hb6 h6.2.2.1,pw_cell_below hb6 h6.2.2.2⟩ (fun hHeld=>?_);clear hK K
      refine no_ 74 ?_
      refine pu_ 24 83 HT_ ?_
      refine on_ 25 (some 84) HT_ (fun K hK=>?_)
      refine value_ (w1:=?_) (v:=?_) (by rfl) rfl ?_ ?_;rotate_left 2;(go_simp;constructor);(rfl);(rfl)
      have h7:=hHeld
      refine hK.out _ _ ⟨pw_cell_below (below_alloc (Below.refl _ _) _) h7.1,pw_cell_below (below_alloc (Below.refl _ _) _) h7.2.1,pw_cell_below (below_alloc (Below.refl _ _) _) h7.2.2.1,pw_cell_below (below_alloc (Below.refl _ _) _) h7.2.2.2⟩ (fun hHeld=>?_);clear hK K
      refine no_ 84 ?_
      refine on_ 26 (some 85) HT_ (fun K hK=>?_)
      refine Kd.R_append_step k80 (w0:=w) w.heap.size (by rfl) (.tmp 60) (.tmp 84) 31 80 (.agg #[.string ⟨#[]⟩,.int .i64 0,.bool false]) 32 rfl Try.underlying31 info_Str rfl (by decide) (by omega) (.slice AA acc.length cA) acc (⟨⟨#[115,49]⟩,wd,Int.tmod (rd_T66 l2 i).f1 2==1⟩) [.string ⟨#[115,49]⟩,.int .i64 wd,.bool (Int.tmod (rd_T66 l2 i).f1 2==1)] (fun _=>True) (fun _=>False) rfl rfl (k80_mkM _ _ _ (⟨⟨#[115,49]⟩,wd,Int.tmod (rd_T66 l2 i).f1 2==1⟩)) (fun _ hk=>hk.elim) (fun _ _=>trivial) R3 HB3 (below_size HB3) ?aL ?_
      (case aL=>have:=HI.out;have:=hlim.out;have:=hlt.out;omega)
      intro v9 w9 ho hb9 hg9 hat
      obtain ⟨A9,c9,e9⟩:=Kd.R_slice ho
      rw [List.length_append,List.length_singleton] at e9
      subst e9
      have X19:=blk_grown X13 hg9 (Kd.R_ne R3 X13 (by decide))
      have X29:=blk_grown X23 hg9 (Kd.R_ne R3 X23 (by decide))
      have X39:=blk_grown X33 hg9 (Kd.R_ne R3 X33 (by decide))
      have QA9:=Kd.R_over' QA3 (Kd.R_typed R3) (by decide) hg9
      obtain ⟨ad9,e9,z0,z1⟩:=at_T66 (Kd.C_below hr2.out hb9) i HI.out.1 hlt.out
      cases e9
      refine hK.out _ _ ⟨own_cell X39 3 (.slice AA acc.length cA) rfl,own_cell X19 2 (.slice (some ad) l2.length c2) rfl,z0,z1⟩ (fun hHeld=>?_);clear hK K
      refine no_ 85 ?_
      refine pu_ 27 86 HT_ ?_
      refine la_ 28 none HT_ (fun K hK=>?_)
      have s1:=blk_frozen X39 3
      have s2:=own_cell X39 3 (.slice AA acc.length cA) rfl
      refine skip_ (w1:=?_) (by rfl) rfl ?_ ?_;rotate_left;(go_simp)
      rfl
      clear s1 s2
      refine hK.out _ _ ?_;clear hK K
      refine done_ (done_of HT_.out (by kernel_rfl)) ?_
      have Y3:=blk_put X39 3 (.slice A9 (acc.length+1) c9) rfl
      have Y1:=blk_far X19 (p:=⟨g3,3,none⟩) n13 (.slice A9 (acc.length+1) c9)
      have Y2:=blk_far X29 (p:=⟨g3,3,none⟩) n23 (.slice A9 (acc.length+1) c9)
      have YR:=Kd.R_set ho X39 (by decide) 3 (.slice A9 (acc.length+1) c9)
      have YQA:=Kd.R_set QA9 X39 (by decide) 3 (.slice A9 (acc.length+1) c9)
      have YB:=below_set hb9 (g:=g3) (j:=3) (v:=.slice A9 (acc.length+1) c9) hg3w
      clear hHeld h6 h7 X13 X23 X33 HB3 R3 X19 X29 X39 ho hb9 hg9 hat z0 z1 QA3 QA9
      generalize World.setCell _ _ _=w10 at Y3 Y1 Y2 YR YQA YB ⊢
      go_wp2
      go_roundg kq
      case measure=>omega
      case rel=>exact ⟨wrap64 (i+1),acc++[⟨⟨#[115,49]⟩,wd,Int.tmod (rd_T66 l2 i).f1 2==1⟩],.slice A9 (acc.length+1) c9,rfl,⟨by have:=HI.out;rw [hwi.out,List.length_append,List.length_singleton];omega⟩,⟨by rw [hwi.out,← en.out];exact HL'⟩,⟨YR⟩,⟨Y3⟩,⟨YQA⟩,⟨Y1⟩,⟨Y2⟩,⟨YB⟩⟩
     ·skip
      have en:nm1 115 i 4=⟨#[115,50]⟩:=by unfold nm1;rw [et];rfl
      replace en:=Aside0.mk en
      refine start_ (n:=29) (S:=fun w'=>w'.cell? ⟨g3,3,none⟩=some (.slice AA acc.length cA)∧w'.cell? ⟨g1,2,none⟩=some (.slice (some ad) l2.length c2)∧w'.cell? (ad.add (i.toNat*2))=some (.int .u8 (rd_T66 l2 i).f0)∧w'.cell? ⟨(ad.add (i.toNat*2)).block,(ad.add (i.toNat*2)).off+1,none⟩=some (.int .u8 (rd_T66 l2 i).f1)) (ds:=[28]) (bz 29 0) (by kernel_rfl) rfl rfl ⟨(own_cell (blk_drew X3) 3 (.slice AA acc.length cA) rfl),(own_cell (blk_drew X1) 2 (.slice (some ad) l2.length c2) rfl),(y0),(y1)⟩ (fun hHeld=>?_)
      refine with_tabW mkFuncB0.tab9 mkFuncB0.bits9 (fun HT_ HW_=>?_)
      have X13:=blk_drew X1
      have X23:=blk_drew X2
      have X33:=blk_drew X3
      have HB3:=below_drew1 HB
      have R3:=Kd.R_drew RA.out
      have QA3:=Kd.R_drew QA.out
      generalize wr.drew=w5 at hHeld X13 X23 X33 HB3 R3 QA3 ⊢
      refine pu_ 0 59 HT_ ?_
      refine pu_ 2 61 HT_ ?_
      refine pu_ 3 62 HT_ ?_
      refine pu_ 4 63 HT_ ?_
      refine pu_ 5 64 HT_ ?_
      refine pu_ 6 65 HT_ ?_
      refine pu_ 7 66 HT_ ?_
      refine pu_ 8 67 HT_ ?_
      refine pu_ 9 68 HT_ ?_
      refine pu_ 11 70 HT_ ?_
      refine pu_ 16 75 HT_ ?_
      refine pu_ 18 77 HT_ ?_
      refine tk_ 1 60 HT_ HW_ hHeld ?_ (hy:=by rintro w' ⟨s0,s1,s2,s3⟩;go_simp;with_reducible rfl)
      refine tk_ 10 69 HT_ HW_ hHeld ?_ (hy:=by rintro w' ⟨s0,s1,s2,s3⟩;go_simp;with_reducible rfl)
      refine pu_ 12 71 HT_ ?_
      refine pu_ 13 72 HT_ ?_
      refine tk_ 14 73 HT_ HW_ hHeld ?_ (hy:=by rintro w' ⟨s0,s1,s2,s3⟩;go_simp;with_reducible rfl)
      refine tk_ 17 76 HT_ HW_ hHeld ?_ (hy:=by rintro w' ⟨s0,s1,s2,s3⟩;go_simp;with_reducible rfl)
      refine pu_ 19 78 HT_ ?_
      refine pu_ 20 79 HT_ ?_
      refine tk_ 21 80 HT_ HW_ hHeld ?_ (hy:=by rintro w' ⟨s0,s1,s2,s3⟩;go_simp;with_reducible rfl)
      refine pu_ 22 81 HT_ ?_
      refine pu_ 23 82 HT_ ?_
      refine on_ 15 (some 74) HT_ (fun K hK=>?_)
      refine gs_ Try.func24 #[.int .u8 (rd_T66 l2 i).f0] ?_
      refine (jacquardref27_wide.calls (rd_T66 l2 i).f0 wd _ hwd).mono ?_
      rintro e w6 ⟨rfl,hb6⟩
      refine ⟨_,rfl,?_⟩
      have h6:=hHeld
      replace X13:=blk_below X13 hb6
      replace X23:=blk_below X23 hb6
      replace X33:=blk_below X33 hb6
      replace HB3:=below_weaken HB3 (below_size HB3) hb6
      replace R3:=Kd.R_below R3 hb6
      replace QA3:=Kd.R_below QA3 hb6
      refine hK.out _ _ ⟨pw_cell_below hb6 h6.1,pw_cell_below hb6 h6.2.1,pw_cell_below hb6 h6.2.2.1,pw_cell_below hb6 h6.2.2.2⟩ (fun hHeld=>?_);clear hK K
      refine no_ 74 ?_
      refine pu_ 24 83 HT_ ?_
      refine on_ 25 (some 84) HT_ (fun K hK=>?_)
      refine value_ (w1:=?_) (v:=?_) (by rfl) rfl ?_ ?_;rotate_left 2;(go_simp;constructor);(rfl);(rfl)
      have h7:=hHeld
      refine hK.out _ _ ⟨pw_cell_below (below_alloc (Below.refl _ _) _) h7.1,pw_cell_below (below_alloc (Below.refl _ _) _) h7.2.1,pw_cell_below (below_alloc (Below.refl _ _) _) h7.2.2.1,pw_cell_below (below_alloc (Below.refl _ _) _) h7.2.2.2⟩ (fun hHeld=>?_);clear hK K
      refine no_ 84 ?_
      refine on_ 26 (some 85) HT_ (fun K hK=>?_)
      refine Kd.R_append_step k80 (w0:=w) w.heap.size (by rfl) (.tmp 60) (.tmp 84) 31 80 (.agg #[.string ⟨#[]⟩,.int .i64 0,.bool false]) 32 rfl Try.underlying31 info_Str rfl (by decide) (by omega) (.slice AA acc.length cA) acc (⟨⟨#[115,50]⟩,wd,Int.tmod (rd_T66 l2 i).f1 2==1⟩) [.string ⟨#[115,50]⟩,.int .i64 wd,.bool (Int.tmod (rd_T66 l2 i).f1 2==1)] (fun _=>True) (fun _=>False) rfl rfl (k80_mkM _ _ _ (⟨⟨#[115,50]⟩,wd,Int.tmod (rd_T66 l2 i).f1 2==1⟩)) (fun _ hk=>hk.elim) (fun _ _=>trivial) R3 HB3 (below_size HB3) ?aL ?_
      (case aL=>have:=HI.out;have:=hlim.out;have:=hlt.out;omega)
      intro v9 w9 ho hb9 hg9 hat
      obtain ⟨A9,c9,e9⟩:=Kd.R_slice ho
      rw [List.length_append,List.length_singleton] at e9
      subst e9
      have X19:=blk_grown X13 hg9 (Kd.R_ne R3 X13 (by decide))
      have X29:=blk_grown X23 hg9 (Kd.R_ne R3 X23 (by decide))
      have X39:=blk_grown X33 hg9 (Kd.R_ne R3 X33 (by decide))
      have QA9:=Kd.R_over' QA3 (Kd.R_typed R3) (by decide) hg9
      obtain ⟨ad9,e9,z0,z1⟩:=at_T66 (Kd.C_below hr2.out hb9) i HI.out.1 hlt.out
      cases e9
      refine hK.out _ _ ⟨own_cell X39 3 (.slice AA acc.length cA) rfl,own_cell X19 2 (.slice (some ad) l2.length c2) rfl,z0,z1⟩ (fun hHeld=>?_);clear hK K
      refine no_ 85 ?_
      refine pu_ 27 86 HT_ ?_
      refine la_ 28 none HT_ (fun K hK=>?_)
      have s1:=blk_frozen X39 3
      have s2:=own_cell X39 3 (.slice AA acc.length cA) rfl
      refine skip_ (w1:=?_) (by rfl) rfl ?_ ?_;rotate_left;(go_simp)
      rfl
      clear s1 s2
      refine hK.out _ _ ?_;clear hK K
      refine done_ (done_of HT_.out (by kernel_rfl)) ?_
      have Y3:=blk_put X39 3 (.slice A9 (acc.length+1) c9) rfl
      have Y1:=blk_far X19 (p:=⟨g3,3,none⟩) n13 (.slice A9 (acc.length+1) c9)
      have Y2:=blk_far X29 (p:=⟨g3,3,none⟩) n23 (.slice A9 (acc.length+1) c9)
      have YR:=Kd.R_set ho X39 (by decide) 3 (.slice A9 (acc.length+1) c9)
      have YQA:=Kd.R_set QA9 X39 (by decide) 3 (.slice A9 (acc.length+1) c9)
      have YB:=below_set hb9 (g:=g3) (j:=3) (v:=.slice A9 (acc.length+1) c9) hg3w
      clear hHeld h6 h7 X13 X23 X33 HB3 R3 X19 X29 X39 ho hb9 hg9 hat z0 z1 QA3 QA9
      generalize World.setCell _ _ _=w10 at Y3 Y1 Y2 YR YQA YB ⊢
      go_wp2
      go_roundg kq
      case measure=>omega
      case rel=>exact ⟨wrap64 (i+1),acc++[⟨⟨#[115,50]⟩,wd,Int.tmod (rd_T66 l2 i).f1 2==1⟩],.slice A9 (acc.length+1) c9,rfl,⟨by have:=HI.out;rw [hwi.out,List.length_append,List.length_singleton];omega⟩,⟨by rw [hwi.out,← en.out];exact HL'⟩,⟨YR⟩,⟨Y3⟩,⟨YQA⟩,⟨Y1⟩,⟨Y2⟩,⟨YB⟩⟩
     ·skip
      have en:nm1 115 i 4=⟨#[115,51]⟩:=by unfold nm1;rw [et];rfl
      replace en:=Aside0.mk en
      refine start_ (n:=29) (S:=fun w'=>w'.cell? ⟨g3,3,none⟩=some (.slice AA acc.length cA)∧w'.cell? ⟨g1,2,none⟩=some (.slice (some ad) l2.length c2)∧w'.cell? (ad.add (i.toNat*2))=some (.int .u8 (rd_T66 l2 i).f0)∧w'.cell? ⟨(ad.add (i.toNat*2)).block,(ad.add (i.toNat*2)).off+1,none⟩=some (.int .u8 (rd_T66 l2 i).f1)) (ds:=[28]) (bz 29 0) (by kernel_rfl) rfl rfl ⟨(own_cell (blk_drew X3) 3 (.slice AA acc.length cA) rfl),(own_cell (blk_drew X1) 2 (.slice (some ad) l2.length c2) rfl),(y0),(y1)⟩ (fun hHeld=>?_)
      refine with_tabW mkFuncB0.tab9 mkFuncB0.bits9 (fun HT_ HW_=>?_)
      have X13:=blk_drew X1
      have X23:=blk_drew X2
      have X33:=blk_drew X3
      have HB3:=below_drew1 HB
      have R3:=Kd.R_drew RA.out
      have QA3:=Kd.R_drew QA.out
      generalize wr.drew=w5 at hHeld X13 X23 X33 HB3 R3 QA3 ⊢
      refine pu_ 0 59 HT_ ?_
      refine pu_ 2 61 HT_ ?_
      refine pu_ 3 62 HT_ ?_
      refine pu_ 4 63 HT_ ?_
      refine pu_ 5 64 HT_ ?_
      refine pu_ 6 65 HT_ ?_
      refine pu_ 7 66 HT_ ?_
      refine pu_ 8 67 HT_ ?_
      refine pu_ 9 68 HT_ ?_
      refine pu_ 11 70 HT_ ?_
      refine pu_ 16 75 HT_ ?_
      refine pu_ 18 77 HT_ ?_
      refine tk_ 1 60 HT_ HW_ hHeld ?_ (hy:=by rintro w' ⟨s0,s1,s2,s3⟩;go_simp;with_reducible rfl)
      refine tk_ 10 69 HT_ HW_ hHeld ?_ (hy:=by rintro w' ⟨s0,s1,s2,s3⟩;go_simp;with_reducible rfl)
      refine pu_ 12 71 HT_ ?_
      refine pu_ 13 72 HT_ ?_
      refine tk_ 14 73 HT_ HW_ hHeld ?_ (hy:=by rintro w' ⟨s0,s1,s2,s3⟩;go_simp;with_reducible rfl)
      refine tk_ 17 76 HT_ HW_ hHeld ?_ (hy:=by rintro w' ⟨s0,s1,s2,s3⟩;go_simp;with_reducible rfl)
      refine pu_ 19 78 HT_ ?_
      refine pu_ 20 79 HT_ ?_
      refine tk_ 21 80 HT_ HW_ hHeld ?_ (hy:=by rintro w' ⟨s0,s1,s2,s3⟩;go_simp;with_reducible rfl)
      refine pu_ 22 81 HT_ ?_
      refine pu_ 23 82 HT_ ?_
      refine on_ 15 (some 74) HT_ (fun K hK=>?_)
      refine gs_ Try.func24 #[.int .u8 (rd_T66 l2 i).f0] ?_
      refine (jacquardref27_wide.calls (rd_T66 l2 i).f0 wd _ hwd).mono ?_
      rintro e w6 ⟨rfl,hb6⟩
      refine ⟨_,rfl,?_⟩
      have h6:=hHeld
      replace X13:=blk_below X13 hb6
      replace X23:=blk_below X23 hb6
      replace X33:=blk_below X33 hb6
      replace HB3:=below_weaken HB3 (below_size HB3) hb6
      replace R3:=Kd.R_below R3 hb6
      replace QA3:=Kd.R_below QA3 hb6
      refine hK.out _ _ ⟨pw_cell_below hb6 h6.1,pw_cell_below hb6 h6.2.1,pw_cell_below hb6 h6.2.2.1,pw_cell_below hb6 h6.2.2.2⟩ (fun hHeld=>?_);clear hK K
      refine no_ 74 ?_
      refine pu_ 24 83 HT_ ?_
      refine on_ 25 (some 84) HT_ (fun K hK=>?_)
      refine value_ (w1:=?_) (v:=?_) (by rfl) rfl ?_ ?_;rotate_left 2;(go_simp;constructor);(rfl);(rfl)
      have h7:=hHeld
      refine hK.out _ _ ⟨pw_cell_below (below_alloc (Below.refl _ _) _) h7.1,pw_cell_below (below_alloc (Below.refl _ _) _) h7.2.1,pw_cell_below (below_alloc (Below.refl _ _) _) h7.2.2.1,pw_cell_below (below_alloc (Below.refl _ _) _) h7.2.2.2⟩ (fun hHeld=>?_);clear hK K
      refine no_ 84 ?_
      refine on_ 26 (some 85) HT_ (fun K hK=>?_)
      refine Kd.R_append_step k80 (w0:=w) w.heap.size (by rfl) (.tmp 60) (.tmp 84) 31 80 (.agg #[.string ⟨#[]⟩,.int .i64 0,.bool false]) 32 rfl Try.underlying31 info_Str rfl (by decide) (by omega) (.slice AA acc.length cA) acc (⟨⟨#[115,51]⟩,wd,Int.tmod (rd_T66 l2 i).f1 2==1⟩) [.string ⟨#[115,51]⟩,.int .i64 wd,.bool (Int.tmod (rd_T66 l2 i).f1 2==1)] (fun _=>True) (fun _=>False) rfl rfl (k80_mkM _ _ _ (⟨⟨#[115,51]⟩,wd,Int.tmod (rd_T66 l2 i).f1 2==1⟩)) (fun _ hk=>hk.elim) (fun _ _=>trivial) R3 HB3 (below_size HB3) ?aL ?_
      (case aL=>have:=HI.out;have:=hlim.out;have:=hlt.out;omega)
      intro v9 w9 ho hb9 hg9 hat
      obtain ⟨A9,c9,e9⟩:=Kd.R_slice ho
      rw [List.length_append,List.length_singleton] at e9
      subst e9
      have X19:=blk_grown X13 hg9 (Kd.R_ne R3 X13 (by decide))
      have X29:=blk_grown X23 hg9 (Kd.R_ne R3 X23 (by decide))
      have X39:=blk_grown X33 hg9 (Kd.R_ne R3 X33 (by decide))
      have QA9:=Kd.R_over' QA3 (Kd.R_typed R3) (by decide) hg9
      obtain ⟨ad9,e9,z0,z1⟩:=at_T66 (Kd.C_below hr2.out hb9) i HI.out.1 hlt.out
      cases e9
      refine hK.out _ _ ⟨own_cell X39 3 (.slice AA acc.length cA) rfl,own_cell X19 2 (.slice (some ad) l2.length c2) rfl,z0,z1⟩ (fun hHeld=>?_);clear hK K
      refine no_ 85 ?_
      refine pu_ 27 86 HT_ ?_
      refine la_ 28 none HT_ (fun K hK=>?_)
      have s1:=blk_frozen X39 3
      have s2:=own_cell X39 3 (.slice AA acc.length cA) rfl
      refine skip_ (w1:=?_) (by rfl) rfl ?_ ?_;rotate_left;(go_simp)
      rfl
      clear s1 s2
      refine hK.out _ _ ?_;clear hK K
      refine done_ (done_of HT_.out (by kernel_rfl)) ?_
      have Y3:=blk_put X39 3 (.slice A9 (acc.length+1) c9) rfl
      have Y1:=blk_far X19 (p:=⟨g3,3,none⟩) n13 (.slice A9 (acc.length+1) c9)
      have Y2:=blk_far X29 (p:=⟨g3,3,none⟩) n23 (.slice A9 (acc.length+1) c9)
      have YR:=Kd.R_set ho X39 (by decide) 3 (.slice A9 (acc.length+1) c9)
      have YQA:=Kd.R_set QA9 X39 (by decide) 3 (.slice A9 (acc.length+1) c9)
      have YB:=below_set hb9 (g:=g3) (j:=3) (v:=.slice A9 (acc.length+1) c9) hg3w
      clear hHeld h6 h7 X13 X23 X33 HB3 R3 X19 X29 X39 ho hb9 hg9 hat z0 z1 QA3 QA9
      generalize World.setCell _ _ _=w10 at Y3 Y1 Y2 YR YQA YB ⊢
      go_wp2
      go_roundg kq
      case measure=>omega
      case rel=>exact ⟨wrap64 (i+1),acc++[⟨⟨#[115,51]⟩,wd,Int.tmod (rd_T66 l2 i).f1 2==1⟩],.slice A9 (acc.length+1) c9,rfl,⟨by have:=HI.out;rw [hwi.out,List.length_append,List.length_singleton];omega⟩,⟨by rw [hwi.out,← en.out];exact HL'⟩,⟨YR⟩,⟨Y3⟩,⟨YQA⟩,⟨Y1⟩,⟨Y2⟩,⟨YB⟩⟩
    ·have e0:decide (i<(l2.length:Int))=false:=decide_eq_false hlt
     have e1:gk=0:=by have:=HI.out;omega
     subst e1
     have eL:=HL.out
     rw [mkStrs] at eL
     injection eL with eL
     replace eL:=eL.symm
     subst eL
     replace hlt:=Aside0.mk hlt
     clear HI HL
     go_wp2
     clear c2_
     generalize (Value.slice AA st.length cA)=vS0 at X3 RA
     have QS:=RA
     clear RA
     go_loopg [6] l3.length (fun kq v4 w'=>∃ (i:Int) (acc:List Int) (vA:Value),v4 = .int .i64 i∧Aside0 (0≤i∧i+kq=l3.length∧(acc.length:Int)=i)∧Aside0 (mkRts l3 kq i acc=some rt)∧Aside0 (Kd.R (Kd.int .i64) 3 w' w.heap.size (fun _=>True) vA acc)∧Aside0 (w'.heap[g3]? = some (.cells #[.string ⟨#[102]⟩,.slice none 0 0,vA0,vS0,vA,.slice none 0 0] 34 (0,0)))∧Aside0 (Kd.R k78 78 w' w.heap.size (fun _=>True) vA0 ar)∧Aside0 (Kd.R k80 80 w' w.heap.size (fun _=>True) vS0 st)∧Aside0 (w'.heap[g1]? = some (.cells #[.slice A0 l0.length c0,.slice A1 l1.length c1,.slice A2 l2.length c2,.slice A3 l3.length c3,.slice A4 l4.length c4] 26 (0,0)))∧Aside0 (w'.heap[g2]? = some (.cells #[.string ⟨#[]⟩,.slice none 0 0,.slice none 0 0,.slice none 0 0,.slice none 0 0,.slice none 0 0] 34 (0,0)))∧Aside0 (Below w.heap.size w w'))
     case atStart=>exact ⟨0,[],.slice none 0 0,rfl,⟨by simp⟩,hR,⟨Kd.R_nil _ _ _ _ _⟩,⟨X3⟩,QA,QS,⟨X1⟩,⟨X2⟩,⟨HB⟩⟩
     case round=>
      clear X3 X1 X2 HB QA QS
      obtain ⟨i,acc,vA,rfl,HI,HL,RA,⟨X3⟩,QA,QS,⟨X1⟩,⟨X2⟩,⟨HB⟩⟩:=hrel
      have c3_:=own_cell X1 3 (.slice A3 l3.length c3) rfl
      obtain ⟨AA,cA,rfl⟩:=Kd.R_slice RA.out
      by_cases hlt:i<(l3.length:Int)
      ·have e0:decide (i<(l3.length:Int))=true:=decide_eq_true hlt
       obtain ⟨kq,rfl⟩:∃ q,gk=q+1:=⟨gk - 1,by have:=HI.out;omega⟩
       have HL':=HL.out
       rw [mkRts] at HL'
       obtain ⟨wd,hwd,HL'⟩:=Option.bind_eq_some_iff.mp HL'
       obtain ⟨ad,e,y0⟩:=Kd.at_int (Kd.C_drew (Kd.C_below hr3.out HB)) i HI.out.1 hlt
       cases e
       have p0:(0≤i)=True:=eq_true HI.out.1
       have q0:(i<(l3.length:Int))=True:=eq_true hlt
       have hwi:wrap64 (i+1)=i+1:=w64m _ (by have:=HI.out.1;omega) (by have:=hlim.out;omega)
       replace hwi:=Aside0.mk hwi
       replace hlt:=Aside0.mk hlt
       try go_wp2
       clear c3_
       refine start_ (n:=12) (S:=fun w'=>w'.cell? ⟨g3,4,none⟩=some (.slice AA acc.length cA)∧w'.cell? ⟨g1,3,none⟩=some (.slice (some ad) l3.length c3)∧w'.cell? (ad.add i.toNat)=some (.int .u8 (rd l3 i))) (ds:=[11]) (bz 12 0) (by kernel_rfl) rfl rfl ⟨(own_cell (blk_drew X3) 4 (.slice AA acc.length cA) rfl),(own_cell (blk_drew X1) 3 (.slice (some ad) l3.length c3) rfl),(y0)⟩ (fun hHeld=>?_)
       refine with_tabW mkFuncC.tab13 mkFuncC.bits13 (fun HT_ HW_=>?_)
       have X13:=blk_drew X1
       have X23:=blk_drew X2
       have X33:=blk_drew X3
       have HB3:=below_drew1 HB
       have R3:=Kd.R_drew RA.out
       have QA3:=Kd.R_drew QA.out
       have QS3:=Kd.R_drew QS.out
       generalize wr.drew=w5 at hHeld X13 X23 X33 HB3 R3 QA3 QS3 ⊢
       refine pu_ 0 94 HT_ ?_
       refine pu_ 2 96 HT_ ?_
       refine pu_ 4 98 HT_ ?_
       refine tk_ 1 95 HT_ HW_ hHeld ?_ (hy:=by rintro w' ⟨s0,s1,s2⟩;go_simp;with_reducible rfl)
       refine tk_ 3 97 HT_ HW_ hHeld ?_ (hy:=by rintro w' ⟨s0,s1,s2⟩;go_simp;with_reducible rfl)
       refine pu_ 5 99 HT_ ?_
       refine tk_ 6 100 HT_ HW_ hHeld ?_ (hy:=by rintro w' ⟨s0,s1,s2⟩;go_simp;with_reducible rfl)
       refine on_ 7 (some 101) HT_ (fun K hK=>?_)
       refine gs_ Try.func24 #[.int .u8 (rd l3 i)] ?_
       refine (jacquardref27_wide.calls (rd l3 i) wd _ hwd).mono ?_
       rintro e w6 ⟨rfl,hb6⟩
       refine ⟨_,rfl,?_⟩
       have h6:=hHeld
       replace X13:=blk_below X13 hb6
       replace X23:=blk_below X23 hb6
       replace X33:=blk_below X33 hb6
       replace HB3:=below_weaken HB3 (below_size HB3) hb6
       replace R3:=Kd.R_below R3 hb6
       replace QA3:=Kd.R_below QA3 hb6
       replace QS3:=Kd.R_below QS3 hb6
       refine hK.out _ _ ⟨pw_cell_below hb6 h6.1,pw_cell_below hb6 h6.2.1,pw_cell_below hb6 h6.2.2⟩ (fun hHeld=>?_);clear hK K
       refine no_ 101 ?_
       refine on_ 8 (some 102) HT_ (fun K hK=>?_)
       refine value_ (w1:=?_) (v:=?_) (by rfl) rfl ?_ ?_;rotate_left 2;(go_simp;constructor);(rfl);(rfl)
       have h7:=hHeld
       refine hK.out _ _ ⟨pw_cell_below (below_alloc (Below.refl _ _) _) h7.1,pw_cell_below (below_alloc (Below.refl _ _) _) h7.2.1,pw_cell_below (below_alloc (Below.refl _ _) _) h7.2.2⟩ (fun hHeld=>?_);clear hK K
       refine no_ 102 ?_
       refine on_ 9 (some 103) HT_ (fun K hK=>?_)
       refine Kd.R_append_step (Kd.int .i64) (w0:=w) w.heap.size (by rfl) (.tmp 95) (.tmp 102) 29 3 (.int .i64 0) 8 rfl Try.underlying29 info3 rfl (by decide) (by omega) (.slice AA acc.length cA) acc wd [.int .i64 wd] (fun _=>True) (fun _=>False) rfl rfl ?aP (fun _ hk=>hk.elim) (fun _ _=>trivial) R3 HB3 (below_size HB3) ?aL ?_
       (case aP=>exact rfl)
       (case aL=>have:=HI.out;have:=hlim.out;have:=hlt.out;omega)
       intro v9 w9 ho hb9 hg9 hat
       obtain ⟨A9,c9,e9⟩:=Kd.R_slice ho
       rw [List.length_append,List.length_singleton] at e9
       subst e9
       have X19:=blk_grown X13 hg9 (Kd.R_ne R3 X13 (by decide))
       have X29:=blk_grown X23 hg9 (Kd.R_ne R3 X23 (by decide))
       have X39:=blk_grown X33 hg9 (Kd.R_ne R3 X33 (by decide))
       have QA9:=Kd.R_over' QA3 (Kd.R_typed R3) (by decide) hg9
       have QS9:=Kd.R_over' QS3 (Kd.R_typed R3) (by decide) hg9
       obtain ⟨ad9,e9,z0⟩:=Kd.at_int (Kd.C_below hr3.out hb9) i HI.out.1 hlt.out
       cases e9
       refine hK.out _ _ ⟨own_cell X39 4 (.slice AA acc.length cA) rfl,own_cell X19 3 (.slice (some ad) l3.length c3) rfl,z0⟩ (fun hHeld=>?_);clear hK K
       refine no_ 103 ?_
       refine pu_ 10 104 HT_ ?_
       refine la_ 11 none HT_ (fun K hK=>?_)
       have s1:=blk_frozen X39 4
       have s2:=own_cell X39 4 (.slice AA acc.length cA) rfl
       refine skip_ (w1:=?_) (by rfl) rfl ?_ ?_;rotate_left;(go_simp)
       rfl
       clear s1 s2
       refine hK.out _ _ ?_;clear hK K
       refine done_ (done_of HT_.out (by kernel_rfl)) ?_
       have Y3:=blk_put X39 4 (.slice A9 (acc.length+1) c9) rfl
       have Y1:=blk_far X19 (p:=⟨g3,4,none⟩) n13 (.slice A9 (acc.length+1) c9)
       have Y2:=blk_far X29 (p:=⟨g3,4,none⟩) n23 (.slice A9 (acc.length+1) c9)
       have YR:=Kd.R_set ho X39 (by decide) 4 (.slice A9 (acc.length+1) c9)
       have YQA:=Kd.R_set QA9 X39 (by decide) 4 (.slice A9 (acc.length+1) c9)
       have YQS:=Kd.R_set QS9 X39 (by decide) 4 (.slice A9 (acc.length+1) c9)
       have YB:=below_set hb9 (g:=g3) (j:=4) (v:=.slice A9 (acc.length+1) c9) hg3w
       clear hHeld h6 h7 X13 X23 X33 HB3 R3 X19 X29 X39 ho hb9 hg9 hat z0 QA3 QA9 QS3 QS9
       generalize World.setCell _ _ _=w10 at Y3 Y1 Y2 YR YQA YQS YB ⊢
       go_wp2
       go_roundg kq
       case measure=>omega
       case rel=>exact ⟨wrap64 (i+1),acc++[wd],.slice A9 (acc.length+1) c9,rfl,⟨by have:=HI.out;rw [hwi.out,List.length_append,List.length_singleton];omega⟩,⟨by rw [hwi.out];exact HL'⟩,⟨YR⟩,⟨Y3⟩,⟨YQA⟩,⟨YQS⟩,⟨Y1⟩,⟨Y2⟩,⟨YB⟩⟩
      ·have e0:decide (i<(l3.length:Int))=false:=decide_eq_false hlt
       have e1:gk=0:=by have:=HI.out;omega
       subst e1
       have eL:=HL.out
       rw [mkRts] at eL
       injection eL with eL
       replace eL:=eL.symm
       subst eL
       replace hlt:=Aside0.mk hlt
       clear HI HL
       go_wp2
       clear c3_
       generalize (Value.slice AA rt.length cA)=vR0 at X3 RA
       have QR:=RA
       clear RA
       generalize hN:(if (l4.length:Int)<1 then (1:Nat) else l4.length)=N at hBk
       have hN1:N≤1000∧1≤N:=by have:=hlim.out;split at hN <;> omega
       replace hN:=Aside0.mk hN
       replace hN1:=Aside0.mk hN1
       go_loopg [7] N (fun kq v7 w'=>∃ (i:Int) (ws:List Int) (bl:List S53) (vW vB:Value),v7 = .int .i64 i∧Aside0 (0≤i∧i+kq=N∧(bl.length:Int)=i)∧Aside0 ((ws.length:Int)≤1000000∧(ws.length:Int)≤1000*i)∧Aside0 (mkBlks l0 l4 kq i ws bl=some (wsF,blF))∧Aside0 (Kd.R (Kd.int .i64) 3 w' w.heap.size (fun k=>some k≠vR0.ownBlock) vW ws)∧Aside0 (Kd.S k53 53 w' w.heap.size (fun k=>some k≠vW.ownBlock∧some k≠vR0.ownBlock) vB bl)∧Aside0 (Kd.R (Kd.int .i64) 3 w' w.heap.size (fun k=>some k≠vW.ownBlock) vR0 rt)∧Aside0 (Kd.R k78 78 w' w.heap.size (fun _=>True) vA0 ar)∧Aside0 (Kd.R k80 80 w' w.heap.size (fun _=>True) vS0 st)∧Aside0 (w'.heap[g3]? = some (.cells #[.string ⟨#[102]⟩,vW,vA0,vS0,vR0,vB] 34 (0,0)))∧Aside0 (w'.heap[g1]? = some (.cells #[.slice A0 l0.length c0,.slice A1 l1.length c1,.slice A2 l2.length c2,.slice A3 l3.length c3,.slice A4 l4.length c4] 26 (0,0)))∧Aside0 (w'.heap[g2]? = some (.cells #[.string ⟨#[]⟩,.slice none 0 0,.slice none 0 0,.slice none 0 0,.slice none 0 0,.slice none 0 0] 34 (0,0)))∧Aside0 (Below w.heap.size w w'))
       case atStart=>exact ⟨0,[],[],.slice none 0 0,.slice none 0 0,rfl,⟨by have:=hN1.out;simp⟩,⟨by simp⟩,hBk,⟨Kd.R_nil _ _ _ _ _⟩,⟨Kd.S_nil _ _ _ _ _⟩,⟨Kd.R_mono QR.out (fun k _=>by simp [Value.ownBlock])⟩,QA,QS,⟨X3⟩,⟨X1⟩,⟨X2⟩,⟨HB⟩⟩
       case round=>
        clear X3 X1 X2 HB QA QS QR
        obtain ⟨i,ws,bl,vW,vB,rfl,HI,HWl,HL,RW,SB,QR,QA,QS,⟨X3⟩,⟨X1⟩,⟨X2⟩,⟨HB⟩⟩:=hrel
        have c4_:=own_cell X1 4 (.slice A4 l4.length c4) rfl
        go_upto_region 15 with (fail)
        go_cut [110] (fun v110 wc=>∃ x:Bool,v110 = .bool x∧Aside0 (x=decide (i<(N:Int)))∧Aside0 (wc=wr))
        case first=>
         by_cases hm:(l4.length:Int)<1
         ·have hmE:=eq_true hm
          have eN:N=1:=by rw [← hN.out,if_pos hm]
          by_cases hi:i<1
          ·have hd:decide (i<1)=true:=decide_eq_true hi
           have hq:true=decide (i<(N:Int)):=by rw [eN];exact hd.symm
           replace hq:=Aside0.mk hq
           clear hm
           replace hi:=Aside0.mk hi
           replace eN:=Aside0.mk eN
           go_wp2
           go_meet
           case rel=>exact ⟨true,rfl,hq,⟨rfl⟩⟩
          ·have hd:decide (i<1)=false:=decide_eq_false hi
           have hq:false=decide (i<(N:Int)):=by rw [eN];exact hd.symm
           replace hq:=Aside0.mk hq
           clear hm
           replace hi:=Aside0.mk hi
           replace eN:=Aside0.mk eN
           go_wp2
           go_meet
           case rel=>exact ⟨false,rfl,hq,⟨rfl⟩⟩
         ·have hmE:=eq_false hm
          have eN:N=l4.length:=by rw [← hN.out,if_neg hm]
          by_cases hi:i<(l4.length:Int)
          ·have hd:decide (i<(l4.length:Int))=true:=decide_eq_true hi
           have hq:true=decide (i<(N:Int)):=by rw [eN];exact hd.symm
           replace hq:=Aside0.mk hq
           clear hm
           replace hi:=Aside0.mk hi
           replace eN:=Aside0.mk eN
           go_wp2
           go_meet
           case rel=>exact ⟨true,rfl,hq,⟨rfl⟩⟩
          ·have hd:decide (i<(l4.length:Int))=false:=decide_eq_false hi
           have hq:false=decide (i<(N:Int)):=by rw [eN];exact hd.symm
           replace hq:=Aside0.mk hq
           clear hm
           replace hi:=Aside0.mk hi
           replace eN:=Aside0.mk eN
           go_wp2
           go_meet
           case rel=>exact ⟨false,rfl,hq,⟨rfl⟩⟩
        obtain ⟨x,rfl,HXd,Hwc⟩:=hcut
        rw [Hwc.out]
        clear Hwc wc
        clear c4_
        by_cases hlt:i<(N:Int)
        ·obtain rfl:x=true:=by rw [HXd.out];exact decide_eq_true hlt
         clear HXd
         obtain ⟨kq,rfl⟩:∃ q,gk=q+1:=⟨gk - 1,by have:=HI.out;omega⟩
         have HL':=HL.out
         rw [mkBlks] at HL'
         by_cases hPLl:(if i>0 then (rd_T75 l4 i).f0 else l0).length≤1000
         case neg=>rw [if_neg hPLl] at HL';exact absurd HL' (by simp)
         rw [if_pos hPLl] at HL'
         replace hPLl:=Aside0.mk hPLl
         obtain ⟨⟨ws2,ps2⟩,hPar,HL'⟩:=Option.bind_eq_some_iff.mp HL'
         replace hPar:=Aside0.mk hPar
         replace HL':=Aside0.mk HL'
         have hi4:i>0→i<(l4.length:Int):=by intro h;have h1:=hN.out;have h2:=HI.out;split at h1 <;> omega
         replace hi4:=Aside0.mk hi4
         have hwi:wrap64 (i+1)=i+1:=w64m _ (by have:=HI.out.1;omega) (by have:=HI.out;have:=hN1.out;omega)
         replace hwi:=Aside0.mk hwi
         replace hlt:=Aside0.mk hlt
         have c0_:=own_cell X1 0 (.slice A0 l0.length c0) rfl
         have c4_:=own_cell X1 4 (.slice A4 l4.length c4) rfl
         go_upto_if 116 with (fail)
         go_cut [8] (fun v8 wc=>∃ (AL:Option Addr) (cL:Nat) (L:List Int),v8 = .slice AL L.length cL∧Aside0 (L=(if i>0 then (rd_T75 l4 i).f0 else l0))∧Aside0 ((Kd.int .u8).C w AL L.length L)∧Aside0 (wc=wr))
         case first=>
          by_cases hp:i>0
          ·have hp0:decide (i>0)=true:=decide_eq_true hp
           obtain ⟨ad,aA,aC,bA,bC,ea,y0,y1,y2,y3,y4,y5,y6,_,yC,_⟩:=at_T75 hr4.out i HI.out.1 (hi4.out hp)
           cases ea
           have y0:=pw_cell_below HB y0
           have p0:(0≤i)=True:=eq_true HI.out.1
           have q0:(i<(l4.length:Int))=True:=eq_true (hi4.out hp)
           have hq:(rd_T75 l4 i).f0=(if i>0 then (rd_T75 l4 i).f0 else l0):=(if_pos hp).symm
           replace hq:=Aside0.mk hq
           replace hp:=Aside0.mk hp
           try simp only [hp0]
           go_wp2
           go_meet
           case rel=>exact ⟨aA,aC,_,rfl,hq,⟨yC⟩,⟨rfl⟩⟩
          ·have hp0:decide (i>0)=false:=decide_eq_false hp
           have hq:l0=(if i>0 then (rd_T75 l4 i).f0 else l0):=(if_neg hp).symm
           replace hq:=Aside0.mk hq
           replace hp:=Aside0.mk hp
           try simp only [hp0]
           go_wp2
           go_meet
           case rel=>exact ⟨A0,c0,_,rfl,hq,hr0,⟨rfl⟩⟩
         obtain ⟨AL,cL,L,rfl,HLq,CL,Hwc⟩:=hcut
         rw [Hwc.out]
         clear Hwc wc
         clear c0_ c4_
         replace hPar:Aside0 (mkPars L L.length 0 ws []=some (ws2,ps2)):=⟨by rw [HLq.out];exact hPar.out⟩
         go_upto_region 21 with (first | ((with_reducible refine gate_dst (N:=9) rfl ?_);refine box_event ?hg (N:=9) ?hd (cs := #[.slice none 0 0,.slice none 0 0,.int .i64 0,.int .i64 0,.slice none 0 0,.slice none 0 0,.int .i64 0,.int .i64 0,.int .i64 0]) (t:=53) ?hr ?_;(case hd=>rfl);(case hg=>rfl);(case hr=>first | (go_simp;done) | (go_simp;rfl));intro g9 hg9 w9 hbox9 hb9;replace hg9:=Aside0.mk hg9;have f0:=blk_frozen hbox9 0;have f1:=blk_frozen hbox9 1;have f2:=blk_frozen hbox9 2;have f3:=blk_frozen hbox9 3;have f4:=blk_frozen hbox9 4;have f5:=blk_frozen hbox9 5;have f6:=blk_frozen hbox9 6;have f7:=blk_frozen hbox9 7;have f8:=blk_frozen hbox9 8;have d0:w9.cell? ⟨g9,0,none⟩=some (.slice none 0 0):=(blk_cell hbox9 0).trans rfl;have d1:w9.cell? ⟨g9,1,none⟩=some (.slice none 0 0):=(blk_cell hbox9 1).trans rfl;have d2:w9.cell? ⟨g9,2,none⟩=some (.int .i64 0):=(blk_cell hbox9 2).trans rfl;have d3:w9.cell? ⟨g9,3,none⟩=some (.int .i64 0):=(blk_cell hbox9 3).trans rfl;have d4:w9.cell? ⟨g9,4,none⟩=some (.slice none 0 0):=(blk_cell hbox9 4).trans rfl;have d5:w9.cell? ⟨g9,5,none⟩=some (.slice none 0 0):=(blk_cell hbox9 5).trans rfl;have d6:w9.cell? ⟨g9,6,none⟩=some (.int .i64 0):=(blk_cell hbox9 6).trans rfl;have d7:w9.cell? ⟨g9,7,none⟩=some (.int .i64 0):=(blk_cell hbox9 7).trans rfl;have d8:w9.cell? ⟨g9,8,none⟩=some (.int .i64 0):=(blk_cell hbox9 8).trans rfl))
         have hL1:L.length≤1000:=by have:=hPLl.out;rw [← HLq.out] at this;exact this
         replace hL1:=Aside0.mk hL1
         have n19:g1≠g9:=by have:=blk_lt X1;have:=hg9.out;omega
         have n29:g2≠g9:=by have:=blk_lt X2;have:=hg9.out;omega
         have n39:g3≠g9:=by have:=blk_lt X3;have:=hg9.out;omega
         have hg9w:w.heap.size≤g9:=by have:=hg9.out;have:=below_size HB;omega
         have SB9a:=Kd.S_mono (Kd.S_below (Kd.S_bound SB.out) hb9) (ok':=fun k=>(some k≠vW.ownBlock∧some k≠vR0.ownBlock)∧k≠g9) (fun k hk=>⟨hk.1,by have:=hk.2.2.1;have:=hg9.out;omega⟩)
         have X9:=(blk_put (blk_put (blk_put (blk_put (blk_put (blk_put (blk_put (blk_put (blk_put hbox9 0 (.slice none 0 0) rfl) 1 (.slice none 0 0) rfl) 2 (.int .i64 0) rfl) 3 (.int .i64 0) rfl) 4 (.slice none 0 0) rfl) 5 (.slice none 0 0) rfl) 6 (.int .i64 0) rfl) 7 (.int .i64 0) rfl) 8 (.int .i64 0) rfl)
         have Y1:=(blk_far (blk_far (blk_far (blk_far (blk_far (blk_far (blk_far (blk_far (blk_far (blk_below X1 hb9) (p:=⟨g9,0,none⟩) n19 (.slice none 0 0)) (p:=⟨g9,1,none⟩) n19 (.slice none 0 0)) (p:=⟨g9,2,none⟩) n19 (.int .i64 0)) (p:=⟨g9,3,none⟩) n19 (.int .i64 0)) (p:=⟨g9,4,none⟩) n19 (.slice none 0 0)) (p:=⟨g9,5,none⟩) n19 (.slice none 0 0)) (p:=⟨g9,6,none⟩) n19 (.int .i64 0)) (p:=⟨g9,7,none⟩) n19 (.int .i64 0)) (p:=⟨g9,8,none⟩) n19 (.int .i64 0))
         have Y2:=(blk_far (blk_far (blk_far (blk_far (blk_far (blk_far (blk_far (blk_far (blk_far (blk_below X2 hb9) (p:=⟨g9,0,none⟩) n29 (.slice none 0 0)) (p:=⟨g9,1,none⟩) n29 (.slice none 0 0)) (p:=⟨g9,2,none⟩) n29 (.int .i64 0)) (p:=⟨g9,3,none⟩) n29 (.int .i64 0)) (p:=⟨g9,4,none⟩) n29 (.slice none 0 0)) (p:=⟨g9,5,none⟩) n29 (.slice none 0 0)) (p:=⟨g9,6,none⟩) n29 (.int .i64 0)) (p:=⟨g9,7,none⟩) n29 (.int .i64 0)) (p:=⟨g9,8,none⟩) n29 (.int .i64 0))
         have Y3:=(blk_far (blk_far (blk_far (blk_far (blk_far (blk_far (blk_far (blk_far (blk_far (blk_below X3 hb9) (p:=⟨g9,0,none⟩) n39 (.slice none 0 0)) (p:=⟨g9,1,none⟩) n39 (.slice none 0 0)) (p:=⟨g9,2,none⟩) n39 (.int .i64 0)) (p:=⟨g9,3,none⟩) n39 (.int .i64 0)) (p:=⟨g9,4,none⟩) n39 (.slice none 0 0)) (p:=⟨g9,5,none⟩) n39 (.slice none 0 0)) (p:=⟨g9,6,none⟩) n39 (.int .i64 0)) (p:=⟨g9,7,none⟩) n39 (.int .i64 0)) (p:=⟨g9,8,none⟩) n39 (.int .i64 0))
         have YRW:=(Kd.R_set (Kd.R_set (Kd.R_set (Kd.R_set (Kd.R_set (Kd.R_set (Kd.R_set (Kd.R_set (Kd.R_set (Kd.R_below RW.out hb9) hbox9 (by decide) 0 (.slice none 0 0)) (blk_put hbox9 0 (.slice none 0 0) rfl) (by decide) 1 (.slice none 0 0)) (blk_put (blk_put hbox9 0 (.slice none 0 0) rfl) 1 (.slice none 0 0) rfl) (by decide) 2 (.int .i64 0)) (blk_put (blk_put (blk_put hbox9 0 (.slice none 0 0) rfl) 1 (.slice none 0 0) rfl) 2 (.int .i64 0) rfl) (by decide) 3 (.int .i64 0)) (blk_put (blk_put (blk_put (blk_put hbox9 0 (.slice none 0 0) rfl) 1 (.slice none 0 0) rfl) 2 (.int .i64 0) rfl) 3 (.int .i64 0) rfl) (by decide) 4 (.slice none 0 0)) (blk_put (blk_put (blk_put (blk_put (blk_put hbox9 0 (.slice none 0 0) rfl) 1 (.slice none 0 0) rfl) 2 (.int .i64 0) rfl) 3 (.int .i64 0) rfl) 4 (.slice none 0 0) rfl) (by decide) 5 (.slice none 0 0)) (blk_put (blk_put (blk_put (blk_put (blk_put (blk_put hbox9 0 (.slice none 0 0) rfl) 1 (.slice none 0 0) rfl) 2 (.int .i64 0) rfl) 3 (.int .i64 0) rfl) 4 (.slice none 0 0) rfl) 5 (.slice none 0 0) rfl) (by decide) 6 (.int .i64 0)) (blk_put (blk_put (blk_put (blk_put (blk_put (blk_put (blk_put hbox9 0 (.slice none 0 0) rfl) 1 (.slice none 0 0) rfl) 2 (.int .i64 0) rfl) 3 (.int .i64 0) rfl) 4 (.slice none 0 0) rfl) 5 (.slice none 0 0) rfl) 6 (.int .i64 0) rfl) (by decide) 7 (.int .i64 0)) (blk_put (blk_put (blk_put (blk_put (blk_put (blk_put (blk_put (blk_put hbox9 0 (.slice none 0 0) rfl) 1 (.slice none 0 0) rfl) 2 (.int .i64 0) rfl) 3 (.int .i64 0) rfl) 4 (.slice none 0 0) rfl) 5 (.slice none 0 0) rfl) 6 (.int .i64 0) rfl) 7 (.int .i64 0) rfl) (by decide) 8 (.int .i64 0))
         have YQR:=(Kd.R_set (Kd.R_set (Kd.R_set (Kd.R_set (Kd.R_set (Kd.R_set (Kd.R_set (Kd.R_set (Kd.R_set (Kd.R_below QR.out hb9) hbox9 (by decide) 0 (.slice none 0 0)) (blk_put hbox9 0 (.slice none 0 0) rfl) (by decide) 1 (.slice none 0 0)) (blk_put (blk_put hbox9 0 (.slice none 0 0) rfl) 1 (.slice none 0 0) rfl) (by decide) 2 (.int .i64 0)) (blk_put (blk_put (blk_put hbox9 0 (.slice none 0 0) rfl) 1 (.slice none 0 0) rfl) 2 (.int .i64 0) rfl) (by decide) 3 (.int .i64 0)) (blk_put (blk_put (blk_put (blk_put hbox9 0 (.slice none 0 0) rfl) 1 (.slice none 0 0) rfl) 2 (.int .i64 0) rfl) 3 (.int .i64 0) rfl) (by decide) 4 (.slice none 0 0)) (blk_put (blk_put (blk_put (blk_put (blk_put hbox9 0 (.slice none 0 0) rfl) 1 (.slice none 0 0) rfl) 2 (.int .i64 0) rfl) 3 (.int .i64 0) rfl) 4 (.slice none 0 0) rfl) (by decide) 5 (.slice none 0 0)) (blk_put (blk_put (blk_put (blk_put (blk_put (blk_put hbox9 0 (.slice none 0 0) rfl) 1 (.slice none 0 0) rfl) 2 (.int .i64 0) rfl) 3 (.int .i64 0) rfl) 4 (.slice none 0 0) rfl) 5 (.slice none 0 0) rfl) (by decide) 6 (.int .i64 0)) (blk_put (blk_put (blk_put (blk_put (blk_put (blk_put (blk_put hbox9 0 (.slice none 0 0) rfl) 1 (.slice none 0 0) rfl) 2 (.int .i64 0) rfl) 3 (.int .i64 0) rfl) 4 (.slice none 0 0) rfl) 5 (.slice none 0 0) rfl) 6 (.int .i64 0) rfl) (by decide) 7 (.int .i64 0)) (blk_put (blk_put (blk_put (blk_put (blk_put (blk_put (blk_put (blk_put hbox9 0 (.slice none 0 0) rfl) 1 (.slice none 0 0) rfl) 2 (.int .i64 0) rfl) 3 (.int .i64 0) rfl) 4 (.slice none 0 0) rfl) 5 (.slice none 0 0) rfl) 6 (.int .i64 0) rfl) 7 (.int .i64 0) rfl) (by decide) 8 (.int .i64 0))
         have YQA:=(Kd.R_set (Kd.R_set (Kd.R_set (Kd.R_set (Kd.R_set (Kd.R_set (Kd.R_set (Kd.R_set (Kd.R_set (Kd.R_below QA.out hb9) hbox9 (by decide) 0 (.slice none 0 0)) (blk_put hbox9 0 (.slice none 0 0) rfl) (by decide) 1 (.slice none 0 0)) (blk_put (blk_put hbox9 0 (.slice none 0 0) rfl) 1 (.slice none 0 0) rfl) (by decide) 2 (.int .i64 0)) (blk_put (blk_put (blk_put hbox9 0 (.slice none 0 0) rfl) 1 (.slice none 0 0) rfl) 2 (.int .i64 0) rfl) (by decide) 3 (.int .i64 0)) (blk_put (blk_put (blk_put (blk_put hbox9 0 (.slice none 0 0) rfl) 1 (.slice none 0 0) rfl) 2 (.int .i64 0) rfl) 3 (.int .i64 0) rfl) (by decide) 4 (.slice none 0 0)) (blk_put (blk_put (blk_put (blk_put (blk_put hbox9 0 (.slice none 0 0) rfl) 1 (.slice none 0 0) rfl) 2 (.int .i64 0) rfl) 3 (.int .i64 0) rfl) 4 (.slice none 0 0) rfl) (by decide) 5 (.slice none 0 0)) (blk_put (blk_put (blk_put (blk_put (blk_put (blk_put hbox9 0 (.slice none 0 0) rfl) 1 (.slice none 0 0) rfl) 2 (.int .i64 0) rfl) 3 (.int .i64 0) rfl) 4 (.slice none 0 0) rfl) 5 (.slice none 0 0) rfl) (by decide) 6 (.int .i64 0)) (blk_put (blk_put (blk_put (blk_put (blk_put (blk_put (blk_put hbox9 0 (.slice none 0 0) rfl) 1 (.slice none 0 0) rfl) 2 (.int .i64 0) rfl) 3 (.int .i64 0) rfl) 4 (.slice none 0 0) rfl) 5 (.slice none 0 0) rfl) 6 (.int .i64 0) rfl) (by decide) 7 (.int .i64 0)) (blk_put (blk_put (blk_put (blk_put (blk_put (blk_put (blk_put (blk_put hbox9 0 (.slice none 0 0) rfl) 1 (.slice none 0 0) rfl) 2 (.int .i64 0) rfl) 3 (.int .i64 0) rfl) 4 (.slice none 0 0) rfl) 5 (.slice none 0 0) rfl) 6 (.int .i64 0) rfl) 7 (.int .i64 0) rfl) (by decide) 8 (.int .i64 0))
         have YQS:=(Kd.R_set (Kd.R_set (Kd.R_set (Kd.R_set (Kd.R_set (Kd.R_set (Kd.R_set (Kd.R_set (Kd.R_set (Kd.R_below QS.out hb9) hbox9 (by decide) 0 (.slice none 0 0)) (blk_put hbox9 0 (.slice none 0 0) rfl) (by decide) 1 (.slice none 0 0)) (blk_put (blk_put hbox9 0 (.slice none 0 0) rfl) 1 (.slice none 0 0) rfl) (by decide) 2 (.int .i64 0)) (blk_put (blk_put (blk_put hbox9 0 (.slice none 0 0) rfl) 1 (.slice none 0 0) rfl) 2 (.int .i64 0) rfl) (by decide) 3 (.int .i64 0)) (blk_put (blk_put (blk_put (blk_put hbox9 0 (.slice none 0 0) rfl) 1 (.slice none 0 0) rfl) 2 (.int .i64 0) rfl) 3 (.int .i64 0) rfl) (by decide) 4 (.slice none 0 0)) (blk_put (blk_put (blk_put (blk_put (blk_put hbox9 0 (.slice none 0 0) rfl) 1 (.slice none 0 0) rfl) 2 (.int .i64 0) rfl) 3 (.int .i64 0) rfl) 4 (.slice none 0 0) rfl) (by decide) 5 (.slice none 0 0)) (blk_put (blk_put (blk_put (blk_put (blk_put (blk_put hbox9 0 (.slice none 0 0) rfl) 1 (.slice none 0 0) rfl) 2 (.int .i64 0) rfl) 3 (.int .i64 0) rfl) 4 (.slice none 0 0) rfl) 5 (.slice none 0 0) rfl) (by decide) 6 (.int .i64 0)) (blk_put (blk_put (blk_put (blk_put (blk_put (blk_put (blk_put hbox9 0 (.slice none 0 0) rfl) 1 (.slice none 0 0) rfl) 2 (.int .i64 0) rfl) 3 (.int .i64 0) rfl) 4 (.slice none 0 0) rfl) 5 (.slice none 0 0) rfl) 6 (.int .i64 0) rfl) (by decide) 7 (.int .i64 0)) (blk_put (blk_put (blk_put (blk_put (blk_put (blk_put (blk_put (blk_put hbox9 0 (.slice none 0 0) rfl) 1 (.slice none 0 0) rfl) 2 (.int .i64 0) rfl) 3 (.int .i64 0) rfl) 4 (.slice none 0 0) rfl) 5 (.slice none 0 0) rfl) 6 (.int .i64 0) rfl) 7 (.int .i64 0) rfl) (by decide) 8 (.int .i64 0))
         have YSB:=(Kd.S_far (Kd.S_far (Kd.S_far (Kd.S_far (Kd.S_far (Kd.S_far (Kd.S_far (Kd.S_far (Kd.S_far SB9a (p:=⟨g9,0,none⟩) (fun k hk=>hk.2) (.slice none 0 0)) (p:=⟨g9,1,none⟩) (fun k hk=>hk.2) (.slice none 0 0)) (p:=⟨g9,2,none⟩) (fun k hk=>hk.2) (.int .i64 0)) (p:=⟨g9,3,none⟩) (fun k hk=>hk.2) (.int .i64 0)) (p:=⟨g9,4,none⟩) (fun k hk=>hk.2) (.slice none 0 0)) (p:=⟨g9,5,none⟩) (fun k hk=>hk.2) (.slice none 0 0)) (p:=⟨g9,6,none⟩) (fun k hk=>hk.2) (.int .i64 0)) (p:=⟨g9,7,none⟩) (fun k hk=>hk.2) (.int .i64 0)) (p:=⟨g9,8,none⟩) (fun k hk=>hk.2) (.int .i64 0))
         have YB:=(below_set (below_set (below_set (below_set (below_set (below_set (below_set (below_set (below_set (below_weaken HB (below_size HB) hb9) (g:=g9) (j:=0) (v:=(.slice none 0 0)) hg9w) (g:=g9) (j:=1) (v:=(.slice none 0 0)) hg9w) (g:=g9) (j:=2) (v:=(.int .i64 0)) hg9w) (g:=g9) (j:=3) (v:=(.int .i64 0)) hg9w) (g:=g9) (j:=4) (v:=(.slice none 0 0)) hg9w) (g:=g9) (j:=5) (v:=(.slice none 0 0)) hg9w) (g:=g9) (j:=6) (v:=(.int .i64 0)) hg9w) (g:=g9) (j:=7) (v:=(.int .i64 0)) hg9w) (g:=g9) (j:=8) (v:=(.int .i64 0)) hg9w)
         clear X1 X2 X3 RW SB QR QA QS HB SB9a hbox9 hb9 f0 f1 f2 f3 f4 f5 f6 f7 f8 d0 d1 d2 d3 d4 d5 d6 d7 d8
         generalize World.setCell _ _ _=w10 at X9 Y1 Y2 Y3 YRW YQR YQA YQS YSB YB ⊢
         go_wp2
         go_loopg [10] L.length (fun kp v10 w'=>∃ (j:Int) (ws' ps:List Int) (vW vX:Value),v10 = .int .i64 j∧Aside0 (0≤j∧j+kp=L.length∧(ps.length:Int)=j)∧Aside0 ((ws'.length:Int)=ws.length+j)∧Aside0 (mkPars L kp j ws' ps=some (ws2,ps2))∧Aside0 (Kd.R (Kd.int .i64) 3 w' w.heap.size (fun k=>some k≠vR0.ownBlock∧some k≠vX.ownBlock) vW ws')∧Aside0 (Kd.S k53 53 w' w.heap.size (fun k=>((some k≠vW.ownBlock∧some k≠vR0.ownBlock)∧some k≠vX.ownBlock)∧k≠g9) vB bl)∧Aside0 (Kd.R (Kd.int .i64) 3 w' w.heap.size (fun k=>some k≠vW.ownBlock∧some k≠vX.ownBlock) vR0 rt)∧Aside0 (Kd.R k78 78 w' w.heap.size (fun _=>True) vA0 ar)∧Aside0 (Kd.R k80 80 w' w.heap.size (fun _=>True) vS0 st)∧Aside0 (Kd.R (Kd.int .i64) 3 w' w.heap.size (fun k=>some k≠vR0.ownBlock∧some k≠vW.ownBlock) vX ps)∧Aside0 (w'.heap[g9]? = some (.cells #[vX,.slice none 0 0,.int .i64 0,.int .i64 0,.slice none 0 0,.slice none 0 0,.int .i64 0,.int .i64 0,.int .i64 0] 53 (0,0)))∧Aside0 (w'.heap[g3]? = some (.cells #[.string ⟨#[102]⟩,vW,vA0,vS0,vR0,vB] 34 (0,0)))∧Aside0 (w'.heap[g1]? = some (.cells #[.slice A0 l0.length c0,.slice A1 l1.length c1,.slice A2 l2.length c2,.slice A3 l3.length c3,.slice A4 l4.length c4] 26 (0,0)))∧Aside0 (w'.heap[g2]? = some (.cells #[.string ⟨#[]⟩,.slice none 0 0,.slice none 0 0,.slice none 0 0,.slice none 0 0,.slice none 0 0] 34 (0,0)))∧Aside0 (Below w.heap.size w w'))
         case atStart=>exact ⟨0,ws,[],vW,.slice none 0 0,rfl,⟨by simp⟩,⟨by simp⟩,hPar,⟨Kd.R_mono YRW (fun k hk=>⟨hk,by simp [Value.ownBlock]⟩)⟩,⟨Kd.S_mono YSB (fun k hk=>⟨⟨hk.1,by simp [Value.ownBlock]⟩,hk.2⟩)⟩,⟨Kd.R_mono YQR (fun k hk=>⟨hk,by simp [Value.ownBlock]⟩)⟩,⟨YQA⟩,⟨YQS⟩,⟨Kd.R_nil _ _ _ _ _⟩,⟨X9⟩,⟨Y3⟩,⟨Y1⟩,⟨Y2⟩,⟨YB⟩⟩
         case round=>
          clear X9 Y1 Y2 Y3 YRW YQR YQA YQS YSB YB
          obtain ⟨j,ws',ps,vW,vX,rfl,HI2,HW2,HL2,RW,SB,QR,QA,QS,RX,⟨X9⟩,⟨X3⟩,⟨X1⟩,⟨X2⟩,⟨HB⟩⟩:=hrel
          obtain ⟨AX,cX,rfl⟩:=Kd.R_slice RX.out
          obtain ⟨AW,cW,rfl⟩:=Kd.R_slice RW.out
          by_cases hlt2:j<(L.length:Int)
          ·have e0:decide (j<(L.length:Int))=true:=decide_eq_true hlt2
           obtain ⟨kp2,rfl⟩:∃ q,gk=q+1:=⟨gk - 1,by have:=HI2.out;omega⟩
           have HL2':=HL2.out
           rw [mkPars] at HL2'
           obtain ⟨wd,hwd,HL2'⟩:=Option.bind_eq_some_iff.mp HL2'
           have hwj:wrap64 (j+1)=j+1:=w64m _ (by have:=HI2.out.1;omega) (by have:=HI2.out;have:=hL1.out;omega)
           replace hwj:=Aside0.mk hwj
           have hws:ws'.length≤1002000∧ps.length≤1000:=by have:=HI2.out;have:=HW2.out;have:=HWl.out;have:=hL1.out;omega
           replace hws:=Aside0.mk hws
           have p0:(0≤j)=True:=eq_true HI2.out.1
           have q0:(j<(L.length:Int))=True:=eq_true hlt2
           replace hlt2:=Aside0.mk hlt2
           have d9:=own_cell X9 0 (.slice AX ps.length cX) rfl
           have d3:=own_cell X3 1 (.slice AW ws'.length cW) rfl
           go_upto_region 25 with (first | ((with_reducible refine gate_builtin (b:=.append) (xs := #[.tmp 131,.tmp 135]) rfl ?_);at_builtin;refine Kd.R_append (Kd.int .i64) (w0:=w) w.heap.size rfl (.tmp 131) (.tmp 135) 29 3 (.int .i64 0) 8 rfl Try.underlying29 info3 rfl (by decide) (by omega) (.slice AX ps.length cX) ps (ws'.length:Int) [.int .i64 (ws'.length:Int)] (fun k=>some k≠vR0.ownBlock∧some k≠(Value.slice AW ws'.length cW).ownBlock) (fun _=>False) rfl rfl ?aP (fun _ hk=>hk.elim) ?aF RX.out HB (below_size HB) ?aL ?_;(case aP=>exact rfl);(case aF=>exact (fun k hk=>⟨Kd.fresh' (Kd.R_lt QR.out) k hk,Kd.fresh' (Kd.R_lt RW.out) k hk⟩));(case aL=>have:=hws.out;omega);intro v4 w4 ho hb hg hat;obtain ⟨A5,c5,e5⟩:=Kd.R_slice ho;rw [List.length_append,List.length_singleton] at e5;subst e5;have X9':=blk_grown X9 hg (Kd.R_ne RX.out X9 (by decide));have f9:=blk_frozen X9' 0;have e9:=own_cell X9' 0 (.slice AX ps.length cX) rfl;clear d9 d3;replace hg:=Aside0.mk hg;replace ho:=Aside0.mk ho))
           have Z9:=blk_put X9' 0 (.slice A5 (ps.length+1) c5) rfl
           have Z3:=blk_far (blk_grown X3 hg.out (Kd.R_ne RX.out X3 (by decide))) (p:=⟨g9,0,none⟩) n39 (.slice A5 (ps.length+1) c5)
           have Z1:=blk_far (blk_grown X1 hg.out (Kd.R_ne RX.out X1 (by decide))) (p:=⟨g9,0,none⟩) n19 (.slice A5 (ps.length+1) c5)
           have Z2:=blk_far (blk_grown X2 hg.out (Kd.R_ne RX.out X2 (by decide))) (p:=⟨g9,0,none⟩) n29 (.slice A5 (ps.length+1) c5)
           have ZX:=Kd.R_set ho.out X9' (by decide) 0 (.slice A5 (ps.length+1) c5)
           have ZW:=Kd.R_set (Kd.R_after RW.out hg.out hat) X9' (by decide) 0 (.slice A5 (ps.length+1) c5)
           have ZQ:=Kd.R_set (Kd.R_after QR.out hg.out hat) X9' (by decide) 0 (.slice A5 (ps.length+1) c5)
           have ZA:=Kd.R_set (Kd.R_over' QA.out (Kd.R_typed RX.out) (by decide) hg.out) X9' (by decide) 0 (.slice A5 (ps.length+1) c5)
           have ZS:=Kd.R_set (Kd.R_over' QS.out (Kd.R_typed RX.out) (by decide) hg.out) X9' (by decide) 0 (.slice A5 (ps.length+1) c5)
           have ZB:=Kd.S_far (Kd.S_after (Kd.S_mono SB.out (fun k hk=>(⟨⟨hk.1.1,hk.2⟩,hk.1.2⟩:((some k≠(Value.slice AW ws'.length cW).ownBlock∧some k≠vR0.ownBlock)∧k≠g9)∧some k≠(Value.slice AX ps.length cX).ownBlock))) hg.out hat) (p:=⟨g9,0,none⟩) (fun k hk=>hk.1.2) (.slice A5 (ps.length+1) c5)
           have HB2:=below_set hb (g:=g9) (j:=0) (v:=.slice A5 (ps.length+1) c5) hg9w
           clear X9 X3 X1 X2 RX RW QR QA QS SB HB ho hb hg hat X9' f9 e9
           generalize World.setCell _ _ _=w5 at Z9 Z3 Z1 Z2 ZX ZW ZQ ZA ZS ZB HB2 ⊢
           obtain ⟨ad,e,y0⟩:=Kd.at_int (Kd.C_drew (Kd.C_below CL.out HB2)) j HI2.out.1 hlt2.out
           cases e
           try go_wp2
           refine start_ (n:=11) (S:=fun w'=>w'.cell? ⟨g3,1,none⟩=some (.slice AW ws'.length cW)∧w'.cell? (ad.add j.toNat)=some (.int .u8 (rd L j))) (ds:=[10]) (bz 11 0) (by kernel_rfl) rfl rfl ⟨(own_cell (blk_drew Z3) 1 (.slice AW ws'.length cW) rfl),(y0)⟩ (fun hHeld=>?_)
           refine with_tabW mkFuncD.tab25 mkFuncD.bits25 (fun HT_ HW_=>?_)
           replace Z9:=blk_drew Z9
           replace Z3:=blk_drew Z3
           replace Z1:=blk_drew Z1
           replace Z2:=blk_drew Z2
           replace ZX:=Kd.R_drew ZX
           replace ZW:=Kd.R_drew ZW
           replace ZQ:=Kd.R_drew ZQ
           replace ZA:=Kd.R_drew ZA
           replace ZS:=Kd.R_drew ZS
           replace ZB:=Kd.S_drew ZB
           replace HB2:=below_drew1 HB2
           generalize w5.drew=w6 at hHeld Z9 Z3 Z1 Z2 ZX ZW ZQ ZA ZS ZB HB2 y0 ⊢
           refine pu_ 0 138 HT_ ?_
           refine pu_ 2 140 HT_ ?_
           refine pu_ 3 141 HT_ ?_
           refine pu_ 4 142 HT_ ?_
           refine tk_ 1 139 HT_ HW_ hHeld ?_ (hy:=by rintro w' ⟨s0,s1⟩;go_simp;with_reducible rfl)
           refine tk_ 5 143 HT_ HW_ hHeld ?_ (hy:=by rintro w' ⟨s0,s1⟩;go_simp;with_reducible rfl)
           refine on_ 6 (some 144) HT_ (fun K hK=>?_)
           refine gs_ Try.func24 #[.int .u8 (rd L j)] ?_
           refine (jacquardref27_wide.calls (rd L j) wd _ hwd).mono ?_
           rintro e w7 ⟨rfl,hb7⟩
           refine ⟨_,rfl,?_⟩
           have h6:=hHeld
           replace Z9:=blk_below Z9 hb7
           replace Z3:=blk_below Z3 hb7
           replace Z1:=blk_below Z1 hb7
           replace Z2:=blk_below Z2 hb7
           replace ZX:=Kd.R_below ZX hb7
           replace ZW:=Kd.R_below ZW hb7
           replace ZQ:=Kd.R_below ZQ hb7
           replace ZA:=Kd.R_below ZA hb7
           replace ZS:=Kd.R_below ZS hb7
           replace ZB:=Kd.S_below ZB hb7
           replace HB2:=below_weaken HB2 (below_size HB2) hb7
           refine hK.out _ _ ⟨pw_cell_below hb7 h6.1,pw_cell_below hb7 h6.2⟩ (fun hHeld=>?_);clear hK K
           refine no_ 144 ?_
           refine on_ 7 (some 145) HT_ (fun K hK=>?_)
           refine value_ (w1:=?_) (v:=?_) (by rfl) rfl ?_ ?_;rotate_left 2;(go_simp;constructor);(rfl);(rfl)
           have h7:=hHeld
           refine hK.out _ _ ⟨pw_cell_below (below_alloc (Below.refl _ _) _) h7.1,pw_cell_below (below_alloc (Below.refl _ _) _) h7.2⟩ (fun hHeld=>?_);clear hK K
           refine no_ 145 ?_
           refine on_ 8 (some 146) HT_ (fun K hK=>?_)
           refine Kd.R_append_step (Kd.int .i64) (w0:=w) w.heap.size (by rfl) (.tmp 139) (.tmp 145) 29 3 (.int .i64 0) 8 rfl Try.underlying29 info3 rfl (by decide) (by omega) (.slice AW ws'.length cW) ws' wd [.int .i64 wd] (fun k=>some k≠vR0.ownBlock∧some k≠(Value.slice A5 (ps.length+1) c5).ownBlock) (fun _=>False) rfl rfl ?aP (fun _ hk=>hk.elim) (fun k hk=>⟨Kd.fresh' (Kd.R_lt ZQ) k hk,Kd.fresh' (Kd.R_lt ZX) k hk⟩) ZW HB2 (below_size HB2) ?aL ?_
           (case aP=>exact rfl)
           (case aL=>have:=hws.out;omega)
           intro v8 w8 ho8 hb8 hg8 hat8
           obtain ⟨A8,c8,e8⟩:=Kd.R_slice ho8
           rw [List.length_append,List.length_singleton] at e8
           subst e8
           have X3':=blk_grown Z3 hg8 (Kd.R_ne ZW Z3 (by decide))
           obtain ⟨ad9,e9,z0⟩:=Kd.at_int (Kd.C_below CL.out hb8) j HI2.out.1 hlt2.out
           cases e9
           refine hK.out _ _ ⟨own_cell X3' 1 (.slice AW ws'.length cW) rfl,z0⟩ (fun hHeld=>?_);clear hK K
           refine no_ 146 ?_
           refine pu_ 9 147 HT_ ?_
           refine la_ 10 none HT_ (fun K hK=>?_)
           have s1:=blk_frozen X3' 1
           have s2:=own_cell X3' 1 (.slice AW ws'.length cW) rfl
           refine skip_ (w1:=?_) (by rfl) rfl ?_ ?_;rotate_left;(go_simp)
           rfl
           clear s1 s2
           refine hK.out _ _ ?_;clear hK K
           refine done_ (done_of HT_.out (by kernel_rfl)) ?_
           have U3:=blk_put X3' 1 (.slice A8 (ws'.length+1) c8) rfl
           have U9:=blk_far (blk_grown Z9 hg8 (Kd.R_ne ZW Z9 (by decide))) (p:=⟨g3,1,none⟩) (Ne.symm n39) (.slice A8 (ws'.length+1) c8)
           have U1:=blk_far (blk_grown Z1 hg8 (Kd.R_ne ZW Z1 (by decide))) (p:=⟨g3,1,none⟩) n13 (.slice A8 (ws'.length+1) c8)
           have U2:=blk_far (blk_grown Z2 hg8 (Kd.R_ne ZW Z2 (by decide))) (p:=⟨g3,1,none⟩) n23 (.slice A8 (ws'.length+1) c8)
           have UW:=Kd.R_set ho8 X3' (by decide) 1 (.slice A8 (ws'.length+1) c8)
           have UX:=Kd.R_set (Kd.R_after ZX hg8 hat8) X3' (by decide) 1 (.slice A8 (ws'.length+1) c8)
           have UQ:=Kd.R_mono (Kd.R_set (Kd.R_after (Kd.R_mono ZQ (fun k hk=>⟨hk.2,hk.1⟩)) hg8 hat8) X3' (by decide) 1 (.slice A8 (ws'.length+1) c8)) (fun k hk=>(⟨hk.2,hk.1⟩:some k≠(Value.slice A8 (ws'.length+1) c8).ownBlock∧some k≠(Value.slice A5 (ps.length+1) c5).ownBlock))
           have UA:=Kd.R_set (Kd.R_over' ZA (Kd.R_typed ZW) (by decide) hg8) X3' (by decide) 1 (.slice A8 (ws'.length+1) c8)
           have US:=Kd.R_set (Kd.R_over' ZS (Kd.R_typed ZW) (by decide) hg8) X3' (by decide) 1 (.slice A8 (ws'.length+1) c8)
           have UB:=Kd.S_set (Kd.S_after (Kd.S_mono ZB (fun k hk=>(⟨⟨⟨hk.1.1.2,hk.2⟩,hk.1.2⟩,hk.1.1.1⟩:((some k≠vR0.ownBlock∧some k≠(Value.slice A5 (ps.length+1) c5).ownBlock)∧k≠g9)∧some k≠(Value.slice AW ws'.length cW).ownBlock))) hg8 hat8) X3' (by decide) 1 (.slice A8 (ws'.length+1) c8)
           have HB3:=below_set hb8 (g:=g3) (j:=1) (v:=.slice A8 (ws'.length+1) c8) hg3w
           clear Z9 Z3 Z1 Z2 ZX ZW ZQ ZA ZS ZB HB2 ho8 hb8 hg8 hat8 X3' y0 hHeld h6 h7 z0
           generalize World.setCell _ _ _=w9 at U3 U9 U1 U2 UW UX UQ UA US UB HB3 ⊢
           go_wp2
           go_roundg kp2
           case measure=>omega
           case rel=>exact ⟨wrap64 (j+1),ws'++[wd],ps++[(ws'.length:Int)],.slice A8 (ws'.length+1) c8,.slice A5 (ps.length+1) c5,rfl,⟨by have:=HI2.out;rw [hwj.out,List.length_append,List.length_singleton];omega⟩,⟨by have:=HW2.out;rw [hwj.out,List.length_append,List.length_singleton];omega⟩,⟨by rw [hwj.out];exact HL2'⟩,⟨UW⟩,⟨Kd.S_mono UB (fun k hk=>⟨⟨⟨hk.2,hk.1.1.1⟩,hk.1.1.2⟩,hk.1.2⟩)⟩,⟨UQ⟩,⟨UA⟩,⟨US⟩,⟨UX⟩,⟨U9⟩,⟨U3⟩,⟨U1⟩,⟨U2⟩,⟨HB3⟩⟩
          ·have e0:decide (j<(L.length:Int))=false:=decide_eq_false hlt2
           have e1:gk=0:=by have:=HI2.out;omega
           subst e1
           have eL:=HL2.out
           rw [mkPars] at eL
           injection eL with eL
           injection eL with ew ep
           replace ew:=ew.symm
           replace ep:=ep.symm
           subst ew ep
           have hj:(ps2.length:Int)=j:=HI2.out.2.2
           have hw2:(ws2.length:Int)≤1000000∧(ws2.length:Int)≤1000*(i+1):=by have:=HW2.out;have:=HWl.out;have:=HI.out;have:=hL1.out;have:=hN1.out;have:=HI2.out;omega
           have hbl:bl.length≤1000:=by have:=HI.out;have:=hN1.out;omega
           replace hw2:=Aside0.mk hw2
           replace hj:=Aside0.mk hj
           replace hbl:=Aside0.mk hbl
           replace hlt2:=Aside0.mk hlt2
           have d3:=own_cell X3 5 vB rfl
           have d9_0:=own_cell X9 0 (.slice AX ps2.length cX) rfl
           have d9_1:=own_cell X9 1 (.slice none 0 0) rfl
           have d9_2:=own_cell X9 2 (.int .i64 0) rfl
           have d9_3:=own_cell X9 3 (.int .i64 0) rfl
           have d9_4:=own_cell X9 4 (.slice none 0 0) rfl
           have d9_5:=own_cell X9 5 (.slice none 0 0) rfl
           have d9_6:=own_cell X9 6 (.int .i64 0) rfl
           have d9_7:=own_cell X9 7 (.int .i64 0) rfl
           have d9_8:=own_cell X9 8 (.int .i64 0) rfl
           go_upto_region 16 with (first | ((with_reducible refine gate_builtin (b:=.append) (xs := #[.tmp 149,.tmp 151]) rfl ?_);at_builtin;refine Kd.S_append k53 (w0:=w) w.heap.size rfl (.tmp 149) (.tmp 151) 32 53 (.agg #[.slice none 0 0,.slice none 0 0,.int .i64 0,.int .i64 0,.slice none 0 0,.slice none 0 0,.int .i64 0,.int .i64 0,.int .i64 0]) 136 rfl Try.underlying32 info_Blk rfl (by decide) (by omega) vB bl { z53 with f0:=ps2 } [.slice AX ps2.length cX,.slice none 0 0,.int .i64 0,.int .i64 0,.slice none 0 0,.slice none 0 0,.int .i64 0,.int .i64 0,.int .i64 0] (fun k=>some k≠(Value.slice AW ws2.length cW).ownBlock∧some k≠vR0.ownBlock) (fun k=>some k=(Value.slice AX ps2.length cX).ownBlock) rfl rfl ?aP ?aO ?aF ?aS HB (below_size HB) ?aL ?_;(case aP=>exact k53_mkM _ _ _ { z53 with f0:=ps2 } (Kd.R_tight rfl RX.out) (Kd.R_nil _ _ _ _ _) (Kd.R_nil _ _ _ _ _) (Kd.R_nil _ _ _ _ _));(case aO=>exact (fun k hk=>⟨⟨(RX.out.1 k hk.symm).2,(RX.out.1 k hk.symm).1⟩,fun e=>((Kd.S_R SB.out).1 k e.symm).1.2 hk⟩));(case aF=>exact (fun k hk=>⟨Kd.fresh' (Kd.R_lt RW.out) k hk,Kd.fresh' (Kd.R_lt QR.out) k hk⟩));(case aS=>exact Kd.S_mono SB.out (fun k hk=>⟨hk.1.1,hk.1.2⟩));(case aL=>have:=hbl.out;omega);intro v6 w6 ho hb hg hat;obtain ⟨A6,c6,e6⟩:=Kd.R_slice (Kd.S_R ho);rw [List.length_append,List.length_singleton] at e6;subst e6;have X3':=blk_grown X3 hg (Kd.R_ne (Kd.S_R SB.out) X3 (by decide));have f3:=blk_frozen X3' 5;have e3:=own_cell X3' 5 vB rfl;clear d3 d9_0 d9_1 d9_2 d9_3 d9_4 d9_5 d9_6 d9_7 d9_8;replace hg:=Aside0.mk hg;replace ho:=Aside0.mk ho))
           have U3:=blk_put X3' 5 (.slice A6 (bl.length+1) c6) rfl
           have U1:=blk_far (blk_grown X1 hg.out (Kd.R_ne (Kd.S_R SB.out) X1 (by decide))) (p:=⟨g3,5,none⟩) n13 (.slice A6 (bl.length+1) c6)
           have U2:=blk_far (blk_grown X2 hg.out (Kd.R_ne (Kd.S_R SB.out) X2 (by decide))) (p:=⟨g3,5,none⟩) n23 (.slice A6 (bl.length+1) c6)
           have UW:=Kd.R_set (Kd.R_over' RW.out (Kd.S_typed SB.out) (by decide) hg.out) X3' (by decide) 5 (.slice A6 (bl.length+1) c6)
           have UQ:=Kd.R_set (Kd.R_over' QR.out (Kd.S_typed SB.out) (by decide) hg.out) X3' (by decide) 5 (.slice A6 (bl.length+1) c6)
           have UA:=Kd.R_set (Kd.R_over' QA.out (Kd.S_typed SB.out) (by decide) hg.out) X3' (by decide) 5 (.slice A6 (bl.length+1) c6)
           have US:=Kd.R_set (Kd.R_over' QS.out (Kd.S_typed SB.out) (by decide) hg.out) X3' (by decide) 5 (.slice A6 (bl.length+1) c6)
           have UB:=Kd.S_set ho.out X3' (by decide) 5 (.slice A6 (bl.length+1) c6)
           have HB3:=below_set hb (g:=g3) (j:=5) (v:=.slice A6 (bl.length+1) c6) hg3w
           clear X9 X3 X1 X2 RX RW QR QA QS SB HB ho hb hg hat X3' f3 e3
           generalize World.setCell _ _ _=w9 at U3 U1 U2 UW UQ UA US UB HB3 ⊢
           go_wp2
           go_roundg kq
           case measure=>omega
           case rel=>exact ⟨wrap64 (i+1),ws2,bl++[{ z53 with f0:=ps2 }],_,.slice A6 (bl.length+1) c6,rfl,⟨by have:=HI.out;rw [hwi.out,List.length_append,List.length_singleton];omega⟩,⟨by have:=hw2.out;rw [hwi.out];exact this⟩,⟨by rw [hwi.out];exact HL'.out⟩,⟨Kd.R_mono UW (fun k hk=>hk.1)⟩,⟨UB⟩,⟨Kd.R_mono UQ (fun k hk=>hk.1)⟩,⟨UA⟩,⟨US⟩,⟨U3⟩,⟨U1⟩,⟨U2⟩,⟨HB3⟩⟩
        ·obtain rfl:x=false:=by rw [HXd.out];exact decide_eq_false hlt
         have e1:gk=0:=by have:=HI.out;omega
         subst e1
         have eL:=HL.out
         rw [mkBlks] at eL
         injection eL with eL
         injection eL with ew eb
         replace ew:=ew.symm
         replace eb:=eb.symm
         subst ew eb
         replace hlt:=Aside0.mk hlt
         have HI0:=HI
         clear HXd HI HWl HL
         have h:=h.out
         obtain ⟨AB,cB,rfl⟩:=Kd.R_slice (Kd.S_R SB.out)
         have TW:=Kd.R_types (Kd.R_types RW.out X1 (by decide)) X2 (by decide)
         have TA:=Kd.R_types (Kd.R_types QA.out X1 (by decide)) X2 (by decide)
         have TS:=Kd.R_types (Kd.R_types QS.out X1 (by decide)) X2 (by decide)
         have TR:=Kd.R_types (Kd.R_types QR.out X1 (by decide)) X2 (by decide)
         have TB:=Kd.S_types (Kd.S_types SB.out X1 (by decide)) X2 (by decide)
         have hbl0:blF.length≤1000:=by have:=HI0.out;have:=hN1.out;omega
         replace hbl0:=Aside0.mk hbl0
         go_wp2
         go_loopg [11] blF.length (fun kq v11 w'=>∃ (b:Int) (Fb:FN) (vW:Value),v11 = .int .i64 b∧Aside0 (0≤b∧b+kq=blF.length∧blF.length≤1000)∧Aside0 (SameF ⟨⟨#[102]⟩,wsF,ar,st,rt,blF⟩ Fb)∧Aside0 (mkBodies k l4 kq b Fb=some F)∧Aside0 (w'.heap[g3]? = some (.cells #[.string Fb.nm,vW,vA0,vS0,vR0,.slice AB blF.length cB] 34 (0,0)))∧Aside0 (Kd.R (Kd.int .i64) 3 w' w.heap.size (fun k=>k≠g1∧k≠g2) vW Fb.ws)∧Aside0 (Kd.R k78 78 w' w.heap.size (fun k=>k≠g1∧k≠g2) vA0 Fb.ar)∧Aside0 (Kd.R k80 80 w' w.heap.size (fun k=>k≠g1∧k≠g2) vS0 Fb.st)∧Aside0 (Kd.R (Kd.int .i64) 3 w' w.heap.size (fun k=>(k≠g1∧k≠g2)∧some k≠vW.ownBlock) vR0 Fb.rt)∧Aside0 (Kd.S k53 53 w' w.heap.size (fun k=>((k≠g1∧k≠g2)∧some k≠vW.ownBlock)∧some k≠vR0.ownBlock) (.slice AB blF.length cB) Fb.bl)∧Aside0 (w'.heap[g1]? = some (.cells #[.slice A0 l0.length c0,.slice A1 l1.length c1,.slice A2 l2.length c2,.slice A3 l3.length c3,.slice A4 l4.length c4] 26 (0,0)))∧Aside0 (w'.heap[g2]? = some (.cells #[.string ⟨#[]⟩,.slice none 0 0,.slice none 0 0,.slice none 0 0,.slice none 0 0,.slice none 0 0] 34 (0,0)))∧Aside0 (Below w.heap.size w w'))
         case atStart=>exact ⟨0,_,vW,rfl,⟨by have:=hbl0.out;simp;omega⟩,⟨SameF.refl _⟩,⟨h⟩,⟨X3⟩,⟨Kd.R_mono TW (fun k hk=>⟨hk.1.2,hk.2⟩)⟩,⟨Kd.R_mono TA (fun k hk=>⟨hk.1.2,hk.2⟩)⟩,⟨Kd.R_mono TS (fun k hk=>⟨hk.1.2,hk.2⟩)⟩,⟨Kd.R_mono TR (fun k hk=>⟨⟨hk.1.2,hk.2⟩,hk.1.1⟩)⟩,⟨Kd.S_mono TB (fun k hk=>⟨⟨⟨hk.1.2,hk.2⟩,hk.1.1.1⟩,hk.1.1.2⟩)⟩,⟨X1⟩,⟨X2⟩,⟨HB⟩⟩
         case round=>
          clear X3 X1 X2 HB TW TA TS TR TB QA QS QR SB RW HI0 hbl0
          obtain ⟨b,Fb,vW,rfl,HI,HS,HL,⟨X3⟩,RW,RA,RS,RR,SB,⟨X1⟩,⟨X2⟩,⟨HB⟩⟩:=hrel
          have hbl:Fb.bl.length=blF.length:=HS.out.2.2.2.2
          have d5:=own_cell X3 5 (.slice AB blF.length cB) rfl
          by_cases hlt:b<(blF.length:Int)
          ·have e0:decide (b<(blF.length:Int))=true:=decide_eq_true hlt
           obtain ⟨kq,rfl⟩:∃ q,gk=q+1:=⟨gk - 1,by have:=HI.out;omega⟩
           have HL':=HL.out
           rw [mkBodies] at HL'
           by_cases hcond:(rd_T53 Fb.bl b).f0.length<17592186044415∧(partAt l4 b).f1.length≤1000000
           case neg=>rw [if_neg hcond] at HL';exact absurd HL' (by simp)
           rw [if_pos hcond] at HL'
           obtain ⟨⟨F1,vals1⟩,hSt,HL'⟩:=Option.bind_eq_some_iff.mp HL'
           obtain ⟨⟨F2,vals2⟩,hEn,HL'⟩:=Option.bind_eq_some_iff.mp HL'
           have hwb:wrap64 (b+1)=b+1:=w64m _ (by have:=HI.out.1;omega) (by have:=HI.out;omega)
           replace hwb:=Aside0.mk hwb
           replace hcond:=Aside0.mk hcond
           replace hSt:=Aside0.mk hSt
           replace hEn:=Aside0.mk hEn
           replace HL':=Aside0.mk HL'
           have SB2:=SB.out
           rw [← hbl] at SB2
           obtain ⟨gB,cap,eB,hgB1,hgB2,hgB3⟩:=Kd.S_form SB2 (by rw [hbl];have:=HI.out.1;omega)
           cases eB
           obtain ⟨oki,c,hcl,hMe,hcc,hfr,hok,hH⟩:=Kd.S_elem SB2 z53 b HI.out.1 (by rw [hbl];exact hlt)
           obtain ⟨v0,v1,v4,v5,rfl,r0,r1,r4,r5⟩:=k53_openM hMe
           obtain ⟨Ap,cp,rfl⟩:=Kd.R_slice r0
           have x0:wr.cell? ⟨gB,b.toNat*9,none⟩=some (.slice Ap (rd_T53 Fb.bl b).f0.length cp):=hcc 0 _ rfl
           replace r0:Kd.R (Kd.int .i64) 3 wr w.heap.size oki (.slice Ap (rd_T53 Fb.bl b).f0.length cp) (rd_T53 Fb.bl b).f0:=r0
           replace hbl:=Aside0.mk hbl
           have y5:=own_cell (blk_alloc X3 (.cells #[] 3)) 5 (.slice (some ⟨gB,0,none⟩) blF.length cB) rfl
           have y0:=pw_cell_below (below_alloc (Below.refl _ _) (.cells #[] 3)) x0
           have bd0:(0≤b)=True:=eq_true HI.out.1
           have bd1:(b<(blF.length:Int))=True:=eq_true hlt
           replace hlt:=Aside0.mk hlt
           have RL:=lit_R wr w.heap.size [] (below_size HB) (by decide)
           have HBa:Below w.heap.size w (wr.alloc (.cells #[] 3)):=below_weaken HB (below_size HB) (below_alloc (Below.refl _ _) _)
           have RP:=(Kd.R_reads' (Kd.R_below r0 (below_alloc (Below.refl _ _) (.cells #[] 3)))).2.2
           replace RL:=Aside0.mk RL
           replace RP:=Aside0.mk RP
           clear r0 r1 r4 r5 hMe hH hok hcc hfr hcl SB2
           go_upto_region 31 with (first | ((with_reducible refine gate_builtin (b:=.append) (xs := #[.tmp 162,.tmp 168]) rfl ?_);at_builtin;refine Kd.R_append_row (Value.int .i64) (0:Int) (w0:=w) w.heap.size rfl (.tmp 162) (.tmp 168) 29 3 (.int .i64 0) 8 rfl Try.underlying29 info3 rfl (by decide) (.slice (some ⟨wr.heap.size,0,none⟩) 0 0) [] (rd_T53 Fb.bl b).f0 Ap (rd_T53 Fb.bl b).f0.length cp (fun k=>wr.heap.size≤k) rfl rfl ?aF ?aO RP.out HBa (below_size HBa) ?aL ?_;(case aF=>exact (fun k hk=>Nat.le_trans (below_alloc (Below.refl _ wr) (.cells #[] 3)).size hk));(case aO=>exact Kd.R_mono RL.out (fun k e=>Nat.le_of_eq e.symm));(case aL=>have:=hcond.out.1;simp only [List.length_nil];omega);intro v9 w9 ho hb9 hg9 hat;rw [List.nil_append] at ho;obtain ⟨AV,cV,eV⟩:=Kd.R_slice ho;subst eV;clear y5 y0;replace ho:=Aside0.mk ho;replace hg9:=Aside0.mk hg9) | ((with_reducible refine gate_dst (N:=171) rfl ?_);refine box_event ?hg (N:=171) ?hd (cs := #[.pointer (some ⟨g3,0,none⟩),.int .i64 b,.slice AV (rd_T53 Fb.bl b).f0.length cV]) (t:=84) ?hr ?_;(case hd=>rfl);(case hg=>rfl);(case hr=>first | (go_simp;done) | (go_simp;rfl));intro gm hgm wm hbox171 hb171;replace hgm:=Aside0.mk hgm;skip))
           have hV:=ho.out.1
           have BL0:Below wr.heap.size wr w9:=pw_below_grown (below_alloc (Below.refl _ _) (.cells #[] 3)) _ (below_alloc (Below.refl _ wr) (.cells #[] 3)).size hg9.out (fun k e=>by simp [Value.ownBlock] at e;omega)
           have BL:=below_weaken BL0 (below_size BL0) hb171
           have l1_:=blk_lt X1
           have l2_:=blk_lt X2
           have lw_:=BL0.size
           have M0:MKv w wm (fun k=>k≠g1∧k≠g2) gm g3 Fb b _ vW vA0 vS0 vR0 _ _:=⟨hbox171,blk_below X3 BL,⟨by have:=hgm.out;omega,by have:=hgm.out;omega⟩,⟨Ne.symm n13,Ne.symm n23⟩,by have:=hgm.out;have:=below_size HB;omega,hg3w,
            Kd.R_mono (Kd.R_below (Kd.R_bound RW.out) BL) (fun k hk=>⟨hk.1,fun e=>by have:=hV k e.symm;have:=hk.2.2.1;omega⟩),
            Kd.R_mono (Kd.R_below (Kd.R_bound ho.out) hb171) (fun k hk=>⟨⟨by have:=hk.1;omega,by have:=hk.1;omega⟩,fun e=>by have:=Kd.R_lt RW.out k e.symm;have:=hk.1;omega⟩),
            Kd.R_below RA.out BL,Kd.R_below RS.out BL,
            Kd.R_mono (Kd.R_below (Kd.R_bound RR.out) BL) (fun k hk=>⟨hk.1,fun e=>by have:=hV k e.symm;have:=hk.2.2.1;omega⟩),
            Kd.S_mono (Kd.S_below (Kd.S_bound SB.out) BL) (fun k hk=>⟨⟨hk.1.1,fun e=>by have:=hV k e.symm;have:=hk.2.2.1;omega⟩,hk.1.2⟩),below_weaken HB (below_size HB) BL⟩
           replace X1:=blk_below X1 BL
           replace X2:=blk_below X2 BL
           clear X3 RW RA RS RR SB HB BL0 BL ho hb9 hg9 hat HBa RL RP hbox171 hb171 hV hgB1 hgB2 hgB3 l1_ l2_ lw_
           generalize (Value.slice AV (rd_T53 Fb.bl b).f0.length cV)=vV at M0 ⊢
           go_upto_region 32 with (first | ((with_reducible refine gate_dst (N:=13) rfl ?_);refine box_event ?hg (N:=13) ?hd (cs := #[.slice none 0 0,.slice none 0 0,.int .u8 0,.int .u8 0,.int .u8 0,.int .u8 0,.bool false]) (t:=75) ?hr ?_;(case hd=>rfl);(case hg=>rfl);(case hr=>first | (go_simp;done) | (go_simp;rfl));intro g13 hg13 w13 hbox13 hb13;replace hg13:=Aside0.mk hg13;have f0:=blk_frozen hbox13 0;have f1:=blk_frozen hbox13 1;have f2:=blk_frozen hbox13 2;have f3:=blk_frozen hbox13 3;have f4:=blk_frozen hbox13 4;have f5:=blk_frozen hbox13 5;have f6:=blk_frozen hbox13 6;have d0:w13.cell? ⟨g13,0,none⟩=some (.slice none 0 0):=(blk_cell hbox13 0).trans rfl;have d1:w13.cell? ⟨g13,1,none⟩=some (.slice none 0 0):=(blk_cell hbox13 1).trans rfl;have d2:w13.cell? ⟨g13,2,none⟩=some (.int .u8 0):=(blk_cell hbox13 2).trans rfl;have d3:w13.cell? ⟨g13,3,none⟩=some (.int .u8 0):=(blk_cell hbox13 3).trans rfl;have d4:w13.cell? ⟨g13,4,none⟩=some (.int .u8 0):=(blk_cell hbox13 4).trans rfl;have d5_:w13.cell? ⟨g13,5,none⟩=some (.int .u8 0):=(blk_cell hbox13 5).trans rfl;have d6:w13.cell? ⟨g13,6,none⟩=some (.bool false):=(blk_cell hbox13 6).trans rfl))
           have l1_:=blk_lt X1
           have l2_:=blk_lt X2
           have n113:g1≠g13:=by have:=hg13.out;omega
           have n213:g2≠g13:=by have:=hg13.out;omega
           have hn13:¬ ((g13≠g1∧g13≠g2)∧g13<wm.heap.size):=fun h=>by have:=hg13.out;omega
           have hw13:w.heap.size≤g13:=by rw [hg13.out];exact M0.ge
           have M1:=((((((((M0.bound.below hb13).far (g:=g13) (j:=0) hn13 hw13 (.slice none 0 0)).far (g:=g13) (j:=1) hn13 hw13 (.slice none 0 0)).far (g:=g13) (j:=2) hn13 hw13 (.int .u8 0)).far (g:=g13) (j:=3) hn13 hw13 (.int .u8 0)).far (g:=g13) (j:=4) hn13 hw13 (.int .u8 0)).far (g:=g13) (j:=5) hn13 hw13 (.int .u8 0)).far (g:=g13) (j:=6) hn13 hw13 (.bool false))
           have C13:=(blk_put (blk_put (blk_put (blk_put (blk_put (blk_put (blk_put hbox13 0 (.slice none 0 0) rfl) 1 (.slice none 0 0) rfl) 2 (.int .u8 0) rfl) 3 (.int .u8 0) rfl) 4 (.int .u8 0) rfl) 5 (.int .u8 0) rfl) 6 (.bool false) rfl)
           have Y1:=(blk_far (blk_far (blk_far (blk_far (blk_far (blk_far (blk_far (blk_below X1 hb13) (p:=⟨g13,0,none⟩) n113 (.slice none 0 0)) (p:=⟨g13,1,none⟩) n113 (.slice none 0 0)) (p:=⟨g13,2,none⟩) n113 (.int .u8 0)) (p:=⟨g13,3,none⟩) n113 (.int .u8 0)) (p:=⟨g13,4,none⟩) n113 (.int .u8 0)) (p:=⟨g13,5,none⟩) n113 (.int .u8 0)) (p:=⟨g13,6,none⟩) n113 (.bool false))
           have Y2:=(blk_far (blk_far (blk_far (blk_far (blk_far (blk_far (blk_far (blk_below X2 hb13) (p:=⟨g13,0,none⟩) n213 (.slice none 0 0)) (p:=⟨g13,1,none⟩) n213 (.slice none 0 0)) (p:=⟨g13,2,none⟩) n213 (.int .u8 0)) (p:=⟨g13,3,none⟩) n213 (.int .u8 0)) (p:=⟨g13,4,none⟩) n213 (.int .u8 0)) (p:=⟨g13,5,none⟩) n213 (.int .u8 0)) (p:=⟨g13,6,none⟩) n213 (.bool false))
           clear M0 X1 X2 hbox13 hb13 f0 f1 f2 f3 f4 f5 f6 d0 d1 d2 d3 d4 d5_ d6
           generalize World.setCell _ _ _=w14 at M1 C13 Y1 Y2 ⊢
           have z4:=own_cell Y1 4 (.slice A4 l4.length c4) rfl
           go_upto_if 177 with (fail)
           go_cut [] (fun wc=>∃ (Aq AS:Option Addr) (cq cS:Nat),Aside0 (MKv w wc (fun k=>(k≠g1∧k≠g2)∧k<wm.heap.size) gm g3 Fb b (rd_T53 Fb.bl b).f0 vW vA0 vS0 vR0 (.slice (some ⟨gB,0,none⟩) blF.length cB) vV)∧Aside0 (wc.heap[g13]? = some (.cells #[.slice Aq (partAt l4 b).f0.length cq,.slice AS (partAt l4 b).f1.length cS,.int .u8 (partAt l4 b).f2,.int .u8 (partAt l4 b).f3,.int .u8 (partAt l4 b).f4,.int .u8 (partAt l4 b).f5,.bool (partAt l4 b).f6] 75 (0,0)))∧Aside0 (Kd.C k87 w AS (partAt l4 b).f1.length (partAt l4 b).f1)∧Aside0 (wc.heap[g1]? = some (.cells #[.slice A0 l0.length c0,.slice A1 l1.length c1,.slice A2 l2.length c2,.slice A3 l3.length c3,.slice A4 l4.length c4] 26 (0,0)))∧Aside0 (wc.heap[g2]? = some (.cells #[.string ⟨#[]⟩,.slice none 0 0,.slice none 0 0,.slice none 0 0,.slice none 0 0,.slice none 0 0] 34 (0,0))))
           case first=>
            by_cases hp:b<(l4.length:Int)
            ·have ep:partAt l4 b=rd_T75 l4 b:=if_pos hp
             have hp0:decide (b<(l4.length:Int))=true:=decide_eq_true hp
             obtain ⟨ad,aA,aC,bA,bC,ea,y0,y1,y2,y3,y4,y5,y6,_,_,_,yC⟩:=at_T75 hr4.out b HI.out.1 hp
             cases ea
             have y0:=pw_cell_below M1.hB y0
             have y1:=pw_cell_below M1.hB y1
             have y2:=pw_cell_below M1.hB y2
             have y3:=pw_cell_below M1.hB y3
             have y4:=pw_cell_below M1.hB y4
             have y5:=pw_cell_below M1.hB y5
             have y6:=pw_cell_below M1.hB y6
             have bd2:(b<(l4.length:Int))=True:=eq_true hp
             replace hp:=Aside0.mk hp
             replace ep:=Aside0.mk ep
             have f0:=blk_frozen C13 0
             have f1:=blk_frozen C13 1
             have f2:=blk_frozen C13 2
             have f3:=blk_frozen C13 3
             have f4:=blk_frozen C13 4
             have f5:=blk_frozen C13 5
             have f6:=blk_frozen C13 6
             have d0:=own_cell C13 0 (.slice none 0 0) rfl
             have d1:=own_cell C13 1 (.slice none 0 0) rfl
             have d2:=own_cell C13 2 (.int .u8 0) rfl
             have d3:=own_cell C13 3 (.int .u8 0) rfl
             have d4:=own_cell C13 4 (.int .u8 0) rfl
             have d5_:=own_cell C13 5 (.int .u8 0) rfl
             have d6:=own_cell C13 6 (.bool false) rfl
             try simp only [hp0]
             go_wp2
             go_meet
             case rel=>exact ⟨aA,bA,aC,bC,⟨(((((((M1.far (g:=g13) (j:=0) hn13 hw13 (.slice aA (rd_T75 l4 b).f0.length aC)).far (g:=g13) (j:=1) hn13 hw13 (.slice bA (rd_T75 l4 b).f1.length bC)).far (g:=g13) (j:=2) hn13 hw13 (.int .u8 (rd_T75 l4 b).f2)).far (g:=g13) (j:=3) hn13 hw13 (.int .u8 (rd_T75 l4 b).f3)).far (g:=g13) (j:=4) hn13 hw13 (.int .u8 (rd_T75 l4 b).f4)).far (g:=g13) (j:=5) hn13 hw13 (.int .u8 (rd_T75 l4 b).f5)).far (g:=g13) (j:=6) hn13 hw13 (.bool (rd_T75 l4 b).f6))⟩,⟨by rw [ep.out];exact (blk_put (blk_put (blk_put (blk_put (blk_put (blk_put (blk_put C13 0 (.slice aA (rd_T75 l4 b).f0.length aC) rfl) 1 (.slice bA (rd_T75 l4 b).f1.length bC) rfl) 2 (.int .u8 (rd_T75 l4 b).f2) rfl) 3 (.int .u8 (rd_T75 l4 b).f3) rfl) 4 (.int .u8 (rd_T75 l4 b).f4) rfl) 5 (.int .u8 (rd_T75 l4 b).f5) rfl) 6 (.bool (rd_T75 l4 b).f6) rfl)⟩,⟨by rw [ep.out];exact yC⟩,⟨(blk_far (blk_far (blk_far (blk_far (blk_far (blk_far (blk_far Y1 (p:=⟨g13,0,none⟩) n113 (.slice aA (rd_T75 l4 b).f0.length aC)) (p:=⟨g13,1,none⟩) n113 (.slice bA (rd_T75 l4 b).f1.length bC)) (p:=⟨g13,2,none⟩) n113 (.int .u8 (rd_T75 l4 b).f2)) (p:=⟨g13,3,none⟩) n113 (.int .u8 (rd_T75 l4 b).f3)) (p:=⟨g13,4,none⟩) n113 (.int .u8 (rd_T75 l4 b).f4)) (p:=⟨g13,5,none⟩) n113 (.int .u8 (rd_T75 l4 b).f5)) (p:=⟨g13,6,none⟩) n113 (.bool (rd_T75 l4 b).f6))⟩,⟨(blk_far (blk_far (blk_far (blk_far (blk_far (blk_far (blk_far Y2 (p:=⟨g13,0,none⟩) n213 (.slice aA (rd_T75 l4 b).f0.length aC)) (p:=⟨g13,1,none⟩) n213 (.slice bA (rd_T75 l4 b).f1.length bC)) (p:=⟨g13,2,none⟩) n213 (.int .u8 (rd_T75 l4 b).f2)) (p:=⟨g13,3,none⟩) n213 (.int .u8 (rd_T75 l4 b).f3)) (p:=⟨g13,4,none⟩) n213 (.int .u8 (rd_T75 l4 b).f4)) (p:=⟨g13,5,none⟩) n213 (.int .u8 (rd_T75 l4 b).f5)) (p:=⟨g13,6,none⟩) n213 (.bool (rd_T75 l4 b).f6))⟩⟩
            ·have ep:partAt l4 b=z75:=if_neg hp
             have hp0:decide (b<(l4.length:Int))=false:=decide_eq_false hp
             replace hp:=Aside0.mk hp
             replace ep:=Aside0.mk ep
             try simp only [hp0]
             go_wp2
             go_meet
             case rel=>exact ⟨none,none,0,0,⟨M1⟩,⟨by rw [ep.out];exact C13⟩,⟨by rw [ep.out];exact ⟨rfl,by decide,fun h=>absurd h (by decide)⟩⟩,⟨Y1⟩,⟨Y2⟩⟩
           clear M1 C13 Y1 Y2 z4
           obtain ⟨Aq,AS,cq,cS,⟨M13⟩,⟨C13⟩,CS,⟨Y1⟩,⟨Y2⟩⟩:=hcut
           generalize hpp:partAt l4 b=p at C13 CS hSt hEn hcond
           replace hpp:=Aside0.mk hpp
           go_wp2
           have n1_:¬ ((g1≠g1∧g1≠g2)∧g1<wm.heap.size):=fun h=>h.1.1 rfl
           have n2_:¬ ((g2≠g1∧g2≠g2)∧g2<wm.heap.size):=fun h=>h.1.2 rfl
           have hbF:0≤b∧b<(Fb.bl.length:Int):=⟨HI.out.1,by rw [hbl.out];exact hlt.out⟩
           replace hbF:=Aside0.mk hbF
           go_loopg [14] p.f1.length (fun kp v14 w'=>∃ (j:Int) (Fj:FN) (vj:List Int),v14 = .int .i64 j∧Aside0 (0≤j∧j+kp=p.f1.length)∧Aside0 (mkSteps k b p.f1 kp j Fj vj=some (F1,vals1))∧Aside0 (SameF Fb Fj)∧Aside0 (After w wc (fun k=>(k≠g1∧k≠g2)∧k<wm.heap.size) gm g3 vW vA0 vS0 vR0 (.slice (some ⟨gB,0,none⟩) blF.length cB) vV Fj b vj w'))
           case atStart=>exact ⟨0,Fb,_,rfl,⟨by simp⟩,hSt,⟨SameF.refl _⟩,⟨After.refl M13⟩⟩
           case round=>
            obtain ⟨j,Fj,vj,rfl,HJ,HLj,HSj,HA⟩:=hrel
            obtain ⟨vW2,vV2,M2,K2,S2,T2⟩:=HA.out
            have C2:=blk_kept C13 K2 (fun h=>hn13 h.1)
            have c1_:=own_cell C2 1 (.slice AS p.f1.length cS) rfl
            by_cases hlj:j<(p.f1.length:Int)
            ·have e0:decide (j<(p.f1.length:Int))=true:=decide_eq_true hlj
             obtain ⟨kp2,rfl⟩:∃ q,gk=q+1:=⟨gk - 1,by have:=HJ.out;omega⟩
             have HLj':=HLj.out
             rw [mkSteps] at HLj'
             obtain ⟨⟨F5,vals5⟩,hst,HLj'⟩:=Option.bind_eq_some_iff.mp HLj'
             obtain ⟨ad,ea,y0,y1,y2,y3,y4,y5⟩:=at_T87 (Kd.C_below CS.out M2.hB) j HJ.out.1 hlj
             cases ea
             have p0:(0≤j)=True:=eq_true HJ.out.1
             have q0:(j<(p.f1.length:Int))=True:=eq_true hlj
             have hwj:wrap64 (j+1)=j+1:=w64m _ (by have:=HJ.out.1;omega) (by have:=HJ.out;have:=hcond.out.2;omega)
             replace hwj:=Aside0.mk hwj
             replace hlj:=Aside0.mk hlj
             go_wp2_with (first | (go_at_call 25;refine (mkStep_calls M2 hst).mono ?_;rintro e w5 ⟨rfl,hA5⟩))
             go_roundg kp2
             case measure=>omega
             case rel=>exact ⟨wrap64 (j+1),F5,vals5,rfl,⟨by have:=HJ.out;rw [hwj.out];omega⟩,⟨by rw [hwj.out];exact HLj'⟩,⟨HSj.out.trans (mkStep_same hst)⟩,⟨After.trans K2 S2 T2 hA5⟩⟩
            ·have e0:decide (j<(p.f1.length:Int))=false:=decide_eq_false hlj
             have e1:gk=0:=by have:=HJ.out;omega
             subst e1
             have eL:=HLj.out
             rw [mkSteps] at eL
             injection eL with eL
             injection eL with eF ev
             replace eF:=eF.symm
             replace ev:=ev.symm
             subst eF ev
             replace hlj:=Aside0.mk hlj
             have c0_:=own_cell C2 0 (.slice Aq p.f0.length cq) rfl
             have c2_:=own_cell C2 2 (.int .u8 p.f2) rfl
             have c3_:=own_cell C2 3 (.int .u8 p.f3) rfl
             have c4_:=own_cell C2 4 (.int .u8 p.f4) rfl
             have c5_:=own_cell C2 5 (.int .u8 p.f5) rfl
             have c6_:=own_cell C2 6 (.bool p.f6) rfl
             go_upto_region 29 with (first | (go_at_call 26;refine (mkEnd_calls M2 ⟨hbF.out.1,by rw [HSj.out.2.2.2.2];exact hbF.out.2⟩ hEn.out).mono ?_;rintro e w6 ⟨rfl,hA6⟩))
             have hA7:=After.trans K2 S2 T2 hA6
             obtain ⟨vW3,vV3,M3,K3,S3,T3⟩:=hA7
             have Y13:=blk_kept Y1 K3 (fun h=>n1_ h.1)
             have Y23:=blk_kept Y2 K3 (fun h=>n2_ h.1)
             have hlt1:=blk_lt Y1
             have hlt2:=blk_lt Y2
             have hPP:∀ q,(((q≠g1∧q≠g2)∧q<wm.heap.size)∨wc.heap.size≤q)→q≠g1∧q≠g2:=fun q h=>h.elim (fun h=>h.1) (fun h=>⟨by omega,by omega⟩)
             clear HA M2 K2 S2 T2 C2 c0_ c1_ c2_ c3_ c4_ c5_ c6_ hA6
             go_wp2
             go_roundg kq
             case measure=>omega
             case rel=>exact ⟨wrap64 (b+1),F2,vW3,rfl,⟨by have:=HI.out;rw [hwb.out];omega⟩,⟨(HS.out.trans HSj.out).trans (mkEnd_same hEn.out)⟩,⟨by rw [hwb.out];exact HL'.out⟩,⟨M3.hf⟩,⟨Kd.R_mono M3.rW (fun q hq=>hPP q hq.1)⟩,⟨Kd.R_mono M3.rA (fun q hq=>hPP q hq)⟩,⟨Kd.R_mono M3.rS (fun q hq=>hPP q hq)⟩,⟨Kd.R_mono M3.rR (fun q hq=>⟨hPP q hq.1.1,hq.1.2⟩)⟩,⟨Kd.S_mono M3.sB (fun q hq=>⟨⟨hPP q hq.1.1.1,hq.1.1.2⟩,hq.2⟩)⟩,⟨Y13⟩,⟨Y23⟩,⟨M3.hB⟩⟩
          ·have e0:decide (b<(blF.length:Int))=false:=decide_eq_false hlt
           have e1:gk=0:=by have:=HI.out;omega
           subst e1
           have eL:=HL.out
           rw [mkBodies] at eL
           injection eL with eL
           subst eL
           replace hlt:=Aside0.mk hlt
           obtain ⟨AW,cW,rfl⟩:=Kd.R_slice RW.out
           obtain ⟨AA,cA,rfl⟩:=Kd.R_slice RA.out
           obtain ⟨AS,cS,rfl⟩:=Kd.R_slice RS.out
           obtain ⟨AR,cR,rfl⟩:=Kd.R_slice RR.out
           have c0_:=own_cell X3 0 (.string Fb.nm) rfl
           have c1_:=own_cell X3 1 (.slice AW Fb.ws.length cW) rfl
           have c2_:=own_cell X3 2 (.slice AA Fb.ar.length cA) rfl
           have c3_:=own_cell X3 3 (.slice AS Fb.st.length cS) rfl
           have c4_:=own_cell X3 4 (.slice AR Fb.rt.length cR) rfl
           have f0:=blk_frozen X2 0
           have f1:=blk_frozen X2 1
           have f2:=blk_frozen X2 2
           have f3:=blk_frozen X2 3
           have f4:=blk_frozen X2 4
           have f5:=blk_frozen X2 5
           have d0:=own_cell X2 0 (.string ⟨#[]⟩) rfl
           have d1:=own_cell X2 1 (.slice none 0 0) rfl
           have d2:=own_cell X2 2 (.slice none 0 0) rfl
           have d3:=own_cell X2 3 (.slice none 0 0) rfl
           have d4:=own_cell X2 4 (.slice none 0 0) rfl
           have d5_:=own_cell X2 5 (.slice none 0 0) rfl
           go_wp2
           have X6:=(blk_put (blk_put (blk_put (blk_put (blk_put (blk_put X2 0 (.string Fb.nm) rfl) 1 (.slice AW Fb.ws.length cW) rfl) 2 (.slice AA Fb.ar.length cA) rfl) 3 (.slice AS Fb.st.length cS) rfl) 4 (.slice AR Fb.rt.length cR) rfl) 5 (.slice AB blF.length cB) rfl)
           have RW6:=(Kd.R_set (Kd.R_set (Kd.R_set (Kd.R_set (Kd.R_set (Kd.R_set RW.out X2 (by decide) 0 (.string Fb.nm)) (blk_put X2 0 (.string Fb.nm) rfl) (by decide) 1 (.slice AW Fb.ws.length cW)) (blk_put (blk_put X2 0 (.string Fb.nm) rfl) 1 (.slice AW Fb.ws.length cW) rfl) (by decide) 2 (.slice AA Fb.ar.length cA)) (blk_put (blk_put (blk_put X2 0 (.string Fb.nm) rfl) 1 (.slice AW Fb.ws.length cW) rfl) 2 (.slice AA Fb.ar.length cA) rfl) (by decide) 3 (.slice AS Fb.st.length cS)) (blk_put (blk_put (blk_put (blk_put X2 0 (.string Fb.nm) rfl) 1 (.slice AW Fb.ws.length cW) rfl) 2 (.slice AA Fb.ar.length cA) rfl) 3 (.slice AS Fb.st.length cS) rfl) (by decide) 4 (.slice AR Fb.rt.length cR)) (blk_put (blk_put (blk_put (blk_put (blk_put X2 0 (.string Fb.nm) rfl) 1 (.slice AW Fb.ws.length cW) rfl) 2 (.slice AA Fb.ar.length cA) rfl) 3 (.slice AS Fb.st.length cS) rfl) 4 (.slice AR Fb.rt.length cR) rfl) (by decide) 5 (.slice AB blF.length cB))
           have RA6:=(Kd.R_set (Kd.R_set (Kd.R_set (Kd.R_set (Kd.R_set (Kd.R_set RA.out X2 (by decide) 0 (.string Fb.nm)) (blk_put X2 0 (.string Fb.nm) rfl) (by decide) 1 (.slice AW Fb.ws.length cW)) (blk_put (blk_put X2 0 (.string Fb.nm) rfl) 1 (.slice AW Fb.ws.length cW) rfl) (by decide) 2 (.slice AA Fb.ar.length cA)) (blk_put (blk_put (blk_put X2 0 (.string Fb.nm) rfl) 1 (.slice AW Fb.ws.length cW) rfl) 2 (.slice AA Fb.ar.length cA) rfl) (by decide) 3 (.slice AS Fb.st.length cS)) (blk_put (blk_put (blk_put (blk_put X2 0 (.string Fb.nm) rfl) 1 (.slice AW Fb.ws.length cW) rfl) 2 (.slice AA Fb.ar.length cA) rfl) 3 (.slice AS Fb.st.length cS) rfl) (by decide) 4 (.slice AR Fb.rt.length cR)) (blk_put (blk_put (blk_put (blk_put (blk_put X2 0 (.string Fb.nm) rfl) 1 (.slice AW Fb.ws.length cW) rfl) 2 (.slice AA Fb.ar.length cA) rfl) 3 (.slice AS Fb.st.length cS) rfl) 4 (.slice AR Fb.rt.length cR) rfl) (by decide) 5 (.slice AB blF.length cB))
           have RS6:=(Kd.R_set (Kd.R_set (Kd.R_set (Kd.R_set (Kd.R_set (Kd.R_set RS.out X2 (by decide) 0 (.string Fb.nm)) (blk_put X2 0 (.string Fb.nm) rfl) (by decide) 1 (.slice AW Fb.ws.length cW)) (blk_put (blk_put X2 0 (.string Fb.nm) rfl) 1 (.slice AW Fb.ws.length cW) rfl) (by decide) 2 (.slice AA Fb.ar.length cA)) (blk_put (blk_put (blk_put X2 0 (.string Fb.nm) rfl) 1 (.slice AW Fb.ws.length cW) rfl) 2 (.slice AA Fb.ar.length cA) rfl) (by decide) 3 (.slice AS Fb.st.length cS)) (blk_put (blk_put (blk_put (blk_put X2 0 (.string Fb.nm) rfl) 1 (.slice AW Fb.ws.length cW) rfl) 2 (.slice AA Fb.ar.length cA) rfl) 3 (.slice AS Fb.st.length cS) rfl) (by decide) 4 (.slice AR Fb.rt.length cR)) (blk_put (blk_put (blk_put (blk_put (blk_put X2 0 (.string Fb.nm) rfl) 1 (.slice AW Fb.ws.length cW) rfl) 2 (.slice AA Fb.ar.length cA) rfl) 3 (.slice AS Fb.st.length cS) rfl) 4 (.slice AR Fb.rt.length cR) rfl) (by decide) 5 (.slice AB blF.length cB))
           have RR6:=(Kd.R_set (Kd.R_set (Kd.R_set (Kd.R_set (Kd.R_set (Kd.R_set RR.out X2 (by decide) 0 (.string Fb.nm)) (blk_put X2 0 (.string Fb.nm) rfl) (by decide) 1 (.slice AW Fb.ws.length cW)) (blk_put (blk_put X2 0 (.string Fb.nm) rfl) 1 (.slice AW Fb.ws.length cW) rfl) (by decide) 2 (.slice AA Fb.ar.length cA)) (blk_put (blk_put (blk_put X2 0 (.string Fb.nm) rfl) 1 (.slice AW Fb.ws.length cW) rfl) 2 (.slice AA Fb.ar.length cA) rfl) (by decide) 3 (.slice AS Fb.st.length cS)) (blk_put (blk_put (blk_put (blk_put X2 0 (.string Fb.nm) rfl) 1 (.slice AW Fb.ws.length cW) rfl) 2 (.slice AA Fb.ar.length cA) rfl) 3 (.slice AS Fb.st.length cS) rfl) (by decide) 4 (.slice AR Fb.rt.length cR)) (blk_put (blk_put (blk_put (blk_put (blk_put X2 0 (.string Fb.nm) rfl) 1 (.slice AW Fb.ws.length cW) rfl) 2 (.slice AA Fb.ar.length cA) rfl) 3 (.slice AS Fb.st.length cS) rfl) 4 (.slice AR Fb.rt.length cR) rfl) (by decide) 5 (.slice AB blF.length cB))
           have SB6:=(Kd.S_set (Kd.S_set (Kd.S_set (Kd.S_set (Kd.S_set (Kd.S_set SB.out X2 (by decide) 0 (.string Fb.nm)) (blk_put X2 0 (.string Fb.nm) rfl) (by decide) 1 (.slice AW Fb.ws.length cW)) (blk_put (blk_put X2 0 (.string Fb.nm) rfl) 1 (.slice AW Fb.ws.length cW) rfl) (by decide) 2 (.slice AA Fb.ar.length cA)) (blk_put (blk_put (blk_put X2 0 (.string Fb.nm) rfl) 1 (.slice AW Fb.ws.length cW) rfl) 2 (.slice AA Fb.ar.length cA) rfl) (by decide) 3 (.slice AS Fb.st.length cS)) (blk_put (blk_put (blk_put (blk_put X2 0 (.string Fb.nm) rfl) 1 (.slice AW Fb.ws.length cW) rfl) 2 (.slice AA Fb.ar.length cA) rfl) 3 (.slice AS Fb.st.length cS) rfl) (by decide) 4 (.slice AR Fb.rt.length cR)) (blk_put (blk_put (blk_put (blk_put (blk_put X2 0 (.string Fb.nm) rfl) 1 (.slice AW Fb.ws.length cW) rfl) 2 (.slice AA Fb.ar.length cA) rfl) 3 (.slice AS Fb.st.length cS) rfl) 4 (.slice AR Fb.rt.length cR) rfl) (by decide) 5 (.slice AB blF.length cB))
           have HB6:=(below_set (below_set (below_set (below_set (below_set (below_set HB (g:=g2) (j:=0) (v:=(.string Fb.nm)) hg2w) (g:=g2) (j:=1) (v:=(.slice AW Fb.ws.length cW)) hg2w) (g:=g2) (j:=2) (v:=(.slice AA Fb.ar.length cA)) hg2w) (g:=g2) (j:=3) (v:=(.slice AS Fb.st.length cS)) hg2w) (g:=g2) (j:=4) (v:=(.slice AR Fb.rt.length cR)) hg2w) (g:=g2) (j:=5) (v:=(.slice AB blF.length cB)) hg2w)
           clear X3 X2 X1 HB c0_ c1_ c2_ c3_ c4_ d5 f0 f1 f2 f3 f4 f5 d0 d1 d2 d3 d4 d5_
           generalize World.setCell _ _ _=w6 at X6 RW6 RA6 RS6 RR6 SB6 HB6 ⊢
           have q0:=own_cell X6 0 (.string Fb.nm) rfl
           have q1:=own_cell X6 1 (.slice AW Fb.ws.length cW) rfl
           have q2:=own_cell X6 2 (.slice AA Fb.ar.length cA) rfl
           have q3:=own_cell X6 3 (.slice AS Fb.st.length cS) rfl
           have q4:=own_cell X6 4 (.slice AR Fb.rt.length cR) rfl
           have q5:=own_cell X6 5 (.slice AB blF.length cB) rfl
           exact bodyPost_ret (v:=.agg #[.string Fb.nm,.slice AW Fb.ws.length cW,.slice AA Fb.ar.length cA,.slice AS Fb.st.length cS,.slice AR Fb.rt.length cR,.slice AB blF.length cB]) (by simp [results,Try.results11,go_sem,q0,q1,q2,q3,q4,q5]) rfl ⟨_,_,_,_,_,rfl,Kd.R_mono (Kd.R_tight rfl RW6) (fun k hk e=>(RR6.1 k e.symm).2 hk),Kd.R_mono RA6 (fun _ _=>trivial),Kd.R_mono RS6 (fun _ _=>trivial),Kd.R_mono RR6 (fun k hk=>hk.2),Kd.R_mono (Kd.S_R SB6) (fun k hk=>⟨hk.1.2,hk.2⟩),HB6⟩
def jacquardref27_Func.f (_:Nat) (l0:List Int) (l1 l2:List S66) (l3:List Int) (l4:List S75):Option (ByteArray × List Int × List S78 × List S80 × List Int × List S53):=
 (mkFunc 70 l0 l1 l2 l3 l4).bind fun F=>some (F.nm,F.ws,F.ar,F.st,F.rt,F.bl)
theorem jacquardref27_Func.mono:∀ a0 a1 a2 a3 a4 k,LeO (jacquardref27_Func.f k a0 a1 a2 a3 a4) (jacquardref27_Func.f (k+1) a0 a1 a2 a3 a4):=fun _ _ _ _ _ _=>LeO.refl _
theorem jacquardref27_Func.calls (k:Nat) (A0_0:Option Addr) (c0_0:Nat) (l0_0:List Int) (A0_1:Option Addr) (c0_1:Nat) (l0_1:List S66) (A0_2:Option Addr) (c0_2:Nat) (l0_2:List S66) (A0_3:Option Addr) (c0_3:Nat) (l0_3:List Int) (A0_4:Option Addr) (c0_4:Nat) (l0_4:List S75) (r1:ByteArray) (r2:List Int) (r3:List S78) (r4:List S80) (r5:List Int) (r6:List S53) (w:World)
  (hr0_0:Kd.C (Kd.int .u8) w A0_0 l0_0.length l0_0) (_:l0_0.length≤c0_0) (hr0_1:Kd.C k66 w A0_1 l0_1.length l0_1) (_:l0_1.length≤c0_1) (hr0_2:Kd.C k66 w A0_2 l0_2.length l0_2) (_:l0_2.length≤c0_2) (hr0_3:Kd.C (Kd.int .u8) w A0_3 l0_3.length l0_3) (_:l0_3.length≤c0_3) (hr0_4:Kd.C k75 w A0_4 l0_4.length l0_4) (_:l0_4.length≤c0_4)
  (h:jacquardref27_Func.f k l0_0 l0_1 l0_2 l0_3 l0_4=some (r1,r2,r3,r4,r5,r6)) :
  Calls Try.prog 11 #[.agg #[.slice A0_0 l0_0.length c0_0,.slice A0_1 l0_1.length c0_1,.slice A0_2 l0_2.length c0_2,.slice A0_3 l0_3.length c0_3,.slice A0_4 l0_4.length c0_4]] w fun e w'=>∃ v1_ v2_ v3_ v4_ v5_:Value,e = .returned (.agg #[.string r1,v1_,v2_,v3_,v4_,v5_]) ∧
   Kd.R (Kd.int .i64) 3 w' w.heap.size (fun k_=>some k_≠v4_.ownBlock) v1_ r2∧Kd.R k78 78 w' w.heap.size (fun _=>True) v2_ r3∧Kd.R k80 80 w' w.heap.size (fun _=>True) v3_ r4∧Kd.R (Kd.int .i64) 3 w' w.heap.size (fun k_=>some k_≠v1_.ownBlock) v4_ r5 ∧
   Kd.R k53 53 w' w.heap.size (fun k_=>some k_≠v1_.ownBlock∧some k_≠v4_.ownBlock) v5_ r6∧Below w.heap.size w w':=by
 obtain ⟨F,hF,e⟩:=Option.bind_eq_some_iff.mp h
 injection e with e
 injection e with e1 e
 injection e with e2 e
 injection e with e3 e
 injection e with e4 e
 injection e with e5 e6
 subst e1 e2 e3 e4 e5 e6
 exact mkFunc_calls hr0_0 hr0_1 hr0_2 hr0_3 hr0_4 hF
end Go.Proofs.Ytabcdpddhmekkaa.PAll
