-- Written for this claim by programs of this session (wip/print2 in its repo: a changed printer, a shortener, a packer). Lean checks it.
import Derived.Test.YtabcdpddhmekkaaMkb
set_option linter.all false
namespace Go.Proofs.Ytabcdpddhmekkaa.PAll
open Go.RowKit Go.Proofs.YtabcdpddhmekkaaW.PrintWords Go.Proofs.YtabcdpddhmekkaaW.PrintLast Go.Proofs.YtabcdpddhmekkaaW.PrintMore
attribute [local go_sem] max2_int min2_int max_two min_two max_three min_three max_four min_four
set_option linter.unusedVariables false
set_option linter.unusedSimpArgs false
set_option maxHeartbeats 8000000 in
set_option maxRecDepth 100000 in
theorem mkEndS_calls {w0 w:World} {P:Nat→Prop} {gm gf n1 c1 n2 c2:Nat} {A1 A2:Option Addr} {F F':FN} {b pk pc pt pf:Int} {pl:Bool} {vals vals':List Int} {vW vA vS vR vB vV:Value} (hM:MKv w0 w P gm gf F b vals vW vA vS vR vB vV) (hb:0≤b∧b<F.bl.length) (hl:endLoop F.bl.length b pl=false)
  (h:(if endKind F.bl.length b pk pl=0 then mkEndR F b vals pt else if endKind F.bl.length b pk pl=1 then mkEndJ F b vals pt else mkEndB F b vals pc pt pf)=some (F',vals')) :
  Calls Try.prog 26 #[.pointer (some ⟨gm,0,none⟩),.agg #[.slice A1 n1 c1,.slice A2 n2 c2,.int .u8 pk,.int .u8 pc,.int .u8 pt,.int .u8 pf,.bool pl]] w fun e w'=>e = .returned (.tuple #[])∧After w0 w P gm gf vW vA vS vR vB vV F' b vals' w':=by
 obtain ⟨gB,cap,rfl,-⟩:=Kd.S_form hM.sB (by omega)
 replace hb:=Aside0.mk hb
 go_enter Try.func26,Try.ntmps26
 go_upto_region 3 with (first | ((with_reducible refine gate_dst (N:=3) rfl ?_);refine box_event ?hg (N:=3) ?hd (cs := #[.slice A1 n1 c1,.slice A2 n2 c2,.int .u8 pk,.int .u8 pc,.int .u8 pt,.int .u8 pf,.bool pl]) (t:=75) ?hr ?_;(case hd=>rfl);(case hg=>rfl);(case hr=>first | (go_simp;done) | (go_simp;rfl));intro g hg w1 hbox hb1;have D:=Mid.start (O:=fun k=>k=g) hM hb1 (fun k e=>by have:=blk_lt hbox;omega);have B:=hbox;have z0:=D.M.cells.1;have z5:=D.M.cells.2.2.2.2.2.2.2;clear hbox hb1;replace hg:=Aside0.mk hg) | ((with_reducible refine gate_dst (N:=5) rfl ?_);refine box_event ?hg (N:=5) ?hd (cs := #[.int .i64 0,.int .i64 0,.slice none 0 0,.slice none 0 0]) (t:=51) ?hr ?_;(case hd=>rfl);(case hg=>rfl);(case hr=>first | (go_simp;done) | (go_simp;rfl));intro g5 hg5 w2 hbox hb1;replace hg5:=Aside0.mk hg5;replace D:=D.grow (O':=fun k=>k=g∨k=g5) hb1 (fun k e=>e.imp id (fun e=>by have:=blk_lt hbox;have:=hg5.out;omega));have n35:g≠g5:=(by have:=blk_lt B;have:=hg5.out;omega);replace B:=blk_below B hb1;have Z:=hbox;have f0:=blk_frozen hbox 0;have f1:=blk_frozen hbox 1;have f2:=blk_frozen hbox 2;have f3:=blk_frozen hbox 3;have d0:w2.cell? ⟨g5,0,none⟩=some (.int .i64 0):=(blk_cell hbox 0).trans rfl;have d1:w2.cell? ⟨g5,1,none⟩=some (.int .i64 0):=(blk_cell hbox 1).trans rfl;have d2:w2.cell? ⟨g5,2,none⟩=some (.slice none 0 0):=(blk_cell hbox 2).trans rfl;have d3:w2.cell? ⟨g5,3,none⟩=some (.slice none 0 0):=(blk_cell hbox 3).trans rfl))
 have D3:=((((D.store (g:=g5) (.inr rfl) 0 (.int .i64 3)).store (g:=g5) (.inr rfl) 1 (.int .i64 (-1))).store (g:=g5) (.inr rfl) 2 (.slice none 0 0)).store (g:=g5) (.inr rfl) 3 (.slice none 0 0))
 have Z3:=(blk_put (blk_put (blk_put (blk_put Z 0 (.int .i64 3) rfl) 1 (.int .i64 (-1)) rfl) 2 (.slice none 0 0) rfl) 3 (.slice none 0 0) rfl)
 have B3:=(blk_far (blk_far (blk_far (blk_far B (p:=⟨g5,0,none⟩) n35 (.int .i64 3)) (p:=⟨g5,1,none⟩) n35 (.int .i64 (-1))) (p:=⟨g5,2,none⟩) n35 (.slice none 0 0)) (p:=⟨g5,3,none⟩) n35 (.slice none 0 0))
 clear D Z B f0 f1 f2 f3 d0 d1 d2 d3 z0 z5 hbox hb1
 generalize World.setCell _ _ _=w3 at D3 Z3 B3 ⊢
 have p2:=own_cell B3 2 (.int .u8 pk) rfl
 go_upto_region 4 with (fail)
 clear p2
 go_cut [38] (fun v38 wc=>∃ x:Bool,v38 = .bool x∧Aside0 (x=((F.bl.length:Int)==1 || (b==wrap64 ((F.bl.length:Int) - 1)) && !pl))∧Aside0 (Mid w0 w P (fun k=>k=g∨k=g5) gm gf vW vA vS vR (.slice (some ⟨gB,0,none⟩) F.bl.length cap) vV F b vals vW vV wc)∧Aside0 (wc.heap[g]? = some (.cells #[.slice A1 n1 c1,.slice A2 n2 c2,.int .u8 pk,.int .u8 pc,.int .u8 pt,.int .u8 pf,.bool pl] 75 (0,0)))∧Aside0 (wc.heap[g5]? = some (.cells #[.int .i64 3,.int .i64 (-1),.slice none 0 0,.slice none 0 0] 51 (0,0))))
 case first=>
  as_aux_lemma=>
   have z0:=D3.M.cells.1
   have z1:=D3.M.cells.2.1
   have p6:=own_cell B3 6 (.bool pl) rfl
   by_cases e1:(F.bl.length:Int)=1
   ·have t1:((F.bl.length:Int)==1)=true:=beq_iff_eq.mpr e1
    replace e1:=Aside0.mk e1
    go_wp2
    go_meet
    case rel=>exact ⟨true,rfl,⟨by rw [t1];rfl⟩,⟨D3⟩,⟨B3⟩,⟨Z3⟩⟩
   ·have t1:((F.bl.length:Int)==1)=false:=beq_eq_false_iff_ne.mpr e1
    replace e1:=Aside0.mk e1
    by_cases e2:b=wrap64 ((F.bl.length:Int) - 1)
    ·have t2:(b==wrap64 ((F.bl.length:Int) - 1))=true:=beq_iff_eq.mpr e2
     replace e2:=Aside0.mk e2
     cases pl <;> (go_wp2;go_meet)
     case rel=>exact ⟨true,rfl,⟨by rw [t1,t2];rfl⟩,⟨D3⟩,⟨B3⟩,⟨Z3⟩⟩
     case rel=>exact ⟨false,rfl,⟨by rw [t1,t2];rfl⟩,⟨D3⟩,⟨B3⟩,⟨Z3⟩⟩
    ·have t2:(b==wrap64 ((F.bl.length:Int) - 1))=false:=beq_eq_false_iff_ne.mpr e2
     replace e2:=Aside0.mk e2
     go_wp2
     go_meet
     case rel=>exact ⟨false,rfl,⟨by rw [t1,t2];rfl⟩,⟨D3⟩,⟨B3⟩,⟨Z3⟩⟩
 clear D3 Z3 B3
 obtain ⟨x,rfl,HX,⟨D3⟩,⟨B3⟩,⟨Z3⟩⟩:=hcut
 go_upto_if 38 with (fail)
 go_cut [6] (fun v6 wc=>∃ x:Int,v6 = .int .u8 x∧Aside0 (x=endKind F.bl.length b pk pl)∧Aside0 (Mid w0 w P (fun k=>k=g∨k=g5) gm gf vW vA vS vR (.slice (some ⟨gB,0,none⟩) F.bl.length cap) vV F b vals vW vV wc)∧Aside0 (wc.heap[g]? = some (.cells #[.slice A1 n1 c1,.slice A2 n2 c2,.int .u8 pk,.int .u8 pc,.int .u8 pt,.int .u8 pf,.bool pl] 75 (0,0)))∧Aside0 (wc.heap[g5]? = some (.cells #[.int .i64 3,.int .i64 (-1),.slice none 0 0,.slice none 0 0] 51 (0,0))))
 case first=>
  as_aux_lemma=>
   cases x
   ·go_wp2
    go_meet
    case rel=>exact ⟨Int.tmod pk 4,rfl,⟨by unfold endKind;rw [← HX.out];rfl⟩,⟨D3⟩,⟨B3⟩,⟨Z3⟩⟩
   ·go_wp2
    go_meet
    case rel=>exact ⟨0,rfl,⟨by unfold endKind;rw [← HX.out];rfl⟩,⟨D3⟩,⟨B3⟩,⟨Z3⟩⟩
 clear D3 Z3 B3 HX
 obtain ⟨kind,rfl,HX,⟨D3⟩,⟨B3⟩,⟨Z3⟩⟩:=hcut
 go_upto_region 6 with (fail)
 go_cut [7,8] (fun v7 v8 wc=>v7 = .int .i64 (endTo F.bl.length pt)∧v8 = .int .i64 (endTo F.bl.length pf)∧Aside0 (Mid w0 w P (fun k=>k=g∨k=g5) gm gf vW vA vS vR (.slice (some ⟨gB,0,none⟩) F.bl.length cap) vV F b vals vW vV wc)∧Aside0 (wc.heap[g]? = some (.cells #[.slice A1 n1 c1,.slice A2 n2 c2,.int .u8 pk,.int .u8 pc,.int .u8 pt,.int .u8 pf,.bool pl] 75 (0,0)))∧Aside0 (wc.heap[g5]? = some (.cells #[.int .i64 3,.int .i64 (-1),.slice none 0 0,.slice none 0 0] 51 (0,0))))
 case first=>
  as_aux_lemma=>
   by_cases hm:wrap64 ((F.bl.length:Int) - 1)<1
   ·have em:(if wrap64 ((F.bl.length:Int) - 1)<1 then (1:Int) else wrap64 ((F.bl.length:Int) - 1))=1:=if_pos hm
    skip
    have hmE:=eq_true hm
    clear hm
    replace em:=Aside0.mk em
    try go_wp2
    refine start_ (n:=18) (S:=fun w'=>w'.cell? ⟨g,4,none⟩=some (.int .u8 pt)∧w'.cell? ⟨g,5,none⟩=some (.int .u8 pf)) (ds:=[]) (bz 18 0) (by kernel_rfl) rfl rfl ⟨(own_cell (blk_drew B3) 4 (.int .u8 pt) rfl),(own_cell (blk_drew B3) 5 (.int .u8 pf) rfl)⟩ (fun hHeld=>?_)
    refine with_tabW mkEndhm1.tab6 mkEndhm1.bits6 (fun HT_ HW_=>?_)
    refine pu_ 0 39 HT_ ?_
    refine pu_ 3 42 HT_ ?_
    refine pu_ 4 43 HT_ ?_
    refine pu_ 5 44 HT_ ?_
    refine pu_ 8 47 HT_ ?_
    refine pu_ 11 50 HT_ ?_
    refine pu_ 12 51 HT_ ?_
    refine pu_ 13 52 HT_ ?_
    refine tk_ 1 40 HT_ HW_ hHeld ?_ (hy:=by rintro w' ⟨s0,s1⟩;go_simp;with_reducible rfl)
    refine pu_ 2 41 HT_ ?_
    refine pu_ 6 45 HT_ ?_
    refine pu_ 7 46 HT_ ?_
    refine pu_ 16 7 HT_ ?_
    refine tk_ 9 48 HT_ HW_ hHeld ?_ (hy:=by rintro w' ⟨s0,s1⟩;go_simp;with_reducible rfl)
    refine pu_ 10 49 HT_ ?_
    refine pu_ 14 53 HT_ ?_
    refine pu_ 15 54 HT_ ?_
    refine pu_ 17 8 HT_ ?_
    refine done_ (done_of HT_.out (by kernel_rfl)) ?_
    have D4:=D3.drew
    have B4:=blk_drew B3
    have Z4:=blk_drew Z3
    try go_wp2
    go_meet
    case rel=>exact ⟨by unfold endTo;rw [em.out,Int.tmod_one];rfl,by unfold endTo;rw [em.out,Int.tmod_one];rfl,⟨D4⟩,⟨B4⟩,⟨Z4⟩⟩
   ·have em:(if wrap64 ((F.bl.length:Int) - 1)<1 then (1:Int) else wrap64 ((F.bl.length:Int) - 1))=wrap64 ((F.bl.length:Int) - 1):=if_neg hm
    have m0:¬ wrap64 ((F.bl.length:Int) - 1)=0:=by omega
    have m1:(wrap64 ((F.bl.length:Int) - 1) != 0)=true:=by simpa using m0
    have m2:(wrap64 ((F.bl.length:Int) - 1)==0)=false:=by simpa using m0
    have m3:=eq_false m0
    replace m0:=Aside0.mk m0
    have hmE:=eq_false hm
    clear hm
    replace em:=Aside0.mk em
    try go_wp2
    refine start_ (n:=18) (S:=fun w'=>w'.cell? ⟨g,4,none⟩=some (.int .u8 pt)∧w'.cell? ⟨g,5,none⟩=some (.int .u8 pf)) (ds:=[]) (bz 18 0) (by kernel_rfl) rfl rfl ⟨(own_cell (blk_drew B3) 4 (.int .u8 pt) rfl),(own_cell (blk_drew B3) 5 (.int .u8 pf) rfl)⟩ (fun hHeld=>?_)
    refine with_tabW mkEndhm1.tab6 mkEndhm1.bits6 (fun HT_ HW_=>?_)
    refine pu_ 0 39 HT_ ?_
    refine pu_ 3 42 HT_ ?_
    refine pu_ 4 43 HT_ ?_
    refine pu_ 5 44 HT_ ?_
    refine pu_ 8 47 HT_ ?_
    refine pu_ 11 50 HT_ ?_
    refine pu_ 12 51 HT_ ?_
    refine pu_ 13 52 HT_ ?_
    refine tk_ 1 40 HT_ HW_ hHeld ?_ (hy:=by rintro w' ⟨s0,s1⟩;go_simp;with_reducible rfl)
    refine pu_ 2 41 HT_ ?_
    refine pu_ 6 45 HT_ ?_
    refine pu_ 7 46 HT_ ?_
    refine pu_ 16 7 HT_ ?_
    refine tk_ 9 48 HT_ HW_ hHeld ?_ (hy:=by rintro w' ⟨s0,s1⟩;go_simp;with_reducible rfl)
    refine pu_ 10 49 HT_ ?_
    refine pu_ 14 53 HT_ ?_
    refine pu_ 15 54 HT_ ?_
    refine pu_ 17 8 HT_ ?_
    refine done_ (done_of HT_.out (by kernel_rfl)) ?_
    have D4:=D3.drew
    have B4:=blk_drew B3
    have Z4:=blk_drew Z3
    try go_wp2
    go_meet
    case rel=>exact ⟨by unfold endTo;rw [em.out],by unfold endTo;rw [em.out],⟨D4⟩,⟨B4⟩,⟨Z4⟩⟩
 clear D3 Z3 B3
 obtain ⟨rfl,rfl,⟨D3⟩,⟨B3⟩,⟨Z3⟩⟩:=hcut
 go_upto_region 7 with (fail)
 go_cut [9] (fun v9 wc=>∃ x:Bool,v9 = .bool x∧Aside0 (x=endLoop F.bl.length b pl)∧Aside0 (Mid w0 w P (fun k=>k=g∨k=g5) gm gf vW vA vS vR (.slice (some ⟨gB,0,none⟩) F.bl.length cap) vV F b vals vW vV wc)∧Aside0 (wc.heap[g]? = some (.cells #[.slice A1 n1 c1,.slice A2 n2 c2,.int .u8 pk,.int .u8 pc,.int .u8 pt,.int .u8 pf,.bool pl] 75 (0,0)))∧Aside0 (wc.heap[g5]? = some (.cells #[.int .i64 3,.int .i64 (-1),.slice none 0 0,.slice none 0 0] 51 (0,0))))
 case first=>
  as_aux_lemma=>
   have z1:=D3.M.cells.2.1
   have p6:=own_cell B3 6 (.bool pl) rfl
   cases pl
   ·go_wp2
    go_meet
    case rel=>exact ⟨false,rfl,⟨rfl⟩,⟨D3⟩,⟨B3⟩,⟨Z3⟩⟩
   ·by_cases e1:b>0
    ·have t1:decide (b>0)=true:=decide_eq_true e1
     replace e1:=Aside0.mk e1
     by_cases e2:(F.bl.length:Int)>2
     ·have t2:decide ((F.bl.length:Int)>2)=true:=decide_eq_true e2
      replace e2:=Aside0.mk e2
      go_wp2
      go_meet
      case rel=>exact ⟨true,rfl,⟨by unfold endLoop;rw [t1,t2];rfl⟩,⟨D3⟩,⟨B3⟩,⟨Z3⟩⟩
     ·have t2:decide ((F.bl.length:Int)>2)=false:=decide_eq_false e2
      replace e2:=Aside0.mk e2
      go_wp2
      go_meet
      case rel=>exact ⟨false,rfl,⟨by unfold endLoop;rw [t1,t2];rfl⟩,⟨D3⟩,⟨B3⟩,⟨Z3⟩⟩
    ·have t1:decide (b>0)=false:=decide_eq_false e1
     replace e1:=Aside0.mk e1
     go_wp2
     go_meet
     case rel=>exact ⟨false,rfl,⟨by unfold endLoop;rw [t1];rfl⟩,⟨D3⟩,⟨B3⟩,⟨Z3⟩⟩
 clear D3 Z3 B3
 obtain ⟨lp,rfl,HL,⟨D3⟩,⟨B3⟩,⟨Z3⟩⟩:=hcut
 by_cases hk0:endKind F.bl.length b pk pl=0
 ·rw [if_pos hk0] at h
  unfold mkEndR at h
  as_aux_lemma=>
   replace hl:lp=false:=HL.out.trans hl
   subst hl
   have k1:kind=0:=HX.out.trans hk0
   subst k1
   split at h
   case isFalse=>exact absurd h (by simp)
   rename_i hlim
   obtain ⟨⟨F1,vals1,rets⟩,hL,h⟩:=Option.bind_eq_some_iff.mp h
   replace hlim:=Aside0.mk hlim
   replace hL:=Aside0.mk hL
   obtain ⟨AR,cR,rfl⟩:=Kd.R_slice hM.rR
   go_wp2
   go_loopg [10] F.rt.length (fun kq v10 w'=>∃ (i:Int) (Fi:FN) (vi acc:List Int) (aW aV vE:Value),v10 = .int .i64 i∧Aside0 (0≤i∧i+kq=F.rt.length∧(acc.length:Int)=i)∧Aside0 (mkRetsL b F.rt pt kq i Fi vi acc=some (F1,vals1,rets))∧Aside0 (SameF F Fi)∧Aside0 (Mid w0 w P (fun k=>(k=g∨k=g5)∨some k=vE.ownBlock) gm gf vW vA vS (.slice AR F.rt.length cR) (.slice (some ⟨gB,0,none⟩) F.bl.length cap) vV Fi b vi aW aV w')∧Aside0 (Kd.R (Kd.int .i64) 3 w' w0.heap.size (fun k=>some k=vE.ownBlock) vE acc)∧Aside0 (w'.heap[g]? = some (.cells #[.slice A1 n1 c1,.slice A2 n2 c2,.int .u8 pk,.int .u8 pc,.int .u8 pt,.int .u8 pf,.bool pl] 75 (0,0)))∧Aside0 (w'.heap[g5]? = some (.cells #[.int .i64 3,.int .i64 (-1),.slice none 0 0,vE] 51 (0,0))))
   case atStart=>exact ⟨0,F,vals,[],_,_,.slice none 0 0,rfl,⟨by simp⟩,hL,⟨SameF.refl F⟩,⟨D3.reO (fun k e=>e.elim id (fun e=>by simp [Value.ownBlock] at e))⟩,⟨Kd.R_nil _ _ _ _ _⟩,⟨B3⟩,⟨Z3⟩⟩
   case round=>
    clear D3 B3 Z3
    obtain ⟨i,Fi,vi,acc,aW,aV,vE,rfl,HI,HL2,HS,⟨D⟩,HO,⟨B⟩,⟨Z⟩⟩:=hrel
    have c1:=D.M.cells.1
    have c7:=D.M.cells.2.2.2.2.2.2.1
    obtain ⟨AE,cE,rfl⟩:=Kd.R_slice HO.out
    by_cases hlt:i<(F.rt.length:Int)
    ·have e0:decide (i<(F.rt.length:Int))=true:=decide_eq_true hlt
     obtain ⟨kq,rfl⟩:∃ q,gk=q+1:=⟨gk - 1,by have:=HI.out;omega⟩
     have HL':=HL2.out
     rw [mkRetsL] at HL'
     obtain ⟨⟨F2,vals2,x2⟩,hval,HL'⟩:=Option.bind_eq_some_iff.mp HL'
     have rr:=D.drew.M.rR
     rw [HS.out.2.2.2.1] at rr
     obtain ⟨ad,e,xp⟩:=Kd.at_int (Kd.R_reads' rr).2.2 i HI.out.1 hlt
     cases e
     have p0:(0≤i)=True:=eq_true HI.out.1
     have q0:(i<(F.rt.length:Int))=True:=eq_true hlt
     have hwi:wrap64 (i+1)=i+1:=w64m _ (by have:=HI.out.1;omega) (by have:=hlim.out;omega)
     replace hwi:=Aside0.mk hwi
     replace hlt:=Aside0.mk hlt
     clear rr
     try go_wp2
     clear c1 c7
     refine start_ (n:=23) (S:=fun w'=>w'.cell? ⟨g5,3,none⟩=some (.slice AE acc.length cE)∧w'.cell? ⟨gm,0,none⟩=some (.pointer (some ⟨gf,0,none⟩))∧w'.cell? ⟨gf,4,none⟩=some (.slice (some ad) F.rt.length cR)∧w'.cell? (ad.add i.toNat)=some (.int .i64 (rd F.rt i))∧w'.cell? ⟨g,4,none⟩=some (.int .u8 pt)) (ds:=[22]) (bz 23 0) (by kernel_rfl) rfl rfl ⟨(own_cell (blk_drew Z) 3 (.slice AE acc.length cE) rfl),(D.drew.M.cells.1),(D.drew.M.cells.2.2.2.2.2.2.1),(xp),(own_cell (blk_drew B) 4 (.int .u8 pt) rfl)⟩ (fun hHeld=>?_)
     refine with_tabW mkEndR.tab24 mkEndR.bits24 (fun HT_ HW_=>?_)
     have D2:=D.drew
     have Z2:=blk_drew Z
     have B2:=blk_drew B
     have R2:=Kd.R_drew HO.out
     generalize wr.drew=w2 at hHeld D2 Z2 B2 R2 xp ⊢
     clear D Z B
     refine pu_ 0 167 HT_ ?_
     refine pu_ 2 169 HT_ ?_
     refine pu_ 3 170 HT_ ?_
     refine pu_ 4 171 HT_ ?_
     refine pu_ 5 172 HT_ ?_
     refine pu_ 10 177 HT_ ?_
     refine pu_ 13 180 HT_ ?_
     refine pu_ 15 182 HT_ ?_
     refine pu_ 16 183 HT_ ?_
     refine tk_ 1 168 HT_ HW_ hHeld ?_ (hy:=by rintro w' ⟨s0,s1,s2,s3,s4⟩;go_simp;with_reducible rfl)
     refine tk_ 6 173 HT_ HW_ hHeld ?_ (hy:=by rintro w' ⟨s0,s1,s2,s3,s4⟩;go_simp;with_reducible rfl)
     refine pu_ 7 174 HT_ ?_
     refine pu_ 8 175 HT_ ?_
     refine tk_ 9 176 HT_ HW_ hHeld ?_ (hy:=by rintro w' ⟨s0,s1,s2,s3,s4⟩;go_simp;with_reducible rfl)
     refine pu_ 11 178 HT_ ?_
     refine tk_ 12 179 HT_ HW_ hHeld ?_ (hy:=by rintro w' ⟨s0,s1,s2,s3,s4⟩;go_simp;with_reducible rfl)
     refine tk_ 14 181 HT_ HW_ hHeld ?_ (hy:=by rintro w' ⟨s0,s1,s2,s3,s4⟩;go_simp;with_reducible rfl)
     refine pu_ 17 184 HT_ ?_
     refine on_ 18 (some 185) HT_ (fun K hK=>?_)
     refine gs_ Try.func43 #[.pointer (some ⟨gm,0,none⟩),.int .i64 (rd F.rt i),.int .u8 ((pt+i % 256) % 256)] ?_
     refine (mkValue_calls D2.M hval).mono ?_
     rintro e w5 ⟨rfl,hA⟩
     refine ⟨_,rfl,?_⟩
     obtain ⟨vW4,vV4,D4,hk⟩:=D2.next hA
     have Z4:=(hk g5 (.inl (.inr rfl))).trans Z2
     have B4:=(hk g (.inl (.inl rfl))).trans B2
     have R4:=Kd.R_step R2 (fun q e _=>hk q (.inr e))
     have rr:=D4.M.rR
     rw [(HS.out.trans (mkValue_same hval)).2.2.2.1] at rr
     obtain ⟨ad',e',xp4⟩:=Kd.at_int (Kd.R_reads' rr).2.2 i HI.out.1 hlt.out
     cases e'
     clear hA hk rr
     refine hK.out _ _ ⟨own_cell Z4 3 (.slice AE acc.length cE) rfl,D4.M.cells.1,D4.M.cells.2.2.2.2.2.2.1,xp4,own_cell B4 4 (.int .u8 pt) rfl⟩ (fun hHeld=>?_);clear hK K
     refine no_ 185 ?_
     refine on_ 19 (some 186) HT_ (fun K hK=>?_)
     refine value_ (w1:=?_) (v:=?_) (by rfl) rfl ?_ ?_;rotate_left 2;(go_simp;constructor);(rfl);(rfl)
     refine hK.out _ _ ⟨own_cell (blk_alloc Z4 _) 3 (.slice AE acc.length cE) rfl,(D4.alloc _).M.cells.1,(D4.alloc _).M.cells.2.2.2.2.2.2.1,pw_cell_below (below_alloc (Below.refl _ _) _) xp4,own_cell (blk_alloc B4 _) 4 (.int .u8 pt) rfl⟩ (fun hHeld=>?_);clear hK K
     refine no_ 186 ?_
     refine on_ 20 (some 187) HT_ (fun K hK=>?_)
     refine Kd.R_append_step (Kd.int .i64) (w0:=w5) w0.heap.size (by rfl) (.tmp 168) (.tmp 186) 29 3 (.int .i64 0) 8 rfl Try.underlying29 info3 rfl (by decide) (by omega) (.slice AE acc.length cE) acc x2 [.int .i64 x2] (fun q=>some q=(Value.slice AE acc.length cE).ownBlock∨w5.heap.size≤q) (fun _=>False) rfl rfl ?aP (fun _ hk=>hk.elim) (fun q hq=>.inr hq) (Kd.R_mono R4 (fun q hq=>.inl hq)) (Below.refl _ _) D4.M.ge ?aL ?_
     (case aP=>exact rfl)
     (case aL=>have:=HI.out;have:=hlim.out;have:=hlt.out;omega)
     intro v9 w9 ho hb9 hg9 hat
     obtain ⟨A9,c9,e9⟩:=Kd.R_slice ho
     rw [List.length_append,List.length_singleton] at e9
     subst e9
     have Z5:=blk_grown Z4 hg9 (Kd.R_ne R4 Z4 (by decide))
     have B5:=blk_grown B4 hg9 (Kd.R_ne R4 B4 (by decide))
     have D5:=D4.grown hg9 hat (Kd.R_lt ho)
     have rr:=D5.M.rR
     rw [(HS.out.trans (mkValue_same hval)).2.2.2.1] at rr
     obtain ⟨ad',e',xp5⟩:=Kd.at_int (Kd.R_reads' rr).2.2 i HI.out.1 hlt.out
     cases e'
     clear rr
     refine hK.out _ _ ⟨own_cell Z5 3 (.slice AE acc.length cE) rfl,D5.M.cells.1,D5.M.cells.2.2.2.2.2.2.1,xp5,own_cell B5 4 (.int .u8 pt) rfl⟩ (fun hHeld=>?_);clear hK K
     refine no_ 187 ?_
     refine pu_ 21 188 HT_ ?_
     refine la_ 22 none HT_ (fun K hK=>?_)
     have s1:=blk_frozen Z5 3
     have s2:=own_cell Z5 3 (.slice AE acc.length cE) rfl
     refine skip_ (w1:=?_) (by rfl) rfl ?_ ?_;rotate_left;(go_simp)
     rfl
     clear s1 s2
     refine hK.out _ _ ?_;clear hK K
     refine done_ (done_of HT_.out (by kernel_rfl)) ?_
     have D6:=D5.store (g:=g5) (.inl (.inr rfl)) 3 (.slice A9 (acc.length+1) c9)
     have Z6:=blk_put Z5 3 (.slice A9 (acc.length+1) c9) rfl
     have B6:=blk_far B5 (p:=⟨g5,3,none⟩) n35 (.slice A9 (acc.length+1) c9)
     have R6:=Kd.R_set (Kd.R_tight rfl ho) Z5 (by decide) 3 (.slice A9 (acc.length+1) c9)
     clear hHeld D2 Z2 B2 R2 D4 Z4 B4 R4 D5 Z5 B5 xp xp4 xp5 ho hb9 hg9 hat
     generalize World.setCell _ _ _=w10 at D6 Z6 B6 R6 ⊢
     go_wp2
     go_roundg kq
     case measure=>omega
     case rel=>exact ⟨wrap64 (i+1),F2,vals2,acc++[x2],_,_,.slice A9 (acc.length+1) c9,rfl,⟨by have:=HI.out;rw [hwi.out,List.length_append,List.length_singleton];omega⟩,⟨by rw [hwi.out];exact HL'⟩,⟨HS.out.trans (mkValue_same hval)⟩,⟨D6⟩,⟨R6⟩,⟨B6⟩,⟨Z6⟩⟩
    ·have e0:decide (i<(F.rt.length:Int))=false:=decide_eq_false hlt
     have e1:gk=0:=by have:=HI.out;omega
     subst e1
     have eL:=HL2.out
     rw [mkRetsL] at eL
     injection eL with eL
     injection eL with eF eL
     injection eL with ev ea
     subst eF ev ea
     replace hlt:=Aside0.mk hlt
     have hlen:Fi.bl.length=F.bl.length:=HS.out.2.2.2.2
     have R8:=HO.out
     go_upto_region 28 with (fail)
     clear c1 c7
     unfold mkTerm at h
     split at h
     case isFalse=>exact absurd h (by simp)
     injection h with h
     injection h with hF hv
     subst hF hv
     try go_wp2
     have D9:=D.drew
     have Z9:=blk_drew Z
     have RT:=Kd.R_drew (Kd.R_nil k111 111 wr w0.heap.size (fun k=>some k=(Value.slice AE acc.length cE).ownBlock))
     have RQ:=Kd.R_drew R8
     have DM:=D9.M
     rw [← hlen] at DM
     replace hlen:=Aside0.mk hlen
     have hb1:b<(Fi.bl.length:Int):=by rw [hlen.out];exact hb.out.2
     obtain ⟨gB',cap',oki,v0,v1,v4,v5,eB,hcc,r0,r1,r4,r5,hok,⟨csB,tB⟩,hfr,hH⟩:=DM.lend hb.out.1 hb1
     cases eB
     refine start_ (n:=15) (S:=fun w'=>w'.cell? ⟨gm,0,none⟩=some (.pointer (some ⟨gf,0,none⟩))∧w'.cell? ⟨gm,1,none⟩=some (.int .i64 b)∧w'.cell? ⟨gf,5,none⟩=some (.slice (some ⟨gB,0,none⟩) Fi.bl.length cap)∧w'.cell? ⟨g5,0,none⟩=some (.int .i64 3)∧w'.cell? ⟨g5,1,none⟩=some (.int .i64 (-1))∧w'.cell? ⟨g5,2,none⟩=some ((.slice none 0 0))∧w'.cell? ⟨g5,3,none⟩=some ((.slice AE acc.length cE))) (ds:=[14]) (bz 15 0) (by kernel_rfl) rfl rfl ⟨(DM.cells.1),(DM.cells.2.1),(DM.cells.2.2.2.2.2.2.2),((blk_cell Z9 0).trans rfl),((blk_cell Z9 1).trans rfl),((blk_cell Z9 2).trans rfl),((blk_cell Z9 3).trans rfl)⟩ (fun hHeld=>?_)
     refine with_tabW mkEndL.tab28 mkEndL.bits28 (fun HT_ HW_=>?_)
     generalize wr.drew=w16 at hHeld D9 DM Z9 RT RQ hcc r0 r1 r4 r5 tB hfr hH ⊢
     have bd0:(0≤b)=True:=eq_true hb.out.1
     have bd1:(b<(Fi.bl.length:Int))=True:=eq_true hb1
     refine pu_ 0 200 HT_ ?_
     refine pu_ 1 201 HT_ ?_
     refine pu_ 2 202 HT_ ?_
     refine pu_ 7 207 HT_ ?_
     refine pu_ 8 208 HT_ ?_
     refine pu_ 9 209 HT_ ?_
     refine tk_ 3 203 HT_ HW_ hHeld ?_ (hy:=by rintro w' ⟨s0,s1,s2,s3,s4,s5,s6⟩;go_simp;with_reducible rfl)
     refine pu_ 4 204 HT_ ?_
     refine pu_ 5 205 HT_ ?_
     refine tk_ 6 206 HT_ HW_ hHeld ?_ (hy:=by rintro w' ⟨s0,s1,s2,s3,s4,s5,s6⟩;go_simp;with_reducible rfl)
     refine tk_ 10 210 HT_ HW_ hHeld ?_ (hy:=by rintro w' ⟨s0,s1,s2,s3,s4,s5,s6⟩;go_simp;with_reducible rfl)
     refine tk_ 11 211 HT_ HW_ hHeld ?_ (hy:=by rintro w' ⟨s0,s1,s2,s3,s4,s5,s6⟩;go_simp;with_reducible rfl)
     refine pu_ 12 212 HT_ ?_
     refine pu_ 13 213 HT_ ?_
     refine la_ 14 none HT_ (fun K hK=>?_)
     have s2:=hcc 2 _ rfl
     have s3:=hcc 3 _ rfl
     have s4:=hcc 4 _ rfl
     have s5:=hcc 5 _ rfl
     have u2:=hfr 2
     have u3:=hfr 3
     have u4:=hfr 4
     have u5:=hfr 5
     refine skip_ (w1:=?_) (by rfl) rfl ?_ ?_;rotate_left;(go_simp)
     rfl
     clear s2 s3 s4 s5 u2 u3 u4 u5
     refine hK.out _ _ ?_;clear hK K
     refine done_ (done_of HT_.out (by kernel_rfl)) ?_
     obtain ⟨M12,K12⟩:=DM.set_term (kind:=3) (cond:=(-1)) (es:=[]) (rets:=acc) (PA:=(fun k=>some k=(Value.slice AE acc.length cE).ownBlock)) hb.out.1 hb1 hok hH r0 r1 RT RQ (fun k hk h=>h.2 ((fun e=>.inr e) hk))
     have K13:=D9.K.then_ K12 (Turn.trans (fun _ e=>e.1) D9.K D9.S D9.T)
     rw [hlen.out] at M12
     try go_wp2
     go_end0
     refine ⟨rfl,_,_,M12.mono ?_,K13,D9.S,D9.T⟩
     intro k hk
     rcases hk with (hk | hk) | hk
     ·exact hk.1
     ·exact .inr (D9.hO k ((fun e=>.inr e) hk)).1
     ·exact .inr (Nat.le_trans D9.K.1 hk)
 rw [if_neg hk0] at h
 by_cases hk:endKind F.bl.length b pk pl=1
 ·rw [if_pos hk] at h
  unfold mkEndJ at h
  as_aux_lemma=>
   have k1:kind=1:=HX.out.trans hk
   subst k1
   have hl:lp=false:=HL.out.trans hl
   subst hl
   obtain ⟨⟨F1,vals1,x1⟩,h1,h⟩:=Option.bind_eq_some_iff.mp h
   have f0:=blk_frozen Z3 0
   have d0:=own_cell Z3 0 ((.int .i64 3)) rfl
   go_upto_region 27 with (fail)
   have D5:=D3.store (g:=g5) (.inr rfl) 0 (.int .i64 1)
   have Z5:=blk_put Z3 0 (.int .i64 1) rfl
   have B5:=blk_far B3 (p:=⟨g5,0,none⟩) n35 (.int .i64 1)
   clear f0 d0 D3 Z3 B3
   generalize World.setCell _ _ _=w5 at D5 Z5 B5 ⊢
   have p4:=own_cell B5 4 (.int .u8 pt) rfl
   go_upto_region 28 with (first | (go_at_call 47;refine (mkEdge_calls D5.M h1).mono ?_;rintro e w6 ⟨vE,vW2,vV2,rfl,m,k,s,q,r⟩;obtain ⟨D6,hk6,R6⟩:=D5.next_edge m k s q r;have Z6:=(hk6 g5 (.inr rfl)).trans Z5;have f2:=blk_frozen (blk_alloc Z6 (.cells #[.int .i64 x1.f0,vE] 111)) 2;have d2:=own_cell (blk_alloc Z6 (.cells #[.int .i64 x1.f0,vE] 111)) 2 (.slice none 0 0) rfl;clear m k s q r hk6 p4))
   clear f2 d2 D5 Z5
   generalize hq:World.alloc _ _=w7
   obtain ⟨D7,hb7,R7⟩:=D6.row k111 (xs:=[x1]) (inner:=[.int .i64 x1.f0,vE]) hq rfl (Reps.front (k111_mkM _ _ _ x1 R6) rfl (Reps.none _ _) rfl) (by show 1≤_;omega)
   have Z7:=blk_below Z6 hb7
   have D8:=D7.store (g:=g5) (.inl (.inl (.inr rfl))) 2 (.slice (some ⟨w6.heap.size,0,none⟩) 1 1)
   have Z8:=blk_put Z7 2 (.slice (some ⟨w6.heap.size,0,none⟩) 1 1) rfl
   have R8:=Kd.R_set R7 Z7 (by decide) 2 (.slice (some ⟨w6.heap.size,0,none⟩) 1 1)
   clear D6 Z6 R6 R7 D7 Z7 hb7 hq
   generalize World.setCell _ _ _=w8 at D8 Z8 R8 ⊢
   generalize w6.heap.size=gT at D8 Z8 R8 ⊢
   have hlen:F1.bl.length=F.bl.length:=(mkEdge_same h1).2.2.2.2
   unfold mkTerm at h
   split at h
   case isFalse=>exact absurd h (by simp)
   injection h with h
   injection h with hF hv
   subst hF hv
   try go_wp2
   have D9:=D8.drew
   have Z9:=blk_drew Z8
   have RT:=Kd.R_drew R8
   have DM:=D9.M
   rw [← hlen] at DM
   replace hlen:=Aside0.mk hlen
   have hb1:b<(F1.bl.length:Int):=by rw [hlen.out];exact hb.out.2
   obtain ⟨gB',cap',oki,v0,v1,v4,v5,eB,hcc,r0,r1,r4,r5,hok,⟨csB,tB⟩,hfr,hH⟩:=DM.lend hb.out.1 hb1
   cases eB
   refine start_ (n:=15) (S:=fun w'=>w'.cell? ⟨gm,0,none⟩=some (.pointer (some ⟨gf,0,none⟩))∧w'.cell? ⟨gm,1,none⟩=some (.int .i64 b)∧w'.cell? ⟨gf,5,none⟩=some (.slice (some ⟨gB,0,none⟩) F1.bl.length cap)∧w'.cell? ⟨g5,0,none⟩=some (.int .i64 1)∧w'.cell? ⟨g5,1,none⟩=some (.int .i64 (-1))∧w'.cell? ⟨g5,2,none⟩=some ((.slice (some ⟨gT,0,none⟩) 1 1))∧w'.cell? ⟨g5,3,none⟩=some ((.slice none 0 0))) (ds:=[14]) (bz 15 0) (by kernel_rfl) rfl rfl ⟨(DM.cells.1),(DM.cells.2.1),(DM.cells.2.2.2.2.2.2.2),((blk_cell Z9 0).trans rfl),((blk_cell Z9 1).trans rfl),((blk_cell Z9 2).trans rfl),((blk_cell Z9 3).trans rfl)⟩ (fun hHeld=>?_)
   refine with_tabW mkEndL.tab28 mkEndL.bits28 (fun HT_ HW_=>?_)
   generalize w8.drew=w16 at hHeld D9 DM Z9 RT hcc r0 r1 r4 r5 tB hfr hH ⊢
   have bd0:(0≤b)=True:=eq_true hb.out.1
   have bd1:(b<(F1.bl.length:Int))=True:=eq_true hb1
   refine pu_ 0 200 HT_ ?_
   refine pu_ 1 201 HT_ ?_
   refine pu_ 2 202 HT_ ?_
   refine pu_ 7 207 HT_ ?_
   refine pu_ 8 208 HT_ ?_
   refine pu_ 9 209 HT_ ?_
   refine tk_ 3 203 HT_ HW_ hHeld ?_ (hy:=by rintro w' ⟨s0,s1,s2,s3,s4,s5,s6⟩;go_simp;with_reducible rfl)
   refine pu_ 4 204 HT_ ?_
   refine pu_ 5 205 HT_ ?_
   refine tk_ 6 206 HT_ HW_ hHeld ?_ (hy:=by rintro w' ⟨s0,s1,s2,s3,s4,s5,s6⟩;go_simp;with_reducible rfl)
   refine tk_ 10 210 HT_ HW_ hHeld ?_ (hy:=by rintro w' ⟨s0,s1,s2,s3,s4,s5,s6⟩;go_simp;with_reducible rfl)
   refine tk_ 11 211 HT_ HW_ hHeld ?_ (hy:=by rintro w' ⟨s0,s1,s2,s3,s4,s5,s6⟩;go_simp;with_reducible rfl)
   refine pu_ 12 212 HT_ ?_
   refine pu_ 13 213 HT_ ?_
   refine la_ 14 none HT_ (fun K hK=>?_)
   have s2:=hcc 2 _ rfl
   have s3:=hcc 3 _ rfl
   have s4:=hcc 4 _ rfl
   have s5:=hcc 5 _ rfl
   have u2:=hfr 2
   have u3:=hfr 3
   have u4:=hfr 4
   have u5:=hfr 5
   refine skip_ (w1:=?_) (by rfl) rfl ?_ ?_;rotate_left;(go_simp)
   rfl
   clear s2 s3 s4 s5 u2 u3 u4 u5
   refine hK.out _ _ ?_;clear hK K
   refine done_ (done_of HT_.out (by kernel_rfl)) ?_
   obtain ⟨M12,K12⟩:=DM.set_term (kind:=1) (cond:=(-1)) (es:=[x1]) (rets:=[]) (PA:=(fun k=>some k=vE.ownBlock∨k=gT)) hb.out.1 hb1 hok hH r0 r1 RT (Kd.R_nil _ _ _ _ _) (fun k hk h=>h.2 ((fun e=>e.elim (fun e=>.inl (.inr e)) .inr) hk))
   have K13:=D9.K.then_ K12 (Turn.trans (fun _ e=>e.1) D9.K D9.S D9.T)
   rw [hlen.out] at M12
   try go_wp2
   go_end0
   refine ⟨rfl,_,_,M12.mono ?_,K13,D9.S,D9.T⟩
   intro k hk
   rcases hk with (hk | hk) | hk
   ·exact hk.1
   ·exact .inr (D9.hO k ((fun e=>e.elim (fun e=>.inl (.inr e)) .inr) hk)).1
   ·exact .inr (Nat.le_trans D9.K.1 hk)
 rw [if_neg hk] at h
 unfold mkEndB at h
 as_aux_lemma=>
  replace hl:lp=false:=HL.out.trans hl
  subst hl
  have k0:(kind==0)=false:=beq_eq_false_iff_ne.mpr (by rw [HX.out];exact hk0)
  have k1:(kind==1)=false:=beq_eq_false_iff_ne.mpr (by rw [HX.out];exact hk)
  obtain ⟨⟨F0,vals0,x0⟩,h0,h⟩:=Option.bind_eq_some_iff.mp h
  obtain ⟨⟨F1,vals1,x1⟩,h1,h⟩:=Option.bind_eq_some_iff.mp h
  obtain ⟨⟨F2,vals2,x2⟩,h2,h⟩:=Option.bind_eq_some_iff.mp h
  have f0:=blk_frozen Z3 0
  have d0:=own_cell Z3 0 ((.int .i64 3)) rfl
  go_upto_region 9 with (fail)
  have D5:=D3.store (g:=g5) (.inr rfl) 0 (.int .i64 2)
  have Z5:=blk_put Z3 0 (.int .i64 2) rfl
  have B5:=blk_far B3 (p:=⟨g5,0,none⟩) n35 (.int .i64 2)
  clear f0 d0 D3 Z3 B3
  generalize World.setCell _ _ _=w5 at D5 Z5 B5 ⊢
  have p3:=own_cell B5 3 (.int .u8 pc) rfl
  go_upto_region 10 with (first | (go_at_call 43;refine (mkValue_calls D5.M h0).mono ?_;rintro e w6 ⟨rfl,hA⟩;obtain ⟨vW6,vV6,D6,hk6⟩:=D5.next hA;have Z6:=(hk6 g5 (.inr rfl)).trans Z5;have B6:=(hk6 g (.inl rfl)).trans B5;have f1:=blk_frozen Z6 1;have d1:=own_cell Z6 1 (.int .i64 (-1)) rfl;clear hA hk6 p3))
  have D7:=D6.store (g:=g5) (.inr rfl) 1 (.int .i64 x0)
  have Z7:=blk_put Z6 1 (.int .i64 x0) rfl
  have B7:=blk_far B6 (p:=⟨g5,1,none⟩) n35 (.int .i64 x0)
  clear f1 d1 D5 Z5 B5 D6 Z6 B6
  generalize World.setCell _ _ _=w7 at D7 Z7 B7 ⊢
  try go_wp2
  refine start_ (n:=13) (S:=fun w'=>w'.cell? ⟨g,4,none⟩=some (.int .u8 pt)∧w'.cell? ⟨g,5,none⟩=some (.int .u8 pf)) (ds:=[12]) (bz 13 0) (by kernel_rfl) rfl rfl ⟨(own_cell (blk_drew B7) 4 (.int .u8 pt) rfl),(own_cell (blk_drew B7) 5 (.int .u8 pf) rfl)⟩ (fun hHeld=>?_)
  refine with_tabW mkEndB.tab10 mkEndB.bits10 (fun HT_ HW_=>?_)
  have D8:=D7.drew
  have Z8:=blk_drew Z7
  have B8:=blk_drew B7
  generalize w7.drew=w8 at hHeld D8 Z8 B8 ⊢
  clear D7 Z7 B7
  refine pu_ 0 74 HT_ ?_
  refine pu_ 1 75 HT_ ?_
  refine pu_ 2 76 HT_ ?_
  refine pu_ 5 79 HT_ ?_
  refine pu_ 6 80 HT_ ?_
  refine pu_ 7 81 HT_ ?_
  refine tk_ 3 77 HT_ HW_ hHeld ?_ (hy:=by rintro w' ⟨s0,s1⟩;go_simp;with_reducible rfl)
  refine tk_ 8 82 HT_ HW_ hHeld ?_ (hy:=by rintro w' ⟨s0,s1⟩;go_simp;with_reducible rfl)
  refine on_ 4 (some 78) HT_ (fun K hK=>?_)
  refine gs_ Try.func47 #[.pointer (some ⟨gm,0,none⟩),.int .i64 (endTo F.bl.length pt),.int .u8 pt] ?_
  refine (mkEdge_calls D8.M h1).mono ?_
  rintro e w9 ⟨vE1,vW9,vV9,rfl,m,k,s,q,r⟩
  refine ⟨_,rfl,?_⟩
  obtain ⟨D9,hk,R9⟩:=D8.next_edge m k s q r
  have B9:=(hk g (.inl rfl)).trans B8
  have Z9:=(hk g5 (.inr rfl)).trans Z8
  clear m k s q r hk
  refine hK.out _ _ ⟨own_cell B9 4 (.int .u8 pt) rfl,own_cell B9 5 (.int .u8 pf) rfl⟩ (fun hHeld=>?_);clear hK K
  refine no_ 78 ?_
  refine on_ 9 (some 83) HT_ (fun K hK=>?_)
  refine gs_ Try.func47 #[.pointer (some ⟨gm,0,none⟩),.int .i64 (endTo F.bl.length pf),.int .u8 pf] ?_
  refine (mkEdge_calls D9.M h2).mono ?_
  rintro e w10 ⟨vE2,vW10,vV10,rfl,m,k,s,q,r⟩
  refine ⟨_,rfl,?_⟩
  obtain ⟨D10,hk,R10⟩:=D9.next_edge m k s q r
  have B10:=(hk g (.inl (.inl rfl))).trans B9
  have Z10:=(hk g5 (.inl (.inr rfl))).trans Z9
  have R91:=Kd.R_step R9 (fun i hi _=>hk i (.inr hi))
  clear m k s q r hk
  refine hK.out _ _ ⟨own_cell B10 4 (.int .u8 pt) rfl,own_cell B10 5 (.int .u8 pf) rfl⟩ (fun hHeld=>?_);clear hK K
  refine no_ 83 ?_
  refine on_ 10 (some 84) HT_ (fun K hK=>?_)
  refine value_ (w1:=?_) (v:=?_) (by rfl) rfl ?_ ?_;rotate_left 2;(go_simp;constructor);(rfl);(rfl)
  generalize hq:World.alloc _ _=w11
  obtain ⟨D11,hb11,R11⟩:=D10.row k111 (xs:=[x1,x2]) (inner:=[.int .i64 x1.f0,vE1,.int .i64 x2.f0,vE2]) (okp:=fun k=>some k=vE1.ownBlock∨some k=vE2.ownBlock) hq rfl (Reps.front (k111_mkM _ _ _ x1 (Kd.R_mono R91 (fun k hk=>.inl hk))) rfl (Reps.front (k111_mkM _ _ _ x2 (Kd.R_mono R10 (fun k hk=>.inr hk))) rfl (Reps.none _ _) rfl) rfl) (by show 2≤_;omega)
  have T11:=(D10.new _ hq).2.2
  have Z11:=blk_below Z10 hb11
  have B11:=blk_below B10 hb11
  have R911:=Kd.R_below R91 hb11
  have R101:=Kd.R_below R10 hb11
  clear hq
  refine hK.out _ _ ⟨own_cell B11 4 (.int .u8 pt) rfl,own_cell B11 5 (.int .u8 pf) rfl⟩ (fun hHeld=>?_);clear hK K
  refine no_ 84 ?_
  refine pu_ 11 85 HT_ ?_
  refine la_ 12 none HT_ (fun K hK=>?_)
  have f2:=blk_frozen Z11 2
  have d2:=own_cell Z11 2 (.slice none 0 0) rfl
  refine skip_ (w1:=?_) (by rfl) rfl ?_ ?_;rotate_left;(go_simp)
  rfl
  clear f2 d2
  refine hK.out _ _ ?_;clear hK K
  refine done_ (done_of HT_.out (by kernel_rfl)) ?_
  clear hHeld
  have D12:=D11.store (g:=g5) (.inl (.inl (.inl (.inr rfl)))) 2 (.slice (some ⟨w10.heap.size,0,none⟩) 2 2)
  have Z12:=blk_put Z11 2 (.slice (some ⟨w10.heap.size,0,none⟩) 2 2) rfl
  have R12:=Kd.R_set R11 Z11 (by decide) 2 (.slice (some ⟨w10.heap.size,0,none⟩) 2 2)
  clear D8 Z8 B8 D9 Z9 B9 R9 D10 Z10 B10 R91 R10 D11 Z11 R11 hb11 R911 R101 B11
  generalize World.setCell _ _ _=w12 at D12 Z12 R12 ⊢
  generalize w10.heap.size=gT at D12 Z12 R12 ⊢
  have hlen:F2.bl.length=F.bl.length:=(((mkValue_same h0).trans (mkEdge_same h1)).trans (mkEdge_same h2)).2.2.2.2
  unfold mkTerm at h
  split at h
  case isFalse=>exact absurd h (by simp)
  injection h with h
  injection h with hF hv
  subst hF hv
  try go_wp2
  have D9:=D12.drew
  have Z9:=blk_drew Z12
  have RT:=Kd.R_drew R12
  have DM:=D9.M
  rw [← hlen] at DM
  replace hlen:=Aside0.mk hlen
  have hb1:b<(F2.bl.length:Int):=by rw [hlen.out];exact hb.out.2
  obtain ⟨gB',cap',oki,v0,v1,v4,v5,eB,hcc,r0,r1,r4,r5,hok,⟨csB,tB⟩,hfr,hH⟩:=DM.lend hb.out.1 hb1
  cases eB
  refine start_ (n:=15) (S:=fun w'=>w'.cell? ⟨gm,0,none⟩=some (.pointer (some ⟨gf,0,none⟩))∧w'.cell? ⟨gm,1,none⟩=some (.int .i64 b)∧w'.cell? ⟨gf,5,none⟩=some (.slice (some ⟨gB,0,none⟩) F2.bl.length cap)∧w'.cell? ⟨g5,0,none⟩=some (.int .i64 2)∧w'.cell? ⟨g5,1,none⟩=some (.int .i64 x0)∧w'.cell? ⟨g5,2,none⟩=some ((.slice (some ⟨gT,0,none⟩) 2 2))∧w'.cell? ⟨g5,3,none⟩=some ((.slice none 0 0))) (ds:=[14]) (bz 15 0) (by kernel_rfl) rfl rfl ⟨(DM.cells.1),(DM.cells.2.1),(DM.cells.2.2.2.2.2.2.2),((blk_cell Z9 0).trans rfl),((blk_cell Z9 1).trans rfl),((blk_cell Z9 2).trans rfl),((blk_cell Z9 3).trans rfl)⟩ (fun hHeld=>?_)
  refine with_tabW mkEndL.tab28 mkEndL.bits28 (fun HT_ HW_=>?_)
  generalize w12.drew=w16 at hHeld D9 DM Z9 RT hcc r0 r1 r4 r5 tB hfr hH ⊢
  have bd0:(0≤b)=True:=eq_true hb.out.1
  have bd1:(b<(F2.bl.length:Int))=True:=eq_true hb1
  refine pu_ 0 200 HT_ ?_
  refine pu_ 1 201 HT_ ?_
  refine pu_ 2 202 HT_ ?_
  refine pu_ 7 207 HT_ ?_
  refine pu_ 8 208 HT_ ?_
  refine pu_ 9 209 HT_ ?_
  refine tk_ 3 203 HT_ HW_ hHeld ?_ (hy:=by rintro w' ⟨s0,s1,s2,s3,s4,s5,s6⟩;go_simp;with_reducible rfl)
  refine pu_ 4 204 HT_ ?_
  refine pu_ 5 205 HT_ ?_
  refine tk_ 6 206 HT_ HW_ hHeld ?_ (hy:=by rintro w' ⟨s0,s1,s2,s3,s4,s5,s6⟩;go_simp;with_reducible rfl)
  refine tk_ 10 210 HT_ HW_ hHeld ?_ (hy:=by rintro w' ⟨s0,s1,s2,s3,s4,s5,s6⟩;go_simp;with_reducible rfl)
  refine tk_ 11 211 HT_ HW_ hHeld ?_ (hy:=by rintro w' ⟨s0,s1,s2,s3,s4,s5,s6⟩;go_simp;with_reducible rfl)
  refine pu_ 12 212 HT_ ?_
  refine pu_ 13 213 HT_ ?_
  refine la_ 14 none HT_ (fun K hK=>?_)
  have s2:=hcc 2 _ rfl
  have s3:=hcc 3 _ rfl
  have s4:=hcc 4 _ rfl
  have s5:=hcc 5 _ rfl
  have u2:=hfr 2
  have u3:=hfr 3
  have u4:=hfr 4
  have u5:=hfr 5
  refine skip_ (w1:=?_) (by rfl) rfl ?_ ?_;rotate_left;(go_simp)
  rfl
  clear s2 s3 s4 s5 u2 u3 u4 u5
  refine hK.out _ _ ?_;clear hK K
  refine done_ (done_of HT_.out (by kernel_rfl)) ?_
  obtain ⟨M12,K12⟩:=DM.set_term (kind:=2) (cond:=x0) (es:=[x1,x2]) (rets:=[]) (PA:=(fun k=>(some k=vE1.ownBlock∨some k=vE2.ownBlock)∨k=gT)) hb.out.1 hb1 hok hH r0 r1 RT (Kd.R_nil _ _ _ _ _) (fun k hk h=>h.2 ((fun e=>e.elim (fun e=>e.elim (fun e=>.inl (.inl (.inr e))) (fun e=>.inl (.inr e))) .inr) hk))
  have K13:=D9.K.then_ K12 (Turn.trans (fun _ e=>e.1) D9.K D9.S D9.T)
  rw [hlen.out] at M12
  try go_wp2
  go_end0
  refine ⟨rfl,_,_,M12.mono ?_,K13,D9.S,D9.T⟩
  intro k hk
  rcases hk with (hk | hk) | hk
  ·exact hk.1
  ·exact .inr (D9.hO k ((fun e=>e.elim (fun e=>e.elim (fun e=>.inl (.inl (.inr e))) (fun e=>.inl (.inr e))) .inr) hk)).1
  ·exact .inr (Nat.le_trans D9.K.1 hk)
end Go.Proofs.Ytabcdpddhmekkaa.PAll
