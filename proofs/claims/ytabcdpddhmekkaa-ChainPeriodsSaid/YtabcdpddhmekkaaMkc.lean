-- Written for this claim by programs of this session (wip/print2 in its repo: a changed printer, a shortener, a packer). Lean checks it.
import Derived.Test.YtabcdpddhmekkaaMkb
set_option linter.all false
namespace Go.Proofs.Ytabcdpddhmekkaa.PAll
open Go.RowKit Go.Proofs.YtabcdpddhmekkaaW.PrintWords Go.Proofs.YtabcdpddhmekkaaW.PrintLast Go.Proofs.YtabcdpddhmekkaaW.PrintMore
attribute [local go_sem] max2_int min2_int max_two min_two max_three min_three max_four min_four
set_option linter.unusedVariables false
set_option linter.unusedSimpArgs false
set_option maxHeartbeats 8000000 in
set_option maxRecDepth 100000 in
theorem mkEndL_calls {w0 w:World} {P:Nat→Prop} {gm gf n1 c1 n2 c2:Nat} {A1 A2:Option Addr} {F F':FN} {b pk pc pt pf:Int} {pl:Bool} {vals vals':List Int} {vW vA vS vR vB vV:Value} (hM:MKv w0 w P gm gf F b vals vW vA vS vR vB vV) (hb:0≤b∧b<F.bl.length) (hl:endLoop F.bl.length b pl=true)
  (h:mkEndL F b vals pk pc pt pf=some (F',vals')) :
  Calls Try.prog 26 #[.pointer (some ⟨gm,0,none⟩),.agg #[.slice A1 n1 c1,.slice A2 n2 c2,.int .u8 pk,.int .u8 pc,.int .u8 pt,.int .u8 pf,.bool pl]] w fun e w'=>e = .returned (.tuple #[])∧After w0 w P gm gf vW vA vS vR vB vV F' b vals' w':=by
 obtain ⟨gB,cap,rfl,-⟩:=Kd.S_form hM.sB (by omega)
 replace hb:=Aside0.mk hb
 go_enter Try.func26,Try.ntmps26
 go_upto_region 3 with (first | ((with_reducible refine gate_dst (N:=3) rfl ?_);refine box_event ?hg (N:=3) ?hd (cs := #[.slice A1 n1 c1,.slice A2 n2 c2,.int .u8 pk,.int .u8 pc,.int .u8 pt,.int .u8 pf,.bool pl]) (t:=75) ?hr ?_;(case hd=>rfl);(case hg=>rfl);(case hr=>first | (go_simp;done) | (go_simp;rfl));intro g hg w1 hbox hb1;have D:=Mid.start (O:=fun k=>k=g) hM hb1 (fun k e=>by have:=blk_lt hbox;omega);have B:=hbox;have z0:=D.M.cells.1;have z5:=D.M.cells.2.2.2.2.2.2.2;clear hbox hb1;replace hg:=Aside0.mk hg) | ((with_reducible refine gate_dst (N:=5) rfl ?_);refine box_event ?hg (N:=5) ?hd (cs := #[.int .i64 0,.int .i64 0,.slice none 0 0,.slice none 0 0]) (t:=51) ?hr ?_;(case hd=>rfl);(case hg=>rfl);(case hr=>first | (go_simp;done) | (go_simp;rfl));intro g5 hg5 w2 hbox hb1;replace hg5:=Aside0.mk hg5;replace D:=D.grow (O':=fun k=>k=g∨k=g5) hb1 (fun k e=>e.imp id (fun e=>by have:=blk_lt hbox;have:=hg5.out;omega));have n35:g≠g5:=(by have:=blk_lt B;have:=hg5.out;omega);replace B:=blk_below B hb1;have Z:=hbox;have f0:=blk_frozen hbox 0;have f1:=blk_frozen hbox 1;have f2:=blk_frozen hbox 2;have f3:=blk_frozen hbox 3;have d0:w2.cell? ⟨g5,0,none⟩=some (.int .i64 0):=(blk_cell hbox 0).trans rfl;have d1:w2.cell? ⟨g5,1,none⟩=some (.int .i64 0):=(blk_cell hbox 1).trans rfl;have d2:w2.cell? ⟨g5,2,none⟩=some (.slice none 0 0):=(blk_cell hbox 2).trans rfl;have d3:w2.cell? ⟨g5,3,none⟩=some (.slice none 0 0):=(blk_cell hbox 3).trans rfl))
 have D3:=((((D.store (g:=g5) (.inr rfl) 0 (.int .i64 3)).store (g:=g5) (.inr rfl) 1 (.int .i64 (-1))).store (g:=g5) (.inr rfl) 2 (.slice none 0 0)).store (g:=g5) (.inr rfl) 3 (.slice none 0 0))
 have Z3:=(blk_put (blk_put (blk_put (blk_put Z 0 (.int .i64 3) rfl) 1 (.int .i64 (-1)) rfl) 2 (.slice none 0 0) rfl) 3 (.slice none 0 0) rfl)
 have B3:=(blk_far (blk_far (blk_far (blk_far B (p:=⟨g5,0,none⟩) n35 (.int .i64 3)) (p:=⟨g5,1,none⟩) n35 (.int .i64 (-1))) (p:=⟨g5,2,none⟩) n35 (.slice none 0 0)) (p:=⟨g5,3,none⟩) n35 (.slice none 0 0))
 clear D Z B f0 f1 f2 f3 d0 d1 d2 d3 z0 z5 hbox hb1
 generalize World.setCell _ _ _=w3 at D3 Z3 B3 ⊢
 have p2:=own_cell B3 2 (.int .u8 pk) rfl
 go_upto_region 4 with (fail)
 clear p2
 go_cut [38] (fun v38 wc=>∃ x:Bool,v38 = .bool x∧Aside0 (x=((F.bl.length:Int)==1 || (b==wrap64 ((F.bl.length:Int) - 1)) && !pl))∧Aside0 (Mid w0 w P (fun k=>k=g∨k=g5) gm gf vW vA vS vR (.slice (some ⟨gB,0,none⟩) F.bl.length cap) vV F b vals vW vV wc)∧Aside0 (wc.heap[g]? = some (.cells #[.slice A1 n1 c1,.slice A2 n2 c2,.int .u8 pk,.int .u8 pc,.int .u8 pt,.int .u8 pf,.bool pl] 75 (0,0)))∧Aside0 (wc.heap[g5]? = some (.cells #[.int .i64 3,.int .i64 (-1),.slice none 0 0,.slice none 0 0] 51 (0,0))))
 case first=>
  as_aux_lemma=>
   have z0:=D3.M.cells.1
   have z1:=D3.M.cells.2.1
   have p6:=own_cell B3 6 (.bool pl) rfl
   by_cases e1:(F.bl.length:Int)=1
   ·have t1:((F.bl.length:Int)==1)=true:=beq_iff_eq.mpr e1
    replace e1:=Aside0.mk e1
    go_wp2
    go_meet
    case rel=>exact ⟨true,rfl,⟨by rw [t1];rfl⟩,⟨D3⟩,⟨B3⟩,⟨Z3⟩⟩
   ·have t1:((F.bl.length:Int)==1)=false:=beq_eq_false_iff_ne.mpr e1
    replace e1:=Aside0.mk e1
    by_cases e2:b=wrap64 ((F.bl.length:Int) - 1)
    ·have t2:(b==wrap64 ((F.bl.length:Int) - 1))=true:=beq_iff_eq.mpr e2
     replace e2:=Aside0.mk e2
     cases pl <;> (go_wp2;go_meet)
     case rel=>exact ⟨true,rfl,⟨by rw [t1,t2];rfl⟩,⟨D3⟩,⟨B3⟩,⟨Z3⟩⟩
     case rel=>exact ⟨false,rfl,⟨by rw [t1,t2];rfl⟩,⟨D3⟩,⟨B3⟩,⟨Z3⟩⟩
    ·have t2:(b==wrap64 ((F.bl.length:Int) - 1))=false:=beq_eq_false_iff_ne.mpr e2
     replace e2:=Aside0.mk e2
     go_wp2
     go_meet
     case rel=>exact ⟨false,rfl,⟨by rw [t1,t2];rfl⟩,⟨D3⟩,⟨B3⟩,⟨Z3⟩⟩
 clear D3 Z3 B3
 obtain ⟨x,rfl,HX,⟨D3⟩,⟨B3⟩,⟨Z3⟩⟩:=hcut
 go_upto_if 38 with (fail)
 go_cut [6] (fun v6 wc=>∃ x:Int,v6 = .int .u8 x∧Aside0 (x=endKind F.bl.length b pk pl)∧Aside0 (Mid w0 w P (fun k=>k=g∨k=g5) gm gf vW vA vS vR (.slice (some ⟨gB,0,none⟩) F.bl.length cap) vV F b vals vW vV wc)∧Aside0 (wc.heap[g]? = some (.cells #[.slice A1 n1 c1,.slice A2 n2 c2,.int .u8 pk,.int .u8 pc,.int .u8 pt,.int .u8 pf,.bool pl] 75 (0,0)))∧Aside0 (wc.heap[g5]? = some (.cells #[.int .i64 3,.int .i64 (-1),.slice none 0 0,.slice none 0 0] 51 (0,0))))
 case first=>
  as_aux_lemma=>
   cases x
   ·go_wp2
    go_meet
    case rel=>exact ⟨Int.tmod pk 4,rfl,⟨by unfold endKind;rw [← HX.out];rfl⟩,⟨D3⟩,⟨B3⟩,⟨Z3⟩⟩
   ·go_wp2
    go_meet
    case rel=>exact ⟨0,rfl,⟨by unfold endKind;rw [← HX.out];rfl⟩,⟨D3⟩,⟨B3⟩,⟨Z3⟩⟩
 clear D3 Z3 B3 HX
 obtain ⟨kind,rfl,HX,⟨D3⟩,⟨B3⟩,⟨Z3⟩⟩:=hcut
 go_upto_region 6 with (fail)
 go_cut [7,8] (fun v7 v8 wc=>v7 = .int .i64 (endTo F.bl.length pt)∧v8 = .int .i64 (endTo F.bl.length pf)∧Aside0 (Mid w0 w P (fun k=>k=g∨k=g5) gm gf vW vA vS vR (.slice (some ⟨gB,0,none⟩) F.bl.length cap) vV F b vals vW vV wc)∧Aside0 (wc.heap[g]? = some (.cells #[.slice A1 n1 c1,.slice A2 n2 c2,.int .u8 pk,.int .u8 pc,.int .u8 pt,.int .u8 pf,.bool pl] 75 (0,0)))∧Aside0 (wc.heap[g5]? = some (.cells #[.int .i64 3,.int .i64 (-1),.slice none 0 0,.slice none 0 0] 51 (0,0))))
 case first=>
  as_aux_lemma=>
   by_cases hm:wrap64 ((F.bl.length:Int) - 1)<1
   ·have em:(if wrap64 ((F.bl.length:Int) - 1)<1 then (1:Int) else wrap64 ((F.bl.length:Int) - 1))=1:=if_pos hm
    skip
    have hmE:=eq_true hm
    clear hm
    replace em:=Aside0.mk em
    try go_wp2
    refine start_ (n:=18) (S:=fun w'=>w'.cell? ⟨g,4,none⟩=some (.int .u8 pt)∧w'.cell? ⟨g,5,none⟩=some (.int .u8 pf)) (ds:=[]) (bz 18 0) (by kernel_rfl) rfl rfl ⟨(own_cell (blk_drew B3) 4 (.int .u8 pt) rfl),(own_cell (blk_drew B3) 5 (.int .u8 pf) rfl)⟩ (fun hHeld=>?_)
    refine with_tabW mkEndhm1.tab6 mkEndhm1.bits6 (fun HT_ HW_=>?_)
    refine pu_ 0 39 HT_ ?_
    refine pu_ 3 42 HT_ ?_
    refine pu_ 4 43 HT_ ?_
    refine pu_ 5 44 HT_ ?_
    refine pu_ 8 47 HT_ ?_
    refine pu_ 11 50 HT_ ?_
    refine pu_ 12 51 HT_ ?_
    refine pu_ 13 52 HT_ ?_
    refine tk_ 1 40 HT_ HW_ hHeld ?_ (hy:=by rintro w' ⟨s0,s1⟩;go_simp;with_reducible rfl)
    refine pu_ 2 41 HT_ ?_
    refine pu_ 6 45 HT_ ?_
    refine pu_ 7 46 HT_ ?_
    refine pu_ 16 7 HT_ ?_
    refine tk_ 9 48 HT_ HW_ hHeld ?_ (hy:=by rintro w' ⟨s0,s1⟩;go_simp;with_reducible rfl)
    refine pu_ 10 49 HT_ ?_
    refine pu_ 14 53 HT_ ?_
    refine pu_ 15 54 HT_ ?_
    refine pu_ 17 8 HT_ ?_
    refine done_ (done_of HT_.out (by kernel_rfl)) ?_
    have D4:=D3.drew
    have B4:=blk_drew B3
    have Z4:=blk_drew Z3
    try go_wp2
    go_meet
    case rel=>exact ⟨by unfold endTo;rw [em.out,Int.tmod_one];rfl,by unfold endTo;rw [em.out,Int.tmod_one];rfl,⟨D4⟩,⟨B4⟩,⟨Z4⟩⟩
   ·have em:(if wrap64 ((F.bl.length:Int) - 1)<1 then (1:Int) else wrap64 ((F.bl.length:Int) - 1))=wrap64 ((F.bl.length:Int) - 1):=if_neg hm
    have m0:¬ wrap64 ((F.bl.length:Int) - 1)=0:=by omega
    have m1:(wrap64 ((F.bl.length:Int) - 1) != 0)=true:=by simpa using m0
    have m2:(wrap64 ((F.bl.length:Int) - 1)==0)=false:=by simpa using m0
    have m3:=eq_false m0
    replace m0:=Aside0.mk m0
    have hmE:=eq_false hm
    clear hm
    replace em:=Aside0.mk em
    try go_wp2
    refine start_ (n:=18) (S:=fun w'=>w'.cell? ⟨g,4,none⟩=some (.int .u8 pt)∧w'.cell? ⟨g,5,none⟩=some (.int .u8 pf)) (ds:=[]) (bz 18 0) (by kernel_rfl) rfl rfl ⟨(own_cell (blk_drew B3) 4 (.int .u8 pt) rfl),(own_cell (blk_drew B3) 5 (.int .u8 pf) rfl)⟩ (fun hHeld=>?_)
    refine with_tabW mkEndhm1.tab6 mkEndhm1.bits6 (fun HT_ HW_=>?_)
    refine pu_ 0 39 HT_ ?_
    refine pu_ 3 42 HT_ ?_
    refine pu_ 4 43 HT_ ?_
    refine pu_ 5 44 HT_ ?_
    refine pu_ 8 47 HT_ ?_
    refine pu_ 11 50 HT_ ?_
    refine pu_ 12 51 HT_ ?_
    refine pu_ 13 52 HT_ ?_
    refine tk_ 1 40 HT_ HW_ hHeld ?_ (hy:=by rintro w' ⟨s0,s1⟩;go_simp;with_reducible rfl)
    refine pu_ 2 41 HT_ ?_
    refine pu_ 6 45 HT_ ?_
    refine pu_ 7 46 HT_ ?_
    refine pu_ 16 7 HT_ ?_
    refine tk_ 9 48 HT_ HW_ hHeld ?_ (hy:=by rintro w' ⟨s0,s1⟩;go_simp;with_reducible rfl)
    refine pu_ 10 49 HT_ ?_
    refine pu_ 14 53 HT_ ?_
    refine pu_ 15 54 HT_ ?_
    refine pu_ 17 8 HT_ ?_
    refine done_ (done_of HT_.out (by kernel_rfl)) ?_
    have D4:=D3.drew
    have B4:=blk_drew B3
    have Z4:=blk_drew Z3
    try go_wp2
    go_meet
    case rel=>exact ⟨by unfold endTo;rw [em.out],by unfold endTo;rw [em.out],⟨D4⟩,⟨B4⟩,⟨Z4⟩⟩
 clear D3 Z3 B3
 obtain ⟨rfl,rfl,⟨D3⟩,⟨B3⟩,⟨Z3⟩⟩:=hcut
 go_upto_region 7 with (fail)
 go_cut [9] (fun v9 wc=>∃ x:Bool,v9 = .bool x∧Aside0 (x=endLoop F.bl.length b pl)∧Aside0 (Mid w0 w P (fun k=>k=g∨k=g5) gm gf vW vA vS vR (.slice (some ⟨gB,0,none⟩) F.bl.length cap) vV F b vals vW vV wc)∧Aside0 (wc.heap[g]? = some (.cells #[.slice A1 n1 c1,.slice A2 n2 c2,.int .u8 pk,.int .u8 pc,.int .u8 pt,.int .u8 pf,.bool pl] 75 (0,0)))∧Aside0 (wc.heap[g5]? = some (.cells #[.int .i64 3,.int .i64 (-1),.slice none 0 0,.slice none 0 0] 51 (0,0))))
 case first=>
  as_aux_lemma=>
   have z1:=D3.M.cells.2.1
   have p6:=own_cell B3 6 (.bool pl) rfl
   cases pl
   ·go_wp2
    go_meet
    case rel=>exact ⟨false,rfl,⟨rfl⟩,⟨D3⟩,⟨B3⟩,⟨Z3⟩⟩
   ·by_cases e1:b>0
    ·have t1:decide (b>0)=true:=decide_eq_true e1
     replace e1:=Aside0.mk e1
     by_cases e2:(F.bl.length:Int)>2
     ·have t2:decide ((F.bl.length:Int)>2)=true:=decide_eq_true e2
      replace e2:=Aside0.mk e2
      go_wp2
      go_meet
      case rel=>exact ⟨true,rfl,⟨by unfold endLoop;rw [t1,t2];rfl⟩,⟨D3⟩,⟨B3⟩,⟨Z3⟩⟩
     ·have t2:decide ((F.bl.length:Int)>2)=false:=decide_eq_false e2
      replace e2:=Aside0.mk e2
      go_wp2
      go_meet
      case rel=>exact ⟨false,rfl,⟨by unfold endLoop;rw [t1,t2];rfl⟩,⟨D3⟩,⟨B3⟩,⟨Z3⟩⟩
    ·have t1:decide (b>0)=false:=decide_eq_false e1
     replace e1:=Aside0.mk e1
     go_wp2
     go_meet
     case rel=>exact ⟨false,rfl,⟨by unfold endLoop;rw [t1];rfl⟩,⟨D3⟩,⟨B3⟩,⟨Z3⟩⟩
 clear D3 Z3 B3
 obtain ⟨lp,rfl,HL,⟨D3⟩,⟨B3⟩,⟨Z3⟩⟩:=hcut
 unfold mkEndL at h
 replace hl:lp=true:=HL.out.trans hl
 subst hl
 obtain ⟨⟨F0,vals0,x0⟩,h0,h⟩:=Option.bind_eq_some_iff.mp h
 obtain ⟨⟨F1,vals1,x1⟩,h1,h⟩:=Option.bind_eq_some_iff.mp h
 obtain ⟨⟨F2,vals2,x2⟩,h2,h⟩:=Option.bind_eq_some_iff.mp h
 split at h
 case isFalse=>exact absurd h (by simp)
 rename_i hb2
 have hn:(F.bl.length:Int)>2:=by have:=HL.out.symm;unfold endLoop at this;simp only [Bool.and_eq_true,decide_eq_true_eq] at this;exact this.2
 have hn2:F.bl.length≤9223372036854775807:=(Kd.R_reads' (Kd.S_R hM.sB)).2.2.2.1
 have m0:¬ wrap64 ((F.bl.length:Int) - 1)=0:=by rw [w64m _ (by omega) (by omega)];omega
 have m1:(wrap64 ((F.bl.length:Int) - 1) != 0)=true:=by simpa using m0
 have m2:(wrap64 ((F.bl.length:Int) - 1)==0)=false:=by simpa using m0
 have m3:=eq_false m0
 replace m0:=Aside0.mk m0
 replace hn:=Aside0.mk hn
 replace hn2:=Aside0.mk hn2
 have z1:=D3.M.cells.2.1
 go_upto_if 93 with (fail)
 go_cut [8] (fun v8 wc=>v8 = .int .i64 (if endTo F.bl.length pf=b then wrap64 (1+Int.tmod (endTo F.bl.length pf) (wrap64 ((F.bl.length:Int) - 1))) else endTo F.bl.length pf)∧Aside0 (Mid w0 w P (fun k=>k=g∨k=g5) gm gf vW vA vS vR (.slice (some ⟨gB,0,none⟩) F.bl.length cap) vV F b vals vW vV wc)∧Aside0 (wc.heap[g]? = some (.cells #[.slice A1 n1 c1,.slice A2 n2 c2,.int .u8 pk,.int .u8 pc,.int .u8 pt,.int .u8 pf,.bool pl] 75 (0,0)))∧Aside0 (wc.heap[g5]? = some (.cells #[.int .i64 3,.int .i64 (-1),.slice none 0 0,.slice none 0 0] 51 (0,0))))
 case first=>
  by_cases e1:endTo F.bl.length pf=b
  ·have t1:(endTo F.bl.length pf==b)=true:=beq_iff_eq.mpr e1
   have t3:=eq_true e1
   replace e1:=Aside0.mk e1
   try simp only [t1]
   clear t3
   go_wp2
   go_meet
   case rel=>exact ⟨by rw [if_pos e1.out],⟨D3⟩,⟨B3⟩,⟨Z3⟩⟩
  ·have t1:(endTo F.bl.length pf==b)=false:=beq_eq_false_iff_ne.mpr e1
   replace e1:=Aside0.mk e1
   try simp only [t1]
   go_wp2
   go_meet
   case rel=>exact ⟨by rw [if_neg e1.out],⟨D3⟩,⟨B3⟩,⟨Z3⟩⟩
 clear D3 B3 Z3 z1 m1 m2 m3
 generalize hBB:(if endTo F.bl.length pf=b then wrap64 (1+Int.tmod (endTo F.bl.length pf) (wrap64 ((F.bl.length:Int) - 1))) else endTo F.bl.length pf)=bb at h2 hcut
 replace hBB:=Aside0.mk hBB
 obtain ⟨rfl,⟨D3⟩,⟨B3⟩,⟨Z3⟩⟩:=hcut
 have f0:=blk_frozen Z3 0
 have d0:=own_cell Z3 0 ((.int .i64 3)) rfl
 go_upto_region 15 with (fail)
 have D5:=D3.store (g:=g5) (.inr rfl) 0 (.int .i64 2)
 have Z5:=blk_put Z3 0 (.int .i64 2) rfl
 have B5:=blk_far B3 (p:=⟨g5,0,none⟩) n35 (.int .i64 2)
 clear f0 d0 D3 Z3 B3
 generalize World.setCell _ _ _=w5 at D5 Z5 B5 ⊢
 have p3:=own_cell B5 3 (.int .u8 pc) rfl
 go_upto_region 16 with (first | (go_at_call 43;refine (mkValue_calls D5.M h0).mono ?_;rintro e w6 ⟨rfl,hA⟩;obtain ⟨vW6,vV6,D6,hk6⟩:=D5.next hA;have Z6:=(hk6 g5 (.inr rfl)).trans Z5;have B6:=(hk6 g (.inl rfl)).trans B5;have f1:=blk_frozen Z6 1;have d1:=own_cell Z6 1 (.int .i64 (-1)) rfl;clear hA hk6 p3))
 have D7:=D6.store (g:=g5) (.inr rfl) 1 (.int .i64 x0)
 have Z7:=blk_put Z6 1 (.int .i64 x0) rfl
 have B7:=blk_far B6 (p:=⟨g5,1,none⟩) n35 (.int .i64 x0)
 clear f1 d1 D5 Z5 B5 D6 Z6 B6
 generalize World.setCell _ _ _=w7 at D7 Z7 B7 ⊢
 try go_wp2
 refine start_ (n:=16) (S:=fun w'=>w'.cell? ⟨g,4,none⟩=some (.int .u8 pt)∧w'.cell? ⟨g,5,none⟩=some (.int .u8 pf)∧w'.cell? ⟨gm,1,none⟩=some (.int .i64 b)) (ds:=[15]) (bz 16 0) (by kernel_rfl) rfl rfl ⟨(own_cell (blk_drew B7) 4 (.int .u8 pt) rfl),(own_cell (blk_drew B7) 5 (.int .u8 pf) rfl),(D7.drew.M.cells.2.1)⟩ (fun hHeld=>?_)
 refine with_tabW mkEndL.tab16 mkEndL.bits16 (fun HT_ HW_=>?_)
 have D8:=D7.drew
 have Z8:=blk_drew Z7
 have B8:=blk_drew B7
 generalize w7.drew=w8 at hHeld D8 Z8 B8 ⊢
 clear D7 Z7 B7
 refine pu_ 0 105 HT_ ?_
 refine pu_ 1 106 HT_ ?_
 refine pu_ 2 107 HT_ ?_
 refine pu_ 3 108 HT_ ?_
 refine pu_ 5 110 HT_ ?_
 refine pu_ 8 113 HT_ ?_
 refine pu_ 9 114 HT_ ?_
 refine pu_ 10 115 HT_ ?_
 refine tk_ 4 109 HT_ HW_ hHeld ?_ (hy:=by rintro w' ⟨s0,s1,s2⟩;go_simp;with_reducible rfl)
 refine tk_ 6 111 HT_ HW_ hHeld ?_ (hy:=by rintro w' ⟨s0,s1,s2⟩;go_simp;with_reducible rfl)
 refine tk_ 11 116 HT_ HW_ hHeld ?_ (hy:=by rintro w' ⟨s0,s1,s2⟩;go_simp;with_reducible rfl)
 refine on_ 7 (some 112) HT_ (fun K hK=>?_)
 refine gs_ Try.func47 #[.pointer (some ⟨gm,0,none⟩),.int .i64 b,.int .u8 pt] ?_
 refine (mkEdge_calls D8.M h1).mono ?_
 rintro e w9 ⟨vE1,vW9,vV9,rfl,m,k,s,q,r⟩
 refine ⟨_,rfl,?_⟩
 obtain ⟨D9,hk,R9⟩:=D8.next_edge m k s q r
 have B9:=(hk g (.inl rfl)).trans B8
 have Z9:=(hk g5 (.inr rfl)).trans Z8
 clear m k s q r hk
 refine hK.out _ _ ⟨own_cell B9 4 (.int .u8 pt) rfl,own_cell B9 5 (.int .u8 pf) rfl,D9.M.cells.2.1⟩ (fun hHeld=>?_);clear hK K
 refine no_ 112 ?_
 refine on_ 12 (some 117) HT_ (fun K hK=>?_)
 refine gs_ Try.func47 #[.pointer (some ⟨gm,0,none⟩),.int .i64 bb,.int .u8 pf] ?_
 refine (mkEdge_calls D9.M h2).mono ?_
 rintro e w10 ⟨vE2,vW10,vV10,rfl,m,k,s,q,r⟩
 refine ⟨_,rfl,?_⟩
 obtain ⟨D10,hk,R10⟩:=D9.next_edge m k s q r
 have B10:=(hk g (.inl (.inl rfl))).trans B9
 have Z10:=(hk g5 (.inl (.inr rfl))).trans Z9
 have R91:=Kd.R_step R9 (fun i hi _=>hk i (.inr hi))
 clear m k s q r hk
 refine hK.out _ _ ⟨own_cell B10 4 (.int .u8 pt) rfl,own_cell B10 5 (.int .u8 pf) rfl,D10.M.cells.2.1⟩ (fun hHeld=>?_);clear hK K
 refine no_ 117 ?_
 refine on_ 13 (some 118) HT_ (fun K hK=>?_)
 refine value_ (w1:=?_) (v:=?_) (by rfl) rfl ?_ ?_;rotate_left 2;(go_simp;constructor);(rfl);(rfl)
 generalize hq:World.alloc _ _=w11
 obtain ⟨D11,hb11,R11⟩:=D10.row k111 (xs:=[x1,x2]) (inner:=[.int .i64 x1.f0,vE1,.int .i64 x2.f0,vE2]) (okp:=fun k=>some k=vE1.ownBlock∨some k=vE2.ownBlock) hq rfl (Reps.front (k111_mkM _ _ _ x1 (Kd.R_mono R91 (fun k hk=>.inl hk))) rfl (Reps.front (k111_mkM _ _ _ x2 (Kd.R_mono R10 (fun k hk=>.inr hk))) rfl (Reps.none _ _) rfl) rfl) (by show 2≤_;omega)
 have T11:=(D10.new _ hq).2.2
 have Z11:=blk_below Z10 hb11
 have B11:=blk_below B10 hb11
 have R911:=Kd.R_below R91 hb11
 have R101:=Kd.R_below R10 hb11
 clear hq
 refine hK.out _ _ ⟨own_cell B11 4 (.int .u8 pt) rfl,own_cell B11 5 (.int .u8 pf) rfl,D11.M.cells.2.1⟩ (fun hHeld=>?_);clear hK K
 refine no_ 118 ?_
 refine pu_ 14 119 HT_ ?_
 refine la_ 15 none HT_ (fun K hK=>?_)
 have f2:=blk_frozen Z11 2
 have d2:=own_cell Z11 2 (.slice none 0 0) rfl
 refine skip_ (w1:=?_) (by rfl) rfl ?_ ?_;rotate_left;(go_simp)
 rfl
 clear f2 d2
 refine hK.out _ _ ?_;clear hK K
 refine done_ (done_of HT_.out (by kernel_rfl)) ?_
 clear hHeld
 generalize w10.heap.size=gT at D11 T11 R11 ⊢
 have hgT:=blk_lt T11
 have nT:gT≠g5:=blk_ne T11 Z11 (by decide)
 have D12:=D11.store (g:=g5) (.inl (.inl (.inl (.inr rfl)))) 2 (.slice (some ⟨gT,0,none⟩) 2 2)
 have Z12:=blk_put Z11 2 (.slice (some ⟨gT,0,none⟩) 2 2) rfl
 have B12:=blk_far B11 (p:=⟨g5,2,none⟩) n35 (.slice (some ⟨gT,0,none⟩) 2 2)
 have T12:=blk_far T11 (p:=⟨g5,2,none⟩) nT (.slice (some ⟨gT,0,none⟩) 2 2)
 have R12:=Kd.R_set R11 Z11 (by decide) 2 (.slice (some ⟨gT,0,none⟩) 2 2)
 have R912:=Kd.R_set R911 Z11 (by decide) 2 (.slice (some ⟨gT,0,none⟩) 2 2)
 have R102:=Kd.R_set R101 Z11 (by decide) 2 (.slice (some ⟨gT,0,none⟩) 2 2)
 clear D8 Z8 B8 D9 Z9 B9 R9 D10 Z10 B10 R91 R10 D11 Z11 R11 hb11 R911 R101 B11 T11 hgT
 generalize World.setCell _ _ _=w12 at D12 Z12 B12 T12 R12 R912 R102 ⊢
 have p3:=own_cell B12 3 (.int .u8 pc) rfl
 go_upto_if 123 with (fail)
 go_cut [] (fun wc=>∃ (gT:Nat) (aW aV:Value),Aside0 (Mid w0 w P (fun k=>(((k=g∨k=g5)∨some k=vE1.ownBlock)∨some k=vE2.ownBlock)∨k=gT) gm gf vW vA vS vR (.slice (some ⟨gB,0,none⟩) F.bl.length cap) vV F2 b vals2 aW aV wc)∧Aside0 (wc.heap[g]? = some (.cells #[.slice A1 n1 c1,.slice A2 n2 c2,.int .u8 pk,.int .u8 pc,.int .u8 pt,.int .u8 pf,.bool pl] 75 (0,0)))∧Aside0 (wc.heap[g5]? = some (.cells #[.int .i64 2,.int .i64 x0,.slice (some ⟨gT,0,none⟩) 2 2,.slice none 0 0] 51 (0,0)))∧Aside0 (k111.R 111 wc w0.heap.size (fun k=>(some k=vE1.ownBlock∨some k=vE2.ownBlock)∨k=gT) (.slice (some ⟨gT,0,none⟩) 2 2) (if Int.tmod pc 2=1 then [x2,x1] else [x1,x2])))
 case first=>
  by_cases e1:Int.tmod pc 2=1
  ·have t1:(Int.tmod pc 2==1)=true:=beq_iff_eq.mpr e1
   replace e1:=Aside0.mk e1
   try simp only [t1]
   try go_wp2
   refine start_ (n:=11) (S:=fun w'=>w'.cell? ⟨g5,2,none⟩=some (.slice (some ⟨gT,0,none⟩) 2 2)∧w'.cell? ⟨gT,0,none⟩=some (.int .i64 x1.f0)∧w'.cell? ⟨gT,1,none⟩=some (vE1)∧w'.cell? ⟨gT,2,none⟩=some (.int .i64 x2.f0)∧w'.cell? ⟨gT,3,none⟩=some (vE2)) (ds:=[10]) (bz 11 0) (by kernel_rfl) rfl rfl ⟨(own_cell (blk_drew Z12) 2 (.slice (some ⟨gT,0,none⟩) 2 2) rfl),(own_cell (blk_drew T12) 0 (.int .i64 x1.f0) rfl),(own_cell (blk_drew T12) 1 vE1 rfl),(own_cell (blk_drew T12) 2 (.int .i64 x2.f0) rfl),(own_cell (blk_drew T12) 3 vE2 rfl)⟩ (fun hHeld=>?_)
   refine with_tabW mkEndL.tab18 mkEndL.bits18 (fun HT_ HW_=>?_)
   have D13:=D12.drew
   have Z13:=blk_drew Z12
   have B13:=blk_drew B12
   have R913:=Kd.R_drew R912
   have R103:=Kd.R_drew R102
   generalize w12.drew=w13 at hHeld D13 Z13 B13 R913 R103 ⊢
   refine pu_ 0 124 HT_ ?_
   refine pu_ 4 128 HT_ ?_
   refine tk_ 1 125 HT_ HW_ hHeld ?_ (hy:=by rintro w' ⟨s0,s1,s2,s3,s4⟩;go_simp;with_reducible rfl)
   refine pu_ 2 126 HT_ ?_
   refine tk_ 3 127 HT_ HW_ hHeld ?_ (hy:=by rintro w' ⟨s0,s1,s2,s3,s4⟩;go_simp;with_reducible rfl)
   refine tk_ 5 129 HT_ HW_ hHeld ?_ (hy:=by rintro w' ⟨s0,s1,s2,s3,s4⟩;go_simp;with_reducible rfl)
   refine pu_ 6 130 HT_ ?_
   refine tk_ 7 131 HT_ HW_ hHeld ?_ (hy:=by rintro w' ⟨s0,s1,s2,s3,s4⟩;go_simp;with_reducible rfl)
   refine on_ 8 (some 132) HT_ (fun K hK=>?_)
   refine value_ (w1:=?_) (v:=?_) (by rfl) rfl ?_ ?_;rotate_left 2;(go_simp;constructor);(rfl);(rfl)
   generalize hq:World.alloc _ _=w14
   obtain ⟨D14,hb14,R14⟩:=D13.row k111 (xs:=[x2,x1]) (inner:=[.int .i64 x2.f0,vE2,.int .i64 x1.f0,vE1]) (okp:=fun k=>some k=vE1.ownBlock∨some k=vE2.ownBlock) hq rfl (Reps.front (k111_mkM _ _ _ x2 (Kd.R_mono R103 (fun k hk=>.inr hk))) rfl (Reps.front (k111_mkM _ _ _ x1 (Kd.R_mono R913 (fun k hk=>.inl hk))) rfl (Reps.none _ _) rfl) rfl) (by show 2≤_;omega)
   have Z14:=blk_below Z13 hb14
   have B14:=blk_below B13 hb14
   have h14:=hHeld
   clear hq
   refine hK.out _ _ ⟨own_cell Z14 2 (.slice (some ⟨gT,0,none⟩) 2 2) rfl,pw_cell_below hb14 h14.2.1,pw_cell_below hb14 h14.2.2.1,pw_cell_below hb14 h14.2.2.2.1,pw_cell_below hb14 h14.2.2.2.2⟩ (fun hHeld=>?_);clear hK K
   refine no_ 132 ?_
   refine pu_ 9 133 HT_ ?_
   refine la_ 10 none HT_ (fun K hK=>?_)
   have f2:=blk_frozen Z14 2
   have d2:=own_cell Z14 2 (.slice (some ⟨gT,0,none⟩) 2 2) rfl
   refine skip_ (w1:=?_) (by rfl) rfl ?_ ?_;rotate_left;(go_simp)
   rfl
   clear f2 d2
   refine hK.out _ _ ?_;clear hK K
   refine done_ (done_of HT_.out (by kernel_rfl)) ?_
   have D15:=D14.store (g:=g5) (.inl (.inl (.inl (.inl (.inr rfl))))) 2 (.slice (some ⟨w13.heap.size,0,none⟩) 2 2)
   have Z15:=blk_put Z14 2 (.slice (some ⟨w13.heap.size,0,none⟩) 2 2) rfl
   have B15:=blk_far B14 (p:=⟨g5,2,none⟩) n35 (.slice (some ⟨w13.heap.size,0,none⟩) 2 2)
   have R15:=Kd.R_set R14 Z14 (by decide) 2 (.slice (some ⟨w13.heap.size,0,none⟩) 2 2)
   clear hHeld h14
   try go_wp2
   go_meet
   case rel=>exact ⟨w13.heap.size,_,_,⟨D15.reO (fun k e=>e.elim (fun e=>.inl (.inl e)) .inr)⟩,⟨B15⟩,⟨Z15⟩,⟨by rw [if_pos e1.out];exact R15⟩⟩
  ·have t1:(Int.tmod pc 2==1)=false:=beq_eq_false_iff_ne.mpr e1
   replace e1:=Aside0.mk e1
   try simp only [t1]
   go_wp2
   go_meet
   case rel=>exact ⟨gT,_,_,⟨D12⟩,⟨B12⟩,⟨Z12⟩,⟨by rw [if_neg e1.out];exact R12⟩⟩
 clear D12 Z12 B12 T12 R12 R912 R102 p3 nT gT
 obtain ⟨gT,aW,aV,⟨D12⟩,⟨B12⟩,⟨Z12⟩,⟨R12⟩⟩:=hcut
 try go_wp2
 have D13:=D12.drew
 have Z13:=blk_drew Z12
 have B13:=blk_drew B12
 have R13:=Kd.R_drew R12
 have hlen:F2.bl.length=F.bl.length:=(((mkValue_same h0).trans (mkEdge_same h1)).trans (mkEdge_same h2)).2.2.2.2
 have DM:=D13.M
 rw [← hlen] at DM
 replace hlen:=Aside0.mk hlen
 obtain ⟨gB',cap',oki,v0,v1,v4,v5,eB,hcc,r0,r1,r4,r5,hok,⟨csB,tB⟩,hfr,hH⟩:=DM.lend hb2.1 hb2.2
 cases eB
 refine start_ (n:=19) (S:=fun w'=>w'.cell? ⟨gm,0,none⟩=some (.pointer (some ⟨gf,0,none⟩))∧w'.cell? ⟨gm,1,none⟩=some (.int .i64 b)∧w'.cell? ⟨gf,5,none⟩=some (.slice (some ⟨gB,0,none⟩) F2.bl.length cap)∧w'.cell? ⟨g,2,none⟩=some (.int .u8 pk)) (ds:=[18]) (bz 19 0) (by kernel_rfl) rfl rfl ⟨(DM.cells.1),(DM.cells.2.1),(DM.cells.2.2.2.2.2.2.2),(own_cell B13 2 (.int .u8 pk) rfl)⟩ (fun hHeld=>?_)
 refine with_tabW mkEndL.tab19 mkEndL.bits19 (fun HT_ HW_=>?_)
 generalize wc.drew=w13 at hHeld D13 DM Z13 B13 R13 hcc r0 r1 r4 r5 tB hfr hH ⊢
 have bd0:(0≤b)=True:=eq_true hb2.1
 have bd1:(b<(F2.bl.length:Int))=True:=eq_true hb2.2
 refine pu_ 0 134 HT_ ?_
 refine pu_ 1 135 HT_ ?_
 refine pu_ 2 136 HT_ ?_
 refine pu_ 7 141 HT_ ?_
 refine pu_ 8 142 HT_ ?_
 refine pu_ 9 143 HT_ ?_
 refine pu_ 11 145 HT_ ?_
 refine tk_ 3 137 HT_ HW_ hHeld ?_ (hy:=by rintro w' ⟨s0,s1,s2,s3⟩;go_simp;with_reducible rfl)
 refine pu_ 4 138 HT_ ?_
 refine pu_ 5 139 HT_ ?_
 refine tk_ 6 140 HT_ HW_ hHeld ?_ (hy:=by rintro w' ⟨s0,s1,s2,s3⟩;go_simp;with_reducible rfl)
 refine tk_ 10 144 HT_ HW_ hHeld ?_ (hy:=by rintro w' ⟨s0,s1,s2,s3⟩;go_simp;with_reducible rfl)
 refine tk_ 12 146 HT_ HW_ hHeld ?_ (hy:=by rintro w' ⟨s0,s1,s2,s3⟩;go_simp;with_reducible rfl)
 refine pu_ 13 147 HT_ ?_
 refine pu_ 14 148 HT_ ?_
 refine pu_ 15 149 HT_ ?_
 refine pu_ 16 150 HT_ ?_
 refine pu_ 17 151 HT_ ?_
 refine la_ 18 none HT_ (fun K hK=>?_)
 have s6:=hcc 6 _ rfl
 have u6:=hfr 6
 refine skip_ (w1:=?_) (by rfl) rfl ?_ ?_;rotate_left;(go_simp)
 rfl
 clear s6 u6
 refine hK.out _ _ ?_;clear hK K
 refine done_ (done_of HT_.out (by kernel_rfl)) ?_
 obtain ⟨M14,K14⟩:=DM.set_pipe (pl:=wrap64 (1+wrap64 (Int.tmod pk 4))) hb2.1 hb2.2 hok hH r0 r1 r4 r5
 rw [hlen.out] at M14
 have D15:Mid w0 w P (fun k=>(((k=g∨k=g5)∨some k=vE1.ownBlock)∨some k=vE2.ownBlock)∨k=gT) gm gf vW vA vS vR (.slice (some ⟨gB,0,none⟩) F.bl.length cap) vV _ b vals2 aW aV _:=⟨M14.mono (fun k hk=>hk.elim id (fun e=>⟨.inr (Nat.le_trans D13.K.1 e),fun o=>by have:=D13.hO k o;omega⟩)),D13.K.then_ K14 (Turn.trans (fun _ e=>e.1) D13.K D13.S D13.T),D13.S,D13.T,fun k o=>⟨(D13.hO k o).1,Nat.lt_of_lt_of_le (D13.hO k o).2 (by simp [World.setCell])⟩,D13.hw⟩
 have Z15:=blk_far Z13 (p:=⟨gB,b.toNat*9+6,none⟩) (blk_ne Z13 tB (by decide)) (.int .i64 (wrap64 (1+wrap64 (Int.tmod pk 4))))
 have R15:=Kd.R_set R13 tB (by decide) (b.toNat*9+6) (.int .i64 (wrap64 (1+wrap64 (Int.tmod pk 4))))
 clear hHeld D13 DM Z13 B13 R13 hcc r0 r1 r4 r5 tB hfr hH M14 K14 D12 Z12 B12 R12
 generalize World.setCell _ _ _=w15 at D15 Z15 R15 ⊢
 dsimp only at h D15
 generalize hF3:({ F2 with bl:=F2.bl.set b.toNat { rd_T53 F2.bl b with f3:=wrap64 (1+wrap64 (Int.tmod pk 4)) } }:FN)=F3 at D15 h
 replace hlen:F3.bl.length=F.bl.length:=by rw [← hF3];simp [hlen.out]
 replace hF3:=Aside0.mk hF3
 generalize hES:(if Int.tmod pc 2=1 then [x2,x1] else [x1,x2])=es at h R15
 replace hES:=Aside0.mk hES
 unfold mkTerm at h
 split at h
 case isFalse=>exact absurd h (by simp)
 injection h with h
 injection h with hF hv
 subst hF hv
 try go_wp2
 have D9:=D15.drew
 have Z9:=blk_drew Z15
 have RT:=Kd.R_drew R15
 have DM:=D9.M
 rw [← hlen] at DM
 replace hlen:=Aside0.mk hlen
 have hb1:b<(F3.bl.length:Int):=by rw [hlen.out];exact hb.out.2
 obtain ⟨gB',cap',oki,v0,v1,v4,v5,eB,hcc,r0,r1,r4,r5,hok,⟨csB,tB⟩,hfr,hH⟩:=DM.lend hb.out.1 hb1
 cases eB
 refine start_ (n:=15) (S:=fun w'=>w'.cell? ⟨gm,0,none⟩=some (.pointer (some ⟨gf,0,none⟩))∧w'.cell? ⟨gm,1,none⟩=some (.int .i64 b)∧w'.cell? ⟨gf,5,none⟩=some (.slice (some ⟨gB,0,none⟩) F3.bl.length cap)∧w'.cell? ⟨g5,0,none⟩=some (.int .i64 2)∧w'.cell? ⟨g5,1,none⟩=some (.int .i64 x0)∧w'.cell? ⟨g5,2,none⟩=some ((.slice (some ⟨gT,0,none⟩) 2 2))∧w'.cell? ⟨g5,3,none⟩=some ((.slice none 0 0))) (ds:=[14]) (bz 15 0) (by kernel_rfl) rfl rfl ⟨(DM.cells.1),(DM.cells.2.1),(DM.cells.2.2.2.2.2.2.2),((blk_cell Z9 0).trans rfl),((blk_cell Z9 1).trans rfl),((blk_cell Z9 2).trans rfl),((blk_cell Z9 3).trans rfl)⟩ (fun hHeld=>?_)
 refine with_tabW mkEndL.tab28 mkEndL.bits28 (fun HT_ HW_=>?_)
 generalize w15.drew=w16 at hHeld D9 DM Z9 RT hcc r0 r1 r4 r5 tB hfr hH ⊢
 have bd0:(0≤b)=True:=eq_true hb.out.1
 have bd1:(b<(F3.bl.length:Int))=True:=eq_true hb1
 refine pu_ 0 200 HT_ ?_
 refine pu_ 1 201 HT_ ?_
 refine pu_ 2 202 HT_ ?_
 refine pu_ 7 207 HT_ ?_
 refine pu_ 8 208 HT_ ?_
 refine pu_ 9 209 HT_ ?_
 refine tk_ 3 203 HT_ HW_ hHeld ?_ (hy:=by rintro w' ⟨s0,s1,s2,s3,s4,s5,s6⟩;go_simp;with_reducible rfl)
 refine pu_ 4 204 HT_ ?_
 refine pu_ 5 205 HT_ ?_
 refine tk_ 6 206 HT_ HW_ hHeld ?_ (hy:=by rintro w' ⟨s0,s1,s2,s3,s4,s5,s6⟩;go_simp;with_reducible rfl)
 refine tk_ 10 210 HT_ HW_ hHeld ?_ (hy:=by rintro w' ⟨s0,s1,s2,s3,s4,s5,s6⟩;go_simp;with_reducible rfl)
 refine tk_ 11 211 HT_ HW_ hHeld ?_ (hy:=by rintro w' ⟨s0,s1,s2,s3,s4,s5,s6⟩;go_simp;with_reducible rfl)
 refine pu_ 12 212 HT_ ?_
 refine pu_ 13 213 HT_ ?_
 refine la_ 14 none HT_ (fun K hK=>?_)
 have s2:=hcc 2 _ rfl
 have s3:=hcc 3 _ rfl
 have s4:=hcc 4 _ rfl
 have s5:=hcc 5 _ rfl
 have u2:=hfr 2
 have u3:=hfr 3
 have u4:=hfr 4
 have u5:=hfr 5
 refine skip_ (w1:=?_) (by rfl) rfl ?_ ?_;rotate_left;(go_simp)
 rfl
 clear s2 s3 s4 s5 u2 u3 u4 u5
 refine hK.out _ _ ?_;clear hK K
 refine done_ (done_of HT_.out (by kernel_rfl)) ?_
 obtain ⟨M12,K12⟩:=DM.set_term (kind:=2) (cond:=x0) (es:=es) (rets:=[]) (PA:=(fun k=>(some k=vE1.ownBlock∨some k=vE2.ownBlock)∨k=gT)) hb.out.1 hb1 hok hH r0 r1 RT (Kd.R_nil _ _ _ _ _) (fun k hk h=>h.2 ((fun e=>e.elim (fun e=>e.elim (fun e=>.inl (.inl (.inr e))) (fun e=>.inl (.inr e))) .inr) hk))
 have K13:=D9.K.then_ K12 (Turn.trans (fun _ e=>e.1) D9.K D9.S D9.T)
 rw [hlen.out] at M12
 try go_wp2
 go_end0
 have e3:=hF3.out
 clear hF3
 subst e3
 refine ⟨rfl,_,_,M12.mono ?_,K13,D9.S,D9.T⟩
 intro k hk
 rcases hk with (hk | hk) | hk
 ·exact hk.1
 ·exact .inr (D9.hO k ((fun e=>e.elim (fun e=>e.elim (fun e=>.inl (.inl (.inr e))) (fun e=>.inl (.inr e))) .inr) hk)).1
 ·exact .inr (Nat.le_trans D9.K.1 hk)
end Go.Proofs.Ytabcdpddhmekkaa.PAll
