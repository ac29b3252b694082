-- Written for this claim by programs of this session (wip/print2 in its repo: a changed printer, a shortener, a packer). Lean checks it.
import Derived.Test.YtabcdpddhmekkaaP0
set_option linter.all false
namespace Go.Proofs.Ytabcdpddhmekkaa.PAll
open Go.RowKit Go.Proofs.YtabcdpddhmekkaaW.PrintWords Go.Proofs.YtabcdpddhmekkaaW.PrintLast Go.Proofs.YtabcdpddhmekkaaW.PrintMore
attribute [local go_sem] max2_int min2_int max_two min_two max_three min_three max_four min_four
set_option linter.unusedVariables false
set_option linter.unusedSimpArgs false
def jacquardref27_wide.f (a0:Int):Option (Int):=(some (([1,8,2,4,3,7,16,33,64]:List Int):List Int)).bind fun y101=>(if 0≤(Int.tmod a0 9) then (if (Int.tmod a0 9)<(y101.length:Int) then (some (rd y101 (Int.tmod a0 9))) else (none)) else (none))
set_option maxHeartbeats 8000000 in
set_option maxRecDepth 100000 in
theorem jacquardref27_wide.calls (a0:Int) (r:Int) (w:World) (h:jacquardref27_wide.f a0=some r) :
    Calls Try.prog 24 #[.int .u8 a0] w fun e w'=>e = .returned (.int .i64 r)∧Below w.heap.size w w':=by
 have HB:=Aside0.mk (Below.refl w.heap.size w)
 have H:((some (([1,8,2,4,3,7,16,33,64]:List Int):List Int)).bind fun y101=>(if 0≤(Int.tmod a0 9) then (if (Int.tmod a0 9)<(y101.length:Int) then (some (rd y101 (Int.tmod a0 9))) else (none)) else (none)))=some r:=h
 clear h
 obtain ⟨y101,hy101⟩:∃ y_:List Int,y_=(([1,8,2,4,3,7,16,33,64]:List Int)):=⟨_,rfl⟩
 replace H:(if 0≤(Int.tmod a0 9) then (if (Int.tmod a0 9)<(y101.length:Int) then (some (rd y101 (Int.tmod a0 9))) else (none)) else (none))=some r:=by first | (rw [hy101];with_reducible exact H) | (have H2_:=(Option.bind_some _ _).symm.trans H;rw [hy101];with_reducible exact H2_) | (have H2_:=(Option.bind_some _ _).symm.trans H;with_reducible exact H2_) | with_reducible exact H | (rw [hy101];exact H) | exact H
 have Ny101:=Aside0.mk hy101
 clear hy101
 obtain ⟨ji2,hji2⟩:∃ j_:Int,(Int.tmod a0 9)=j_:=⟨_,rfl⟩
 replace H:(if 0≤(ji2) then (if (ji2)<(y101.length:Int) then (some (rd y101 (ji2))) else (none)) else (none))=some r:=by first | (rw [hji2] at H;exact H) | (simp only [hji2] at H ⊢;exact H)
 by_cases c3:0≤(ji2)
 · rw [if_pos c3] at H
   have c3b0:decide (0≤(ji2))=true:=decide_eq_true c3
   clear c3
   by_cases c4:(ji2)<(y101.length:Int)
   · rw [if_pos c4] at H
     have c4b0:decide ((ji2)<(y101.length:Int))=true:=decide_eq_true c4
     clear c4
     obtain rfl:=Option.some.inj H
     go_enter Try.func24,Try.ntmps24
     go_wp2_with (first | ((with_reducible refine gate_dst (N:=3) rfl ?_);refine Kd.R_lit (Kd.int .i64) _ 3 ?hg (N:=3) ?hd (xs:=([1,8,2,4,3,7,16,33,64]:List Int)) (inner:=[.int .i64 1,.int .i64 8,.int .i64 2,.int .i64 4,.int .i64 3,.int .i64 7,.int .i64 16,.int .i64 33,.int .i64 64]) (ok:=fun _=>True) (okp:=fun _=>True) ?hr ?hp (fun _ hk=>hk) trivial (Below.refl _ _) (Nat.le_refl _) (by simp) ?_;(case hd=>rfl);(case hg=>rfl);(case hr=>first | (go_simp;done) | (go_simp;rfl));(case hp=>exact (Reps.one (show Kd.M (Kd.int .i64) _ _ _ 1 [.int .i64 1] from rfl) (Reps.one (show Kd.M (Kd.int .i64) _ _ _ 8 [.int .i64 8] from rfl) (Reps.one (show Kd.M (Kd.int .i64) _ _ _ 2 [.int .i64 2] from rfl) (Reps.one (show Kd.M (Kd.int .i64) _ _ _ 4 [.int .i64 4] from rfl) (Reps.one (show Kd.M (Kd.int .i64) _ _ _ 3 [.int .i64 3] from rfl) (Reps.one (show Kd.M (Kd.int .i64) _ _ _ 7 [.int .i64 7] from rfl) (Reps.one (show Kd.M (Kd.int .i64) _ _ _ 16 [.int .i64 16] from rfl) (Reps.one (show Kd.M (Kd.int .i64) _ _ _ 33 [.int .i64 33] from rfl) (Reps.one (show Kd.M (Kd.int .i64) _ _ _ 64 [.int .i64 64] from rfl) (Reps.none _ _)))))))))));intro v102 w5 ho6 hb hg_ hnew_;clear hg_ hnew_;(first | rw [← Ny101.out] at ho6 | (simp only [Int.reduceToNat] at ho6;rw [← Ny101.out] at ho6));have n0_:=Aside0.mk (Kd.R_lower ho6 (below_size bl_));have n1_:=Aside0.mk (below_step bl_ hb);clear HB;have HO103:=n0_;have HB:=n1_;clear n0_ n1_;clear hb ho6;obtain ⟨Ao7,co7,eo7⟩:=Kd.R_slice HO103.out;subst eo7;have p104:0≤((ji2):Int):=of_decide_eq_true (by first | (with_reducible assumption) | assumption);have q104:(ji2)<(y101.length:Int):=of_decide_eq_true (by first | (with_reducible assumption) | assumption);obtain ⟨ad104,e104,hx104_0⟩:=Kd.at_int (Kd.R_reads' HO103.out).2.2 (ji2) p104 q104;cases e104;replace p104:=eq_true p104;replace q104:=eq_true q104))
     go_ret
     exact ⟨by first | rfl | (simp [errW_none,errW_some] <;> rfl) | (simp only [← hji2];first | rfl | (simp [errW_none,errW_some] <;> rfl)) | (simp [*,errW_none,errW_some] <;> rfl),by repeat (first | (with_reducible first | exact HB.out | apply below_alloc | apply pw_below_drewN | apply below_drew1) | exact HB.out)⟩
   rw [if_neg c4] at H
   exact absurd H (by simp)
 rw [if_neg c3] at H
 exact absurd H (by simp)
def jacquardref01_Word.l0:Nat→List Int→Int→Int→Option (Int)
 | 0,_,_,_=>none
 | k+1,x0,x3,x4=>if x4≥0 then (if 0≤x4 then (if x4<(x0.length:Int) then (jacquardref01_Word.l0 k x0 (IntKind.u64.wrap ((IntKind.u64.wrap (2*x3))+(IntKind.u64.wrap (rd x0 x4)))) (wrap64 (x4 - 1))) else (none)) else (none)) else (some x3)
def jacquardref01_Word.f (k:Nat) (l0:List Int):Option (Int):=jacquardref01_Word.l0 k l0 0 (wrap64 ((l0.length:Int) - 1))
theorem jacquardref01_Word.mono_l:∀ k,(∀ y0 y1 y2,LeO (jacquardref01_Word.l0 k y0 y1 y2) (jacquardref01_Word.l0 (k+1) y0 y1 y2))
 | 0=>fun _ _ _ r h=>by simp [jacquardref01_Word.l0] at h
 | k+1=>by
  have ih0:=jacquardref01_Word.mono_l k
  intros
  unfold jacquardref01_Word.l0
  repeat' first | (with_reducible first | apply ih0 | exact LeO.refl _ | exact LeO.none _ | refine LeO.ite ?_ ?_ | refine LeO.bind ?_ (fun _=>?_)) | apply ih0 | exact LeO.none _ | refine LeO.ite ?_ ?_ | refine LeO.bind ?_ (fun _=>?_)
theorem jacquardref01_Word.mono:∀ a0 k,LeO (jacquardref01_Word.f k a0) (jacquardref01_Word.f (k+1) a0):=by
 intro a0 k
 have ih0:=jacquardref01_Word.mono_l k
 unfold jacquardref01_Word.f
 repeat' first | (with_reducible first | apply ih0 | exact LeO.refl _ | exact LeO.none _ | refine LeO.ite ?_ ?_ | refine LeO.bind ?_ (fun _=>?_)) | apply ih0 | exact LeO.none _ | refine LeO.ite ?_ ?_ | refine LeO.bind ?_ (fun _=>?_)
set_option maxHeartbeats 8000000 in
set_option maxRecDepth 100000 in
theorem jacquardref01_Word.calls (k:Nat) (A0:Option Addr) (c0:Nat) (l0:List Int) (r:Int) (w:World) (hr0:Kd.C (Kd.int .i64) w A0 l0.length l0) (hc0:l0.length≤c0) (h:jacquardref01_Word.f k l0=some r) :
    Calls Try.prog 55 #[.slice A0 l0.length c0] w fun e w'=>e = .returned (.int .u64 r)∧Drawn0 w w':=by
 have HR0:=Aside0.mk hr0
 have HC0:=Aside0.mk hc0
 clear hr0 hc0
 have H:(jacquardref01_Word.l0 k l0 0 (wrap64 ((l0.length:Int) - 1)))=some r:=h
 clear h
 have H':=Aside0.mk H
 clear H
 go_enter Try.func55,Try.ntmps55
 go_wp2
 go_loopg [3,4] k (fun kq v3 v4 w'=>∃ (x3_1:Int) (x4_1:Int),v3 = .int .u64 x3_1∧v4 = .int .i64 x4_1∧Aside0 (jacquardref01_Word.l0 kq l0 x3_1 x4_1=some r)∧Aside0 (kq≤k)∧Drawn0 w w')
 case atStart=>exact ⟨(0),(wrap64 ((l0.length:Int) - 1)),(by first | rfl | (simp;done) | (simp [*];done)),(by first | rfl | (simp;done) | (simp [*];done)),H',⟨Nat.le_refl _⟩,by repeat (first | exact Drawn0.refl _ | apply Drawn0.step)⟩
 clear H'
 obtain ⟨x3_1,x4_1,rfl,rfl,HA,HK1,⟨m1,rfl⟩⟩:=hrel
 cases gk with
 | zero=>exact absurd HA.out (by simp [jacquardref01_Word.l0])
 | succ k1=>?_
 have H:=HA.out
 clear HA
 simp only [jacquardref01_Word.l0] at H
 by_cases c2:x4_1≥0
 · rw [if_pos c2] at H
   have c2b0:decide (0≤x4_1)=true:=decide_eq_true c2
   clear c2
   by_cases c3:0≤x4_1
   · rw [if_pos c3] at H
     have c3b0:decide (0≤x4_1)=true:=decide_eq_true c3
     clear c3
     by_cases c4:x4_1<(l0.length:Int)
     · rw [if_pos c4] at H
       have c4b0:decide (x4_1<(l0.length:Int))=true:=decide_eq_true c4
       clear c4
       have H':=Aside0.mk H
       clear H
       have p105:0≤(x4_1:Int):=of_decide_eq_true (by first | (with_reducible assumption) | assumption)
       have q105:x4_1<(l0.length:Int):=of_decide_eq_true (by first | (with_reducible assumption) | assumption)
       obtain ⟨ad105,e105,hx105_0⟩:=Kd.at_int HR0.out x4_1 p105 q105
       cases e105
       replace p105:=eq_true p105
       replace q105:=eq_true q105
       go_wp2
       go_roundg k1
       case measure=>have:=HK1.out;omega
       case rel=>exact ⟨(IntKind.u64.wrap ((IntKind.u64.wrap (2*x3_1))+(IntKind.u64.wrap (rd l0 x4_1)))),(wrap64 (x4_1 - 1)),(by first | rfl | (simp;done) | (simp [*];done)),(by first | rfl | (simp;done) | (simp [*];done)),H',⟨by have:=HK1.out;omega⟩,by repeat (first | exact Drawn0.refl _ | apply Drawn0.step)⟩
     rw [if_neg c4] at H
     exact absurd H (by simp)
   rw [if_neg c3] at H
   exact absurd H (by simp)
 rw [if_neg c2] at H
 have c2b0:decide (0≤x4_1)=false:=decide_eq_false c2
 clear c2
 obtain rfl:=Option.some.inj H
 go_wp2
 go_ret
 exact ⟨by first | rfl | (simp;done) | (simp [*];done),by repeat (first | exact Drawn0.refl _ | apply Drawn0.step)⟩
def jacquardref01_Width.f (a0:Int):Option (Int):=some (mn (mx a0 0) 64)
set_option maxHeartbeats 8000000 in
set_option maxRecDepth 100000 in
theorem jacquardref01_Width.calls (a0:Int) (r:Int) (w:World) (h:jacquardref01_Width.f a0=some r) :
    Calls Try.prog 60 #[.int .i64 a0] w fun e w'=>e = .returned (.int .i64 r)∧Below w.heap.size w w':=by
 have HB:=Aside0.mk (Below.refl w.heap.size w)
 have H:(some (mn (mx a0 0) 64))=some r:=h
 clear h
 obtain ⟨ji2,hji2⟩:∃ j_:Int,(mx a0 0)=j_:=⟨_,rfl⟩
 replace H:(some (mn (ji2) 64))=some r:=by first | (rw [hji2] at H;exact H) | (simp only [hji2] at H ⊢;exact H)
 (try (have hji2l:0≤ji2:=by (rw [← hji2];unfold mx;(repeat' split) <;> omega)))
 (try (have hji2m:0≤ji2:=by omega))
 have hji2_:(if a0<0 then 0 else a0)=ji2:=hji2
 obtain ⟨ji3,hji3⟩:∃ j_:Int,(mn (ji2) 64)=j_:=⟨_,rfl⟩
 replace H:(some ji3)=some r:=by first | (rw [hji3] at H;exact H) | (simp only [hji3] at H ⊢;exact H)
 have hji3_:(if 64<(ji2) then 64 else (ji2))=ji3:=hji3
 obtain rfl:=Option.some.inj H
 go_enter Try.func60,Try.ntmps60
 go_wp2
 go_ret
 exact ⟨by first | rfl | (simp [errW_none,errW_some] <;> rfl) | (simp only [← hji2,← hji3];first | rfl | (simp [errW_none,errW_some] <;> rfl)) | (simp [*,errW_none,errW_some] <;> rfl),by repeat (first | (with_reducible first | exact HB.out | apply below_alloc | apply pw_below_drewN | apply below_drew1) | exact HB.out)⟩
end Go.Proofs.Ytabcdpddhmekkaa.PAll
