-- Written for this claim by programs of this session (wip/print2 in its repo: a changed printer, a shortener, a packer). Lean checks it.
import Derived.Test.YtabcdpddhmekkaaP0
import Derived.Test.YtabcdpddhmekkaaF24
set_option linter.all false
namespace Go.Proofs.Ytabcdpddhmekkaa.PAll
open Go.RowKit Go.Proofs.YtabcdpddhmekkaaW.PrintWords Go.Proofs.YtabcdpddhmekkaaW.PrintLast Go.Proofs.YtabcdpddhmekkaaW.PrintMore
attribute [local go_sem] max2_int min2_int max_two min_two max_three min_three max_four min_four
set_option linter.unusedVariables false
set_option linter.unusedSimpArgs false
def jacquardref01_Bits.l0:Nat→Int→Int→List Int→Int→Option (List Int)
 | 0,_,_,_,_=>none
 | k+1,x0,x1,x5,x6=>(jacquardref01_Width.f x0).bind fun t106=>(if x6<t106 then (if x5.length<17592186044416 then (jacquardref01_Bits.l0 k x0 (IntKind.u64.wrap (Int.tdiv x1 2)) (x5++[wrap64 (Int.tmod x1 2)]) (wrap64 (x6+1))) else (none)) else (some x5))
def jacquardref01_Bits.f (k:Nat) (a0:Int) (a1:Int):Option (List Int):=jacquardref01_Bits.l0 k a0 a1 ([]:List Int) 0
theorem jacquardref01_Bits.mono_l:∀ k,(∀ y0 y1 y2 y3,LeO (jacquardref01_Bits.l0 k y0 y1 y2 y3) (jacquardref01_Bits.l0 (k+1) y0 y1 y2 y3))
 | 0=>fun _ _ _ _ r h=>by simp [jacquardref01_Bits.l0] at h
 | k+1=>by
  have ih0:=jacquardref01_Bits.mono_l k
  intros
  unfold jacquardref01_Bits.l0
  repeat' first | (with_reducible first | apply ih0 | exact LeO.refl _ | exact LeO.none _ | refine LeO.ite ?_ ?_ | refine LeO.bind ?_ (fun _=>?_)) | apply ih0 | exact LeO.none _ | refine LeO.ite ?_ ?_ | refine LeO.bind ?_ (fun _=>?_)
theorem jacquardref01_Bits.mono:∀ a0 a1 k,LeO (jacquardref01_Bits.f k a0 a1) (jacquardref01_Bits.f (k+1) a0 a1):=by
 intro a0 a1 k
 have ih0:=jacquardref01_Bits.mono_l k
 unfold jacquardref01_Bits.f
 repeat' first | (with_reducible first | apply ih0 | exact LeO.refl _ | exact LeO.none _ | refine LeO.ite ?_ ?_ | refine LeO.bind ?_ (fun _=>?_)) | apply ih0 | exact LeO.none _ | refine LeO.ite ?_ ?_ | refine LeO.bind ?_ (fun _=>?_)
set_option maxHeartbeats 8000000 in
set_option maxRecDepth 100000 in
theorem jacquardref01_Bits.calls (k:Nat) (a0:Int) (a1:Int) (r:List Int) (w:World) (h:jacquardref01_Bits.f k a0 a1=some r) :
    Calls Try.prog 56 #[.int .i64 a0,.int .u64 a1] w fun e w'=>∃ v0_:Value,e = .returned (v0_)∧Kd.R (Kd.int .i64) 3 w' w.heap.size (fun _=>True) v0_ r∧Below w.heap.size w w':=by
 have HB:=Aside0.mk (Below.refl w.heap.size w)
 have H:(jacquardref01_Bits.l0 k a0 a1 ([]:List Int) 0)=some r:=h
 clear h
 have H':=Aside0.mk H
 clear H
 go_enter Try.func56,Try.ntmps56
 go_wp2
 go_loopg [1,5,6] k (fun kq v1 v5 v6 w'=>∃ (x1_1:Int) (x5_1:List Int) (x6_1:Int),v1 = .int .u64 x1_1∧v6 = .int .i64 x6_1∧Aside0 (jacquardref01_Bits.l0 kq a0 x1_1 x5_1 x6_1=some r)∧Aside0 (kq≤k)∧Aside0 (Kd.R (Kd.int .i64) 3 w' w.heap.size (fun _=>True) v5 x5_1)∧Aside0 (Below w.heap.size w w'))
 case atStart=>exact ⟨(a1),(([]:List Int)),(0),(by first | rfl | (simp;done) | (simp [*];done)),(by first | rfl | (simp;done) | (simp [*];done)),H',⟨Nat.le_refl _⟩,⟨by first | exact Kd.R_nil _ _ _ _ _ | exact Kd.N_nil _ _ _ _ _ | exact Kd.V_nil _ _ _ _ _ | exact Kd.Q_nil _ _ _ _ _ | exact Kd.S_nil _ _ _ _ _⟩,⟨bl_⟩⟩
 clear H'
 try clear p2
 obtain ⟨x1_1,x5_1,x6_1,rfl,rfl,HA,HK1,HO_5,HB⟩:=hrel
 cases gk with
 | zero=>exact absurd HA.out (by simp [jacquardref01_Bits.l0])
 | succ k1=>?_
 have H:=HA.out
 clear HA
 simp only [jacquardref01_Bits.l0] at H
 replace H:=Option.bind_eq_some_iff.mp H
 obtain ⟨t106,A30,H⟩:=H
 replace H:(if x6_1<t106 then (if x5_1.length<17592186044416 then (jacquardref01_Bits.l0 k1 a0 (IntKind.u64.wrap (Int.tdiv x1_1 2)) (x5_1++[wrap64 (Int.tmod x1_1 2)]) (wrap64 (x6_1+1))) else (none)) else (some x5_1))=some r:=H
 have A3:=Aside0.mk A30
 clear A30
 by_cases c4:x6_1<t106
 · rw [if_pos c4] at H
   have c4b0:decide (x6_1<t106)=true:=decide_eq_true c4
   clear c4
   by_cases c5:x5_1.length<17592186044416
   · rw [if_pos c5] at H
     have LMc5:=Aside0.mk c5
     clear c5
     obtain ⟨y107,hy107⟩:∃ y_:List Int,y_=(x5_1++[wrap64 (Int.tmod x1_1 2)]):=⟨_,rfl⟩
     replace H:(jacquardref01_Bits.l0 k1 a0 (IntKind.u64.wrap (Int.tdiv x1_1 2)) y107 (wrap64 (x6_1+1)))=some r:=by first | (rw [hy107];with_reducible exact H) | (have H2_:=(Option.bind_some _ _).symm.trans H;rw [hy107];with_reducible exact H2_) | (have H2_:=(Option.bind_some _ _).symm.trans H;with_reducible exact H2_) | with_reducible exact H | (rw [hy107];exact H) | exact H
     have Ny107:=Aside0.mk hy107
     clear hy107
     have H':=Aside0.mk H
     clear H
     go_wp2_with (first | ((with_reducible refine gate_callee (f:=60) rfl ?_);refine gL_ 9 Try.func60 #[.int .i64 a0] ?_;(with_reducible refine (jacquardref01_Width.calls a0 t106 _ A3.out).mono ?_);rintro e w6 ⟨rfl,hb⟩;refine ⟨_,rfl,?_⟩;have n0_:=Aside0.mk (Kd.R_below (R_ HO_5) hb);have n1_:=Aside0.mk (below_step bl_ hb);clear HO_5;clear HB;have HO_5:=n0_;have HB:=n1_;clear n0_ n1_;(try clear hb);(try clear hb2);(try clear hk);(try clear hi)) | ((with_reducible refine gate_builtin (b:=.append) (xs := #[.tmp 13,.tmp 17]) rfl ?_);at_builtin;refine Kd.R_append (Kd.int .i64) (w0:=w) w.heap.size rfl (.tmp 13) (.tmp 17) 29 3 (.int .i64 0) 8 rfl Try.underlying29 info3 rfl (by decide) (by omega) u5 x5_1 (wrap64 (Int.tmod x1_1 2)) [.int .i64 (wrap64 (Int.tmod x1_1 2))] (fun _=>True) (fun _=>False) rfl rfl ?aP (fun _ hk=>hk.elim) ?aF ?aO ?aB ?aS ?aL ?_;(case aP=>exact rfl);(case aB=>exact bl_);(case aF=>exact (fun _ _=>trivial));(case aO=>exact (R_ HO_5));(case aS=>exact (below_size bl_));(case aL=>have:=LMc5.out;omega);intro v108 w7 ho hb hg hat;rw [← Ny107.out] at ho;have n0_:=Aside0.mk (hb);have n1_:=Aside0.mk (ho);clear HB;clear HO_5;have HB:=n0_;have HO109:=n1_;clear n0_ n1_;clear ho hb hg hat))
     go_roundg k1
     case measure=>have:=HK1.out;omega
     case rel=>exact ⟨(IntKind.u64.wrap (Int.tdiv x1_1 2)),(y107),(wrap64 (x6_1+1)),(by first | rfl | (simp;done) | (simp [*];done)),(by first | rfl | (simp;done) | (simp [*];done)),H',⟨by have:=HK1.out;omega⟩,⟨R_ HO109⟩,⟨bl_⟩⟩
   rw [if_neg c5] at H
   exact absurd H (by simp)
 rw [if_neg c4] at H
 have c4b0:decide (x6_1<t106)=false:=decide_eq_false c4
 clear c4
 obtain rfl:=Option.some.inj H
 go_wp2_with (first | ((with_reducible refine gate_callee (f:=60) rfl ?_);refine gL_ 9 Try.func60 #[.int .i64 a0] ?_;(with_reducible refine (jacquardref01_Width.calls a0 t106 _ A3.out).mono ?_);rintro e w8 ⟨rfl,hb⟩;refine ⟨_,rfl,?_⟩;have n0_:=Aside0.mk (Kd.R_below (R_ HO_5) hb);have n1_:=Aside0.mk (below_step bl_ hb);clear HO_5;clear HB;have HO_5:=n0_;have HB:=n1_;clear n0_ n1_;(try clear hb);(try clear hb2);(try clear hk);(try clear hi)))
 go_ret
 exact ⟨_,by first | rfl | (simp [errW_none,errW_some] <;> rfl) | (simp [*,errW_none,errW_some] <;> rfl),by (with_reducible repeat (first | apply Kd.R_alloc | apply Kd.R_drewN | apply Kd.R_drew));exact HO_5.out,by repeat (first | (with_reducible first | exact HB.out | apply below_alloc | apply pw_below_drewN | apply below_drew1) | exact HB.out)⟩
def jacquardref01_Fit.f (k:Nat) (a0:Int) (a1:Int):Option (Int):=(jacquardref01_Bits.f k a0 a1).bind fun t110=>((jacquardref01_Word.f k t110).bind fun t113=>(some t113))
theorem jacquardref01_Fit.mono:∀ a0 a1 k,LeO (jacquardref01_Fit.f k a0 a1) (jacquardref01_Fit.f (k+1) a0 a1):=by
 intro a0 a1 k
 unfold jacquardref01_Fit.f
 repeat' first | (with_reducible first | apply jacquardref01_Bits.mono | apply jacquardref01_Word.mono | exact LeO.refl _ | exact LeO.none _ | refine LeO.ite ?_ ?_ | refine LeO.bind ?_ (fun _=>?_)) | apply jacquardref01_Bits.mono | apply jacquardref01_Word.mono | exact LeO.none _ | refine LeO.ite ?_ ?_ | refine LeO.bind ?_ (fun _=>?_)
set_option maxHeartbeats 8000000 in
set_option maxRecDepth 100000 in
theorem jacquardref01_Fit.calls (k:Nat) (a0:Int) (a1:Int) (r:Int) (w:World) (h:jacquardref01_Fit.f k a0 a1=some r) :
    Calls Try.prog 41 #[.int .i64 a0,.int .u64 a1] w fun e w'=>e = .returned (.int .u64 r)∧Below w.heap.size w w':=by
 have HB:=Aside0.mk (Below.refl w.heap.size w)
 have H:((jacquardref01_Bits.f k a0 a1).bind fun t110=>((jacquardref01_Word.f k t110).bind fun t113=>(some t113)))=some r:=h
 clear h
 replace H:=Option.bind_eq_some_iff.mp H
 obtain ⟨t110,A30,H⟩:=H
 replace H:((jacquardref01_Word.f k t110).bind fun t113=>(some t113))=some r:=H
 have A3:=Aside0.mk A30
 clear A30
 replace H:=Option.bind_eq_some_iff.mp H
 obtain ⟨t113,A40,H⟩:=H
 replace H:(some t113)=some r:=H
 have A4:=Aside0.mk A40
 clear A40
 obtain rfl:=Option.some.inj H
 go_enter Try.func41,Try.ntmps41
 go_wp2_with (first | ((with_reducible refine gate_callee (f:=56) rfl ?_);refine gL_ 7 Try.func56 #[.int .i64 a0,.int .u64 a1] ?_;(with_reducible refine (jacquardref01_Bits.calls k a0 a1 t110 _ A3.out).mono ?_);rintro e w5 ⟨v111,rfl,ho0,hb⟩;refine ⟨_,rfl,?_⟩;have n0_:=Aside0.mk (Kd.R_lower ho0 (below_size bl_));have n1_:=Aside0.mk (below_step bl_ hb);clear HB;have HO112:=n0_;have HB:=n1_;clear n0_ n1_;(try clear hb);(try clear hb2);(try clear hk);(try clear hi);(try clear ho0);obtain ⟨Ao6,co6,eo6⟩:=Kd.R_slice HO112.out;subst eo6) | ((with_reducible refine gate_callee (f:=55) rfl ?_);refine gL_ 8 Try.func55 #[.slice Ao6 t110.length co6] ?_;(with_reducible refine (jacquardref01_Word.calls k _ _ t110 t113 _ ?side1 ?side2 A4.out).mono ?_);(case side1=>exact CR_ HO112);(case side2=>exact (Kd.R_reads' HO112.out).2.1);rintro e w' ⟨rfl,⟨nd,rfl⟩⟩;refine ⟨_,rfl,?_⟩))
 go_ret
 exact ⟨by first | rfl | (simp [errW_none,errW_some] <;> rfl) | (simp [*,errW_none,errW_some] <;> rfl),by repeat (first | (with_reducible first | exact HB.out | apply below_alloc | apply pw_below_drewN | apply below_drew1) | exact HB.out)⟩
def jacquardref01_IsCompare.f (a0:Int):Option (Bool):=if a0≥15 then (some (decide (a0≤20))) else (some false)
set_option maxHeartbeats 8000000 in
set_option maxRecDepth 100000 in
theorem jacquardref01_IsCompare.calls (a0:Int) (r:Bool) (w:World) (h:jacquardref01_IsCompare.f a0=some r) :
    Calls Try.prog 42 #[.int .i64 a0] w fun e w'=>e = .returned (.bool r)∧Drawn0 w w':=by
 have H:(if a0≥15 then (some (decide (a0≤20))) else (some false))=some r:=h
 clear h
 by_cases c2:a0≥15
 · rw [if_pos c2] at H
   have c2b0:decide (15≤a0)=true:=decide_eq_true c2
   clear c2
   obtain rfl:=Option.some.inj H
   go_enter Try.func42,Try.ntmps42
   go_wp2
   go_ret
   exact ⟨by first | rfl | (simp;done) | (simp [*];done),by repeat (first | exact Drawn0.refl _ | apply Drawn0.step)⟩
 rw [if_neg c2] at H
 have c2b0:decide (15≤a0)=false:=decide_eq_false c2
 clear c2
 obtain rfl:=Option.some.inj H
 go_enter Try.func42,Try.ntmps42
 go_wp2
 go_ret
 exact ⟨by first | rfl | (simp;done) | (simp [*];done),by repeat (first | exact Drawn0.refl _ | apply Drawn0.step)⟩
def jacquardref01_IsBinary.f (a0:Int):Option (Bool):=if a0≥2 then (some (decide (a0≤20))) else (some false)
set_option maxHeartbeats 8000000 in
set_option maxRecDepth 100000 in
theorem jacquardref01_IsBinary.calls (a0:Int) (r:Bool) (w:World) (h:jacquardref01_IsBinary.f a0=some r) :
    Calls Try.prog 44 #[.int .i64 a0] w fun e w'=>e = .returned (.bool r)∧Drawn0 w w':=by
 have H:(if a0≥2 then (some (decide (a0≤20))) else (some false))=some r:=h
 clear h
 by_cases c2:a0≥2
 · rw [if_pos c2] at H
   have c2b0:decide (2≤a0)=true:=decide_eq_true c2
   clear c2
   obtain rfl:=Option.some.inj H
   go_enter Try.func44,Try.ntmps44
   go_wp2
   go_ret
   exact ⟨by first | rfl | (simp;done) | (simp [*];done),by repeat (first | exact Drawn0.refl _ | apply Drawn0.step)⟩
 rw [if_neg c2] at H
 have c2b0:decide (2≤a0)=false:=decide_eq_false c2
 clear c2
 obtain rfl:=Option.some.inj H
 go_enter Try.func44,Try.ntmps44
 go_wp2
 go_ret
 exact ⟨by first | rfl | (simp;done) | (simp [*];done),by repeat (first | exact Drawn0.refl _ | apply Drawn0.step)⟩
end Go.Proofs.Ytabcdpddhmekkaa.PAll
