-- Written for this claim by programs of this session (wip in its repo). Lean checks it.
import Derived.Test.YtabcdpddhmekkaaVmE
set_option linter.all false
namespace Go.Proofs.Ytabcdpddhmekkaa.vm
open Go Go.RowKit Go.Vm
theorem w64 {x:Int} (h0 : -9223372036854775808≤x) (h1:x≤9223372036854775807):wrap64 x=x:=by
 unfold wrap64;omega
theorem wu64 {x:Int} (h0:0≤x) (h1:x<18446744073709551616):wr .u64 x=x:=by
 show IntKind.wrap .u64 x=x
 rw [show IntKind.wrap .u64 x=x % 18446744073709551616 by simp [IntKind.wrap,IntKind.bits,IntKind.signed]];omega
theorem e29 (k:Nat) (x:Int) (h:0≤x∧x≤18446744073709551615):evF T (k+1) 58 [.int .u64 x] []=some ([.int .i64 (Lib.bitLen x.toNat:Nat)],[]):=by
 rw [show evF T (k+1) 58 [.int .u64 x] []=xLen [.int .u64 x] [] from by kernel_rfl]
 show (if 0≤x∧x≤18446744073709551615 then _ else none)=_
 rw [if_pos h]
theorem lev15 (k:Nat) (w:Int) (h0:1≤w) (h1:w≤70):evF T (k+2) 50 [.int .i64 w] []=some ([.int .i64 (Lib.bitLen (w - 1).toNat:Nat)],[]):=by
 rw [f50_eq,if_neg (by omega),w64 (x:=w - 1) (by omega) (by omega),wu64 (x:=w - 1) (by omega) (by omega),e29 _ _ ⟨by omega,by omega⟩]
 rfl
def pl:Nat→Int→Int→Int→Option Int
 | 0,_,_,_=>none
 | m+1,x0,x3,x4=>if x4<x0 then if x3<62 then pl m x0 (wrap64 (x3+1)) (wrap64 (2*x4)) else some x3 else some x3
theorem l17_pl (k:Nat):∀ (m:Nat) (x0 x3 x4 r:Int),pl m x0 x3 x4=some r→l51_0 k m x0 x3 x4=some ([.int .i64 r],[])
 | 0,_,_,_,_,h=>by simp [pl] at h
 | m+1,x0,x3,x4,r,h=>by
  rw [l51_0_eq];unfold pl at h
  by_cases c1:x4<x0
  ·rw [if_pos c1] at h ⊢
   by_cases c2:x3<62
   ·rw [if_pos c2] at h ⊢;exact l17_pl k m _ _ _ _ h
   ·rw [if_neg c2] at h ⊢;cases h;rfl
  ·rw [if_neg c1] at h ⊢;cases h;rfl
theorem pl_mono:∀ (j m:Nat) (x0 x3 x4 r:Int),pl m x0 x3 x4=some r→pl (j+m) x0 x3 x4=some r
 | j,0,_,_,_,_,h=>by simp [pl] at h
 | j,m+1,x0,x3,x4,r,h=>by
  show pl ((j+m)+1) x0 x3 x4=some r
  unfold pl at h ⊢
  by_cases c1:x4<x0
  ·rw [if_pos c1] at h ⊢
   by_cases c2:x3<62
   ·rw [if_pos c2] at h ⊢;exact pl_mono j m _ _ _ _ h
   ·rw [if_neg c2] at h ⊢;exact h
  ·rw [if_neg c1] at h ⊢;exact h
theorem pl_all:∀ w:Fin 70,pl 40 ((w.val:Int)+1) 0 1=some (Lib.bitLen w.val:Nat):=by decide +kernel
theorem lev17 (k:Nat) (w:Int) (h0:1≤w) (h1:w≤70):evF T (k+41) 51 [.int .i64 w] []=some ([.int .i64 (Lib.bitLen (w - 1).toNat:Nat)],[]):=by
 have h:=pl_all ⟨(w - 1).toNat,by omega⟩
 simp only [] at h
 rw [show ((w - 1).toNat:Int)+1=w from by omega] at h
 exact (f51_eq (k+40) w).trans (l17_pl (k+40) (k+40) w 0 1 _ (pl_mono k 40 _ _ _ _ h))
theorem e28 (k:Nat) (a0 a1 a2:Int):evF T (k+41) 59 [.int .i64 a0,.int .i64 a1,.int .i64 a2] []=some ([.agg [.int .i64 (0:Int),.int .i64 a0,.int .i64 a1,.int .i64 (0:Int),.int .i64 (0:Int),.int .i64 a2]],[]):=f59_eq (k+40) a0 a1 a2
theorem dl {a c:Int} {L:Nat} (h:L≤7) (a0:0≤a∧a≤50) (c0:0≤c∧c≤40):0≤wrap64 (a+wrap64 (c*(L:Int)))∧wrap64 (a+wrap64 (c*(L:Int)))≤500:=by
 have h1:0≤c*(L:Int):=Int.mul_nonneg c0.1 (by omega)
 have h2:c*(L:Int)≤40*7:=Int.mul_le_mul c0.2 (by omega) (by omega) (by omega)
 rw [w64 (x:=c*(L:Int)) (by omega) (by omega),w64 (by omega) (by omega)]
 omega
def SameAt (op w:Int):Prop:=∃ u0 u1 u2 u3 u4 u5,(∀ k,evF T (k+42) 49 [.int .i64 op,.int .i64 w] []=some ([.agg [.int .i64 u0,.int .i64 u1,.int .i64 u2,.int .i64 u3,.int .i64 u4,.int .i64 u5],.int .i64 0],[]))∧(∀ k,evF T (k+42) 54 [.int .i64 op,.int .i64 w] []=some ([.agg [.int .i64 u0,.int .i64 u1,.int .i64 u2,.int .i64 u3,.int .i64 u4,.int .i64 u5]],[]))∧u1=w∧(0≤u2∧u2≤500)∧(u0=0↔(op<4∨8<op))
theorem unit2 (w:Int) (b1:Lib.bitLen (w - 1).toNat≤7) (b2:Lib.bitLen w.toNat≤7) (h1:¬ w<1) (h2:¬ w>64) (l1:∀ k,evF T (k+41) 50 [.int .i64 w] []=some ([.int .i64 (Lib.bitLen (w - 1).toNat:Nat)],[])) (l2:∀ k,evF T (k+41) 50 [.int .i64 (wrap64 (w+1))] []=some ([.int .i64 (Lib.bitLen w.toNat:Nat)],[])) (l3:∀ k,evF T (k+41) 51 [.int .i64 w] []=some ([.int .i64 (Lib.bitLen (w - 1).toNat:Nat)],[])) (l4:∀ k,evF T (k+41) 51 [.int .i64 (wrap64 (w+1))] []=some ([.int .i64 (Lib.bitLen w.toNat:Nat)],[])):SameAt 2 w:=by
 unfold SameAt
 refine ⟨?u0,?u1,?u2,?u3,?u4,?u5,fun k=>?a,fun k=>?b,?c,?d,?e⟩
 case b=>
  rw [f54_eq (k+41)]
  simp only [l3,l4,e28,j54_0_eq,j54_1_eq,j54_2_eq,j54_3_eq,j54_4_eq,j54_5_eq,Option.bind_some,res51_eq,res59_eq,if_true,if_false,reduceIte,Int.reduceEq,Int.reduceLE,ge_iff_le,gt_iff_lt,Int.reduceLT,decide_true,decide_false,Bool.false_eq_true]
  rfl
 case a=>
  rw [f49_eq (k+41)]
  simp only [h1,h2,l1,l2,j49_0_eq,j49_1_eq,j49_2_eq,j49_3_eq,j49_4_eq,j49_5_eq,Option.bind_some,res50_eq,if_true,if_false,reduceIte,Int.reduceEq,Int.reduceLE,ge_iff_le,gt_iff_lt,Int.reduceLT,decide_true,decide_false,Bool.false_eq_true]
 case c=>rfl
 case d=>first | exact dl b1 (by decide) (by decide) | exact dl b2 (by decide) (by decide) | decide
 case e=>decide +kernel
theorem unit3 (w:Int) (b1:Lib.bitLen (w - 1).toNat≤7) (b2:Lib.bitLen w.toNat≤7) (h1:¬ w<1) (h2:¬ w>64) (l1:∀ k,evF T (k+41) 50 [.int .i64 w] []=some ([.int .i64 (Lib.bitLen (w - 1).toNat:Nat)],[])) (l2:∀ k,evF T (k+41) 50 [.int .i64 (wrap64 (w+1))] []=some ([.int .i64 (Lib.bitLen w.toNat:Nat)],[])) (l3:∀ k,evF T (k+41) 51 [.int .i64 w] []=some ([.int .i64 (Lib.bitLen (w - 1).toNat:Nat)],[])) (l4:∀ k,evF T (k+41) 51 [.int .i64 (wrap64 (w+1))] []=some ([.int .i64 (Lib.bitLen w.toNat:Nat)],[])):SameAt 3 w:=by
 unfold SameAt
 refine ⟨?u0,?u1,?u2,?u3,?u4,?u5,fun k=>?a,fun k=>?b,?c,?d,?e⟩
 case b=>
  rw [f54_eq (k+41)]
  simp only [l3,l4,e28,j54_0_eq,j54_1_eq,j54_2_eq,j54_3_eq,j54_4_eq,j54_5_eq,Option.bind_some,res51_eq,res59_eq,if_true,if_false,reduceIte,Int.reduceEq,Int.reduceLE,ge_iff_le,gt_iff_lt,Int.reduceLT,decide_true,decide_false,Bool.false_eq_true]
  rfl
 case a=>
  rw [f49_eq (k+41)]
  simp only [h1,h2,l1,l2,j49_0_eq,j49_1_eq,j49_2_eq,j49_3_eq,j49_4_eq,j49_5_eq,Option.bind_some,res50_eq,if_true,if_false,reduceIte,Int.reduceEq,Int.reduceLE,ge_iff_le,gt_iff_lt,Int.reduceLT,decide_true,decide_false,Bool.false_eq_true]
 case c=>rfl
 case d=>first | exact dl b1 (by decide) (by decide) | exact dl b2 (by decide) (by decide) | decide
 case e=>decide +kernel
theorem unit4 (w:Int) (b1:Lib.bitLen (w - 1).toNat≤7) (b2:Lib.bitLen w.toNat≤7) (h1:¬ w<1) (h2:¬ w>64) (l1:∀ k,evF T (k+41) 50 [.int .i64 w] []=some ([.int .i64 (Lib.bitLen (w - 1).toNat:Nat)],[])) (l2:∀ k,evF T (k+41) 50 [.int .i64 (wrap64 (w+1))] []=some ([.int .i64 (Lib.bitLen w.toNat:Nat)],[])) (l3:∀ k,evF T (k+41) 51 [.int .i64 w] []=some ([.int .i64 (Lib.bitLen (w - 1).toNat:Nat)],[])) (l4:∀ k,evF T (k+41) 51 [.int .i64 (wrap64 (w+1))] []=some ([.int .i64 (Lib.bitLen w.toNat:Nat)],[])):SameAt 4 w:=by
 unfold SameAt
 refine ⟨?u0,?u1,?u2,?u3,?u4,?u5,fun k=>?a,fun k=>?b,?c,?d,?e⟩
 case b=>
  rw [f54_eq (k+41)]
  simp only [l3,l4,e28,j54_0_eq,j54_1_eq,j54_2_eq,j54_3_eq,j54_4_eq,j54_5_eq,Option.bind_some,res51_eq,res59_eq,if_true,if_false,reduceIte,Int.reduceEq,Int.reduceLE,ge_iff_le,gt_iff_lt,Int.reduceLT,decide_true,decide_false,Bool.false_eq_true]
  rfl
 case a=>
  rw [f49_eq (k+41)]
  simp only [h1,h2,l1,l2,j49_0_eq,j49_1_eq,j49_2_eq,j49_3_eq,j49_4_eq,j49_5_eq,Option.bind_some,res50_eq,if_true,if_false,reduceIte,Int.reduceEq,Int.reduceLE,ge_iff_le,gt_iff_lt,Int.reduceLT,decide_true,decide_false,Bool.false_eq_true]
 case c=>rfl
 case d=>first | exact dl b1 (by decide) (by decide) | exact dl b2 (by decide) (by decide) | decide
 case e=>decide +kernel
theorem unit5 (w:Int) (b1:Lib.bitLen (w - 1).toNat≤7) (b2:Lib.bitLen w.toNat≤7) (h1:¬ w<1) (h2:¬ w>64) (l1:∀ k,evF T (k+41) 50 [.int .i64 w] []=some ([.int .i64 (Lib.bitLen (w - 1).toNat:Nat)],[])) (l2:∀ k,evF T (k+41) 50 [.int .i64 (wrap64 (w+1))] []=some ([.int .i64 (Lib.bitLen w.toNat:Nat)],[])) (l3:∀ k,evF T (k+41) 51 [.int .i64 w] []=some ([.int .i64 (Lib.bitLen (w - 1).toNat:Nat)],[])) (l4:∀ k,evF T (k+41) 51 [.int .i64 (wrap64 (w+1))] []=some ([.int .i64 (Lib.bitLen w.toNat:Nat)],[])):SameAt 5 w:=by
 unfold SameAt
 refine ⟨?u0,?u1,?u2,?u3,?u4,?u5,fun k=>?a,fun k=>?b,?c,?d,?e⟩
 case b=>
  rw [f54_eq (k+41)]
  simp only [l3,l4,e28,j54_0_eq,j54_1_eq,j54_2_eq,j54_3_eq,j54_4_eq,j54_5_eq,Option.bind_some,res51_eq,res59_eq,if_true,if_false,reduceIte,Int.reduceEq,Int.reduceLE,ge_iff_le,gt_iff_lt,Int.reduceLT,decide_true,decide_false,Bool.false_eq_true]
  rfl
 case a=>
  rw [f49_eq (k+41)]
  simp only [h1,h2,l1,l2,j49_0_eq,j49_1_eq,j49_2_eq,j49_3_eq,j49_4_eq,j49_5_eq,Option.bind_some,res50_eq,if_true,if_false,reduceIte,Int.reduceEq,Int.reduceLE,ge_iff_le,gt_iff_lt,Int.reduceLT,decide_true,decide_false,Bool.false_eq_true]
 case c=>rfl
 case d=>first | exact dl b1 (by decide) (by decide) | exact dl b2 (by decide) (by decide) | decide
 case e=>decide +kernel
theorem unit6 (w:Int) (b1:Lib.bitLen (w - 1).toNat≤7) (b2:Lib.bitLen w.toNat≤7) (h1:¬ w<1) (h2:¬ w>64) (l1:∀ k,evF T (k+41) 50 [.int .i64 w] []=some ([.int .i64 (Lib.bitLen (w - 1).toNat:Nat)],[])) (l2:∀ k,evF T (k+41) 50 [.int .i64 (wrap64 (w+1))] []=some ([.int .i64 (Lib.bitLen w.toNat:Nat)],[])) (l3:∀ k,evF T (k+41) 51 [.int .i64 w] []=some ([.int .i64 (Lib.bitLen (w - 1).toNat:Nat)],[])) (l4:∀ k,evF T (k+41) 51 [.int .i64 (wrap64 (w+1))] []=some ([.int .i64 (Lib.bitLen w.toNat:Nat)],[])):SameAt 6 w:=by
 unfold SameAt
 refine ⟨?u0,?u1,?u2,?u3,?u4,?u5,fun k=>?a,fun k=>?b,?c,?d,?e⟩
 case b=>
  rw [f54_eq (k+41)]
  simp only [l3,l4,e28,j54_0_eq,j54_1_eq,j54_2_eq,j54_3_eq,j54_4_eq,j54_5_eq,Option.bind_some,res51_eq,res59_eq,if_true,if_false,reduceIte,Int.reduceEq,Int.reduceLE,ge_iff_le,gt_iff_lt,Int.reduceLT,decide_true,decide_false,Bool.false_eq_true]
  rfl
 case a=>
  rw [f49_eq (k+41)]
  simp only [h1,h2,l1,l2,j49_0_eq,j49_1_eq,j49_2_eq,j49_3_eq,j49_4_eq,j49_5_eq,Option.bind_some,res50_eq,if_true,if_false,reduceIte,Int.reduceEq,Int.reduceLE,ge_iff_le,gt_iff_lt,Int.reduceLT,decide_true,decide_false,Bool.false_eq_true]
 case c=>rfl
 case d=>first | exact dl b1 (by decide) (by decide) | exact dl b2 (by decide) (by decide) | decide
 case e=>decide +kernel
theorem unit7 (w:Int) (b1:Lib.bitLen (w - 1).toNat≤7) (b2:Lib.bitLen w.toNat≤7) (h1:¬ w<1) (h2:¬ w>64) (l1:∀ k,evF T (k+41) 50 [.int .i64 w] []=some ([.int .i64 (Lib.bitLen (w - 1).toNat:Nat)],[])) (l2:∀ k,evF T (k+41) 50 [.int .i64 (wrap64 (w+1))] []=some ([.int .i64 (Lib.bitLen w.toNat:Nat)],[])) (l3:∀ k,evF T (k+41) 51 [.int .i64 w] []=some ([.int .i64 (Lib.bitLen (w - 1).toNat:Nat)],[])) (l4:∀ k,evF T (k+41) 51 [.int .i64 (wrap64 (w+1))] []=some ([.int .i64 (Lib.bitLen w.toNat:Nat)],[])):SameAt 7 w:=by
 unfold SameAt
 refine ⟨?u0,?u1,?u2,?u3,?u4,?u5,fun k=>?a,fun k=>?b,?c,?d,?e⟩
 case b=>
  rw [f54_eq (k+41)]
  simp only [l3,l4,e28,j54_0_eq,j54_1_eq,j54_2_eq,j54_3_eq,j54_4_eq,j54_5_eq,Option.bind_some,res51_eq,res59_eq,if_true,if_false,reduceIte,Int.reduceEq,Int.reduceLE,ge_iff_le,gt_iff_lt,Int.reduceLT,decide_true,decide_false,Bool.false_eq_true]
  rfl
 case a=>
  rw [f49_eq (k+41)]
  simp only [h1,h2,l1,l2,j49_0_eq,j49_1_eq,j49_2_eq,j49_3_eq,j49_4_eq,j49_5_eq,Option.bind_some,res50_eq,if_true,if_false,reduceIte,Int.reduceEq,Int.reduceLE,ge_iff_le,gt_iff_lt,Int.reduceLT,decide_true,decide_false,Bool.false_eq_true]
 case c=>rfl
 case d=>first | exact dl b1 (by decide) (by decide) | exact dl b2 (by decide) (by decide) | decide
 case e=>decide +kernel
theorem unit8 (w:Int) (b1:Lib.bitLen (w - 1).toNat≤7) (b2:Lib.bitLen w.toNat≤7) (h1:¬ w<1) (h2:¬ w>64) (l1:∀ k,evF T (k+41) 50 [.int .i64 w] []=some ([.int .i64 (Lib.bitLen (w - 1).toNat:Nat)],[])) (l2:∀ k,evF T (k+41) 50 [.int .i64 (wrap64 (w+1))] []=some ([.int .i64 (Lib.bitLen w.toNat:Nat)],[])) (l3:∀ k,evF T (k+41) 51 [.int .i64 w] []=some ([.int .i64 (Lib.bitLen (w - 1).toNat:Nat)],[])) (l4:∀ k,evF T (k+41) 51 [.int .i64 (wrap64 (w+1))] []=some ([.int .i64 (Lib.bitLen w.toNat:Nat)],[])):SameAt 8 w:=by
 unfold SameAt
 refine ⟨?u0,?u1,?u2,?u3,?u4,?u5,fun k=>?a,fun k=>?b,?c,?d,?e⟩
 case b=>
  rw [f54_eq (k+41)]
  simp only [l3,l4,e28,j54_0_eq,j54_1_eq,j54_2_eq,j54_3_eq,j54_4_eq,j54_5_eq,Option.bind_some,res51_eq,res59_eq,if_true,if_false,reduceIte,Int.reduceEq,Int.reduceLE,ge_iff_le,gt_iff_lt,Int.reduceLT,decide_true,decide_false,Bool.false_eq_true]
  rfl
 case a=>
  rw [f49_eq (k+41)]
  simp only [h1,h2,l1,l2,j49_0_eq,j49_1_eq,j49_2_eq,j49_3_eq,j49_4_eq,j49_5_eq,Option.bind_some,res50_eq,if_true,if_false,reduceIte,Int.reduceEq,Int.reduceLE,ge_iff_le,gt_iff_lt,Int.reduceLT,decide_true,decide_false,Bool.false_eq_true]
 case c=>rfl
 case d=>first | exact dl b1 (by decide) (by decide) | exact dl b2 (by decide) (by decide) | decide
 case e=>decide +kernel
theorem unit9 (w:Int) (b1:Lib.bitLen (w - 1).toNat≤7) (b2:Lib.bitLen w.toNat≤7) (h1:¬ w<1) (h2:¬ w>64) (l1:∀ k,evF T (k+41) 50 [.int .i64 w] []=some ([.int .i64 (Lib.bitLen (w - 1).toNat:Nat)],[])) (l2:∀ k,evF T (k+41) 50 [.int .i64 (wrap64 (w+1))] []=some ([.int .i64 (Lib.bitLen w.toNat:Nat)],[])) (l3:∀ k,evF T (k+41) 51 [.int .i64 w] []=some ([.int .i64 (Lib.bitLen (w - 1).toNat:Nat)],[])) (l4:∀ k,evF T (k+41) 51 [.int .i64 (wrap64 (w+1))] []=some ([.int .i64 (Lib.bitLen w.toNat:Nat)],[])):SameAt 9 w:=by
 unfold SameAt
 refine ⟨?u0,?u1,?u2,?u3,?u4,?u5,fun k=>?a,fun k=>?b,?c,?d,?e⟩
 case b=>
  rw [f54_eq (k+41)]
  simp only [l3,l4,e28,j54_0_eq,j54_1_eq,j54_2_eq,j54_3_eq,j54_4_eq,j54_5_eq,Option.bind_some,res51_eq,res59_eq,if_true,if_false,reduceIte,Int.reduceEq,Int.reduceLE,ge_iff_le,gt_iff_lt,Int.reduceLT,decide_true,decide_false,Bool.false_eq_true]
  rfl
 case a=>
  rw [f49_eq (k+41)]
  simp only [h1,h2,l1,l2,j49_0_eq,j49_1_eq,j49_2_eq,j49_3_eq,j49_4_eq,j49_5_eq,Option.bind_some,res50_eq,if_true,if_false,reduceIte,Int.reduceEq,Int.reduceLE,ge_iff_le,gt_iff_lt,Int.reduceLT,decide_true,decide_false,Bool.false_eq_true]
 case c=>rfl
 case d=>first | exact dl b1 (by decide) (by decide) | exact dl b2 (by decide) (by decide) | decide
 case e=>decide +kernel
theorem unit10 (w:Int) (b1:Lib.bitLen (w - 1).toNat≤7) (b2:Lib.bitLen w.toNat≤7) (h1:¬ w<1) (h2:¬ w>64) (l1:∀ k,evF T (k+41) 50 [.int .i64 w] []=some ([.int .i64 (Lib.bitLen (w - 1).toNat:Nat)],[])) (l2:∀ k,evF T (k+41) 50 [.int .i64 (wrap64 (w+1))] []=some ([.int .i64 (Lib.bitLen w.toNat:Nat)],[])) (l3:∀ k,evF T (k+41) 51 [.int .i64 w] []=some ([.int .i64 (Lib.bitLen (w - 1).toNat:Nat)],[])) (l4:∀ k,evF T (k+41) 51 [.int .i64 (wrap64 (w+1))] []=some ([.int .i64 (Lib.bitLen w.toNat:Nat)],[])):SameAt 10 w:=by
 unfold SameAt
 refine ⟨?u0,?u1,?u2,?u3,?u4,?u5,fun k=>?a,fun k=>?b,?c,?d,?e⟩
 case b=>
  rw [f54_eq (k+41)]
  simp only [l3,l4,e28,j54_0_eq,j54_1_eq,j54_2_eq,j54_3_eq,j54_4_eq,j54_5_eq,Option.bind_some,res51_eq,res59_eq,if_true,if_false,reduceIte,Int.reduceEq,Int.reduceLE,ge_iff_le,gt_iff_lt,Int.reduceLT,decide_true,decide_false,Bool.false_eq_true]
  rfl
 case a=>
  rw [f49_eq (k+41)]
  simp only [h1,h2,l1,l2,j49_0_eq,j49_1_eq,j49_2_eq,j49_3_eq,j49_4_eq,j49_5_eq,Option.bind_some,res50_eq,if_true,if_false,reduceIte,Int.reduceEq,Int.reduceLE,ge_iff_le,gt_iff_lt,Int.reduceLT,decide_true,decide_false,Bool.false_eq_true]
 case c=>rfl
 case d=>first | exact dl b1 (by decide) (by decide) | exact dl b2 (by decide) (by decide) | decide
 case e=>decide +kernel
theorem unit11 (w:Int) (b1:Lib.bitLen (w - 1).toNat≤7) (b2:Lib.bitLen w.toNat≤7) (h1:¬ w<1) (h2:¬ w>64) (l1:∀ k,evF T (k+41) 50 [.int .i64 w] []=some ([.int .i64 (Lib.bitLen (w - 1).toNat:Nat)],[])) (l2:∀ k,evF T (k+41) 50 [.int .i64 (wrap64 (w+1))] []=some ([.int .i64 (Lib.bitLen w.toNat:Nat)],[])) (l3:∀ k,evF T (k+41) 51 [.int .i64 w] []=some ([.int .i64 (Lib.bitLen (w - 1).toNat:Nat)],[])) (l4:∀ k,evF T (k+41) 51 [.int .i64 (wrap64 (w+1))] []=some ([.int .i64 (Lib.bitLen w.toNat:Nat)],[])):SameAt 11 w:=by
 unfold SameAt
 refine ⟨?u0,?u1,?u2,?u3,?u4,?u5,fun k=>?a,fun k=>?b,?c,?d,?e⟩
 case b=>
  rw [f54_eq (k+41)]
  simp only [l3,l4,e28,j54_0_eq,j54_1_eq,j54_2_eq,j54_3_eq,j54_4_eq,j54_5_eq,Option.bind_some,res51_eq,res59_eq,if_true,if_false,reduceIte,Int.reduceEq,Int.reduceLE,ge_iff_le,gt_iff_lt,Int.reduceLT,decide_true,decide_false,Bool.false_eq_true]
  rfl
 case a=>
  rw [f49_eq (k+41)]
  simp only [h1,h2,l1,l2,j49_0_eq,j49_1_eq,j49_2_eq,j49_3_eq,j49_4_eq,j49_5_eq,Option.bind_some,res50_eq,if_true,if_false,reduceIte,Int.reduceEq,Int.reduceLE,ge_iff_le,gt_iff_lt,Int.reduceLT,decide_true,decide_false,Bool.false_eq_true]
 case c=>rfl
 case d=>first | exact dl b1 (by decide) (by decide) | exact dl b2 (by decide) (by decide) | decide
 case e=>decide +kernel
theorem unit12 (w:Int) (b1:Lib.bitLen (w - 1).toNat≤7) (b2:Lib.bitLen w.toNat≤7) (h1:¬ w<1) (h2:¬ w>64) (l1:∀ k,evF T (k+41) 50 [.int .i64 w] []=some ([.int .i64 (Lib.bitLen (w - 1).toNat:Nat)],[])) (l2:∀ k,evF T (k+41) 50 [.int .i64 (wrap64 (w+1))] []=some ([.int .i64 (Lib.bitLen w.toNat:Nat)],[])) (l3:∀ k,evF T (k+41) 51 [.int .i64 w] []=some ([.int .i64 (Lib.bitLen (w - 1).toNat:Nat)],[])) (l4:∀ k,evF T (k+41) 51 [.int .i64 (wrap64 (w+1))] []=some ([.int .i64 (Lib.bitLen w.toNat:Nat)],[])):SameAt 12 w:=by
 unfold SameAt
 refine ⟨?u0,?u1,?u2,?u3,?u4,?u5,fun k=>?a,fun k=>?b,?c,?d,?e⟩
 case b=>
  rw [f54_eq (k+41)]
  simp only [l3,l4,e28,j54_0_eq,j54_1_eq,j54_2_eq,j54_3_eq,j54_4_eq,j54_5_eq,Option.bind_some,res51_eq,res59_eq,if_true,if_false,reduceIte,Int.reduceEq,Int.reduceLE,ge_iff_le,gt_iff_lt,Int.reduceLT,decide_true,decide_false,Bool.false_eq_true]
  rfl
 case a=>
  rw [f49_eq (k+41)]
  simp only [h1,h2,l1,l2,j49_0_eq,j49_1_eq,j49_2_eq,j49_3_eq,j49_4_eq,j49_5_eq,Option.bind_some,res50_eq,if_true,if_false,reduceIte,Int.reduceEq,Int.reduceLE,ge_iff_le,gt_iff_lt,Int.reduceLT,decide_true,decide_false,Bool.false_eq_true]
 case c=>rfl
 case d=>first | exact dl b1 (by decide) (by decide) | exact dl b2 (by decide) (by decide) | decide
 case e=>decide +kernel
theorem unit13 (w:Int) (b1:Lib.bitLen (w - 1).toNat≤7) (b2:Lib.bitLen w.toNat≤7) (h1:¬ w<1) (h2:¬ w>64) (l1:∀ k,evF T (k+41) 50 [.int .i64 w] []=some ([.int .i64 (Lib.bitLen (w - 1).toNat:Nat)],[])) (l2:∀ k,evF T (k+41) 50 [.int .i64 (wrap64 (w+1))] []=some ([.int .i64 (Lib.bitLen w.toNat:Nat)],[])) (l3:∀ k,evF T (k+41) 51 [.int .i64 w] []=some ([.int .i64 (Lib.bitLen (w - 1).toNat:Nat)],[])) (l4:∀ k,evF T (k+41) 51 [.int .i64 (wrap64 (w+1))] []=some ([.int .i64 (Lib.bitLen w.toNat:Nat)],[])):SameAt 13 w:=by
 unfold SameAt
 refine ⟨?u0,?u1,?u2,?u3,?u4,?u5,fun k=>?a,fun k=>?b,?c,?d,?e⟩
 case b=>
  rw [f54_eq (k+41)]
  simp only [l3,l4,e28,j54_0_eq,j54_1_eq,j54_2_eq,j54_3_eq,j54_4_eq,j54_5_eq,Option.bind_some,res51_eq,res59_eq,if_true,if_false,reduceIte,Int.reduceEq,Int.reduceLE,ge_iff_le,gt_iff_lt,Int.reduceLT,decide_true,decide_false,Bool.false_eq_true]
  rfl
 case a=>
  rw [f49_eq (k+41)]
  simp only [h1,h2,l1,l2,j49_0_eq,j49_1_eq,j49_2_eq,j49_3_eq,j49_4_eq,j49_5_eq,Option.bind_some,res50_eq,if_true,if_false,reduceIte,Int.reduceEq,Int.reduceLE,ge_iff_le,gt_iff_lt,Int.reduceLT,decide_true,decide_false,Bool.false_eq_true]
 case c=>rfl
 case d=>first | exact dl b1 (by decide) (by decide) | exact dl b2 (by decide) (by decide) | decide
 case e=>decide +kernel
theorem unit14 (w:Int) (b1:Lib.bitLen (w - 1).toNat≤7) (b2:Lib.bitLen w.toNat≤7) (h1:¬ w<1) (h2:¬ w>64) (l1:∀ k,evF T (k+41) 50 [.int .i64 w] []=some ([.int .i64 (Lib.bitLen (w - 1).toNat:Nat)],[])) (l2:∀ k,evF T (k+41) 50 [.int .i64 (wrap64 (w+1))] []=some ([.int .i64 (Lib.bitLen w.toNat:Nat)],[])) (l3:∀ k,evF T (k+41) 51 [.int .i64 w] []=some ([.int .i64 (Lib.bitLen (w - 1).toNat:Nat)],[])) (l4:∀ k,evF T (k+41) 51 [.int .i64 (wrap64 (w+1))] []=some ([.int .i64 (Lib.bitLen w.toNat:Nat)],[])):SameAt 14 w:=by
 unfold SameAt
 refine ⟨?u0,?u1,?u2,?u3,?u4,?u5,fun k=>?a,fun k=>?b,?c,?d,?e⟩
 case b=>
  rw [f54_eq (k+41)]
  simp only [l3,l4,e28,j54_0_eq,j54_1_eq,j54_2_eq,j54_3_eq,j54_4_eq,j54_5_eq,Option.bind_some,res51_eq,res59_eq,if_true,if_false,reduceIte,Int.reduceEq,Int.reduceLE,ge_iff_le,gt_iff_lt,Int.reduceLT,decide_true,decide_false,Bool.false_eq_true]
  rfl
 case a=>
  rw [f49_eq (k+41)]
  simp only [h1,h2,l1,l2,j49_0_eq,j49_1_eq,j49_2_eq,j49_3_eq,j49_4_eq,j49_5_eq,Option.bind_some,res50_eq,if_true,if_false,reduceIte,Int.reduceEq,Int.reduceLE,ge_iff_le,gt_iff_lt,Int.reduceLT,decide_true,decide_false,Bool.false_eq_true]
 case c=>rfl
 case d=>first | exact dl b1 (by decide) (by decide) | exact dl b2 (by decide) (by decide) | decide
 case e=>decide +kernel
theorem unit15 (w:Int) (b1:Lib.bitLen (w - 1).toNat≤7) (b2:Lib.bitLen w.toNat≤7) (h1:¬ w<1) (h2:¬ w>64) (l1:∀ k,evF T (k+41) 50 [.int .i64 w] []=some ([.int .i64 (Lib.bitLen (w - 1).toNat:Nat)],[])) (l2:∀ k,evF T (k+41) 50 [.int .i64 (wrap64 (w+1))] []=some ([.int .i64 (Lib.bitLen w.toNat:Nat)],[])) (l3:∀ k,evF T (k+41) 51 [.int .i64 w] []=some ([.int .i64 (Lib.bitLen (w - 1).toNat:Nat)],[])) (l4:∀ k,evF T (k+41) 51 [.int .i64 (wrap64 (w+1))] []=some ([.int .i64 (Lib.bitLen w.toNat:Nat)],[])):SameAt 15 w:=by
 unfold SameAt
 refine ⟨?u0,?u1,?u2,?u3,?u4,?u5,fun k=>?a,fun k=>?b,?c,?d,?e⟩
 case b=>
  rw [f54_eq (k+41)]
  simp only [l3,l4,e28,j54_0_eq,j54_1_eq,j54_2_eq,j54_3_eq,j54_4_eq,j54_5_eq,Option.bind_some,res51_eq,res59_eq,if_true,if_false,reduceIte,Int.reduceEq,Int.reduceLE,ge_iff_le,gt_iff_lt,Int.reduceLT,decide_true,decide_false,Bool.false_eq_true]
  rfl
 case a=>
  rw [f49_eq (k+41)]
  simp only [h1,h2,l1,l2,j49_0_eq,j49_1_eq,j49_2_eq,j49_3_eq,j49_4_eq,j49_5_eq,Option.bind_some,res50_eq,if_true,if_false,reduceIte,Int.reduceEq,Int.reduceLE,ge_iff_le,gt_iff_lt,Int.reduceLT,decide_true,decide_false,Bool.false_eq_true]
 case c=>rfl
 case d=>first | exact dl b1 (by decide) (by decide) | exact dl b2 (by decide) (by decide) | decide
 case e=>decide +kernel
theorem unit16 (w:Int) (b1:Lib.bitLen (w - 1).toNat≤7) (b2:Lib.bitLen w.toNat≤7) (h1:¬ w<1) (h2:¬ w>64) (l1:∀ k,evF T (k+41) 50 [.int .i64 w] []=some ([.int .i64 (Lib.bitLen (w - 1).toNat:Nat)],[])) (l2:∀ k,evF T (k+41) 50 [.int .i64 (wrap64 (w+1))] []=some ([.int .i64 (Lib.bitLen w.toNat:Nat)],[])) (l3:∀ k,evF T (k+41) 51 [.int .i64 w] []=some ([.int .i64 (Lib.bitLen (w - 1).toNat:Nat)],[])) (l4:∀ k,evF T (k+41) 51 [.int .i64 (wrap64 (w+1))] []=some ([.int .i64 (Lib.bitLen w.toNat:Nat)],[])):SameAt 16 w:=by
 unfold SameAt
 refine ⟨?u0,?u1,?u2,?u3,?u4,?u5,fun k=>?a,fun k=>?b,?c,?d,?e⟩
 case b=>
  rw [f54_eq (k+41)]
  simp only [l3,l4,e28,j54_0_eq,j54_1_eq,j54_2_eq,j54_3_eq,j54_4_eq,j54_5_eq,Option.bind_some,res51_eq,res59_eq,if_true,if_false,reduceIte,Int.reduceEq,Int.reduceLE,ge_iff_le,gt_iff_lt,Int.reduceLT,decide_true,decide_false,Bool.false_eq_true]
  rfl
 case a=>
  rw [f49_eq (k+41)]
  simp only [h1,h2,l1,l2,j49_0_eq,j49_1_eq,j49_2_eq,j49_3_eq,j49_4_eq,j49_5_eq,Option.bind_some,res50_eq,if_true,if_false,reduceIte,Int.reduceEq,Int.reduceLE,ge_iff_le,gt_iff_lt,Int.reduceLT,decide_true,decide_false,Bool.false_eq_true]
 case c=>rfl
 case d=>first | exact dl b1 (by decide) (by decide) | exact dl b2 (by decide) (by decide) | decide
 case e=>decide +kernel
theorem unit17 (w:Int) (b1:Lib.bitLen (w - 1).toNat≤7) (b2:Lib.bitLen w.toNat≤7) (h1:¬ w<1) (h2:¬ w>64) (l1:∀ k,evF T (k+41) 50 [.int .i64 w] []=some ([.int .i64 (Lib.bitLen (w - 1).toNat:Nat)],[])) (l2:∀ k,evF T (k+41) 50 [.int .i64 (wrap64 (w+1))] []=some ([.int .i64 (Lib.bitLen w.toNat:Nat)],[])) (l3:∀ k,evF T (k+41) 51 [.int .i64 w] []=some ([.int .i64 (Lib.bitLen (w - 1).toNat:Nat)],[])) (l4:∀ k,evF T (k+41) 51 [.int .i64 (wrap64 (w+1))] []=some ([.int .i64 (Lib.bitLen w.toNat:Nat)],[])):SameAt 17 w:=by
 unfold SameAt
 refine ⟨?u0,?u1,?u2,?u3,?u4,?u5,fun k=>?a,fun k=>?b,?c,?d,?e⟩
 case b=>
  rw [f54_eq (k+41)]
  simp only [l3,l4,e28,j54_0_eq,j54_1_eq,j54_2_eq,j54_3_eq,j54_4_eq,j54_5_eq,Option.bind_some,res51_eq,res59_eq,if_true,if_false,reduceIte,Int.reduceEq,Int.reduceLE,ge_iff_le,gt_iff_lt,Int.reduceLT,decide_true,decide_false,Bool.false_eq_true]
  rfl
 case a=>
  rw [f49_eq (k+41)]
  simp only [h1,h2,l1,l2,j49_0_eq,j49_1_eq,j49_2_eq,j49_3_eq,j49_4_eq,j49_5_eq,Option.bind_some,res50_eq,if_true,if_false,reduceIte,Int.reduceEq,Int.reduceLE,ge_iff_le,gt_iff_lt,Int.reduceLT,decide_true,decide_false,Bool.false_eq_true]
 case c=>rfl
 case d=>first | exact dl b1 (by decide) (by decide) | exact dl b2 (by decide) (by decide) | decide
 case e=>decide +kernel
theorem unit18 (w:Int) (b1:Lib.bitLen (w - 1).toNat≤7) (b2:Lib.bitLen w.toNat≤7) (h1:¬ w<1) (h2:¬ w>64) (l1:∀ k,evF T (k+41) 50 [.int .i64 w] []=some ([.int .i64 (Lib.bitLen (w - 1).toNat:Nat)],[])) (l2:∀ k,evF T (k+41) 50 [.int .i64 (wrap64 (w+1))] []=some ([.int .i64 (Lib.bitLen w.toNat:Nat)],[])) (l3:∀ k,evF T (k+41) 51 [.int .i64 w] []=some ([.int .i64 (Lib.bitLen (w - 1).toNat:Nat)],[])) (l4:∀ k,evF T (k+41) 51 [.int .i64 (wrap64 (w+1))] []=some ([.int .i64 (Lib.bitLen w.toNat:Nat)],[])):SameAt 18 w:=by
 unfold SameAt
 refine ⟨?u0,?u1,?u2,?u3,?u4,?u5,fun k=>?a,fun k=>?b,?c,?d,?e⟩
 case b=>
  rw [f54_eq (k+41)]
  simp only [l3,l4,e28,j54_0_eq,j54_1_eq,j54_2_eq,j54_3_eq,j54_4_eq,j54_5_eq,Option.bind_some,res51_eq,res59_eq,if_true,if_false,reduceIte,Int.reduceEq,Int.reduceLE,ge_iff_le,gt_iff_lt,Int.reduceLT,decide_true,decide_false,Bool.false_eq_true]
  rfl
 case a=>
  rw [f49_eq (k+41)]
  simp only [h1,h2,l1,l2,j49_0_eq,j49_1_eq,j49_2_eq,j49_3_eq,j49_4_eq,j49_5_eq,Option.bind_some,res50_eq,if_true,if_false,reduceIte,Int.reduceEq,Int.reduceLE,ge_iff_le,gt_iff_lt,Int.reduceLT,decide_true,decide_false,Bool.false_eq_true]
 case c=>rfl
 case d=>first | exact dl b1 (by decide) (by decide) | exact dl b2 (by decide) (by decide) | decide
 case e=>decide +kernel
theorem unit19 (w:Int) (b1:Lib.bitLen (w - 1).toNat≤7) (b2:Lib.bitLen w.toNat≤7) (h1:¬ w<1) (h2:¬ w>64) (l1:∀ k,evF T (k+41) 50 [.int .i64 w] []=some ([.int .i64 (Lib.bitLen (w - 1).toNat:Nat)],[])) (l2:∀ k,evF T (k+41) 50 [.int .i64 (wrap64 (w+1))] []=some ([.int .i64 (Lib.bitLen w.toNat:Nat)],[])) (l3:∀ k,evF T (k+41) 51 [.int .i64 w] []=some ([.int .i64 (Lib.bitLen (w - 1).toNat:Nat)],[])) (l4:∀ k,evF T (k+41) 51 [.int .i64 (wrap64 (w+1))] []=some ([.int .i64 (Lib.bitLen w.toNat:Nat)],[])):SameAt 19 w:=by
 unfold SameAt
 refine ⟨?u0,?u1,?u2,?u3,?u4,?u5,fun k=>?a,fun k=>?b,?c,?d,?e⟩
 case b=>
  rw [f54_eq (k+41)]
  simp only [l3,l4,e28,j54_0_eq,j54_1_eq,j54_2_eq,j54_3_eq,j54_4_eq,j54_5_eq,Option.bind_some,res51_eq,res59_eq,if_true,if_false,reduceIte,Int.reduceEq,Int.reduceLE,ge_iff_le,gt_iff_lt,Int.reduceLT,decide_true,decide_false,Bool.false_eq_true]
  rfl
 case a=>
  rw [f49_eq (k+41)]
  simp only [h1,h2,l1,l2,j49_0_eq,j49_1_eq,j49_2_eq,j49_3_eq,j49_4_eq,j49_5_eq,Option.bind_some,res50_eq,if_true,if_false,reduceIte,Int.reduceEq,Int.reduceLE,ge_iff_le,gt_iff_lt,Int.reduceLT,decide_true,decide_false,Bool.false_eq_true]
 case c=>rfl
 case d=>first | exact dl b1 (by decide) (by decide) | exact dl b2 (by decide) (by decide) | decide
 case e=>decide +kernel
theorem unit20 (w:Int) (b1:Lib.bitLen (w - 1).toNat≤7) (b2:Lib.bitLen w.toNat≤7) (h1:¬ w<1) (h2:¬ w>64) (l1:∀ k,evF T (k+41) 50 [.int .i64 w] []=some ([.int .i64 (Lib.bitLen (w - 1).toNat:Nat)],[])) (l2:∀ k,evF T (k+41) 50 [.int .i64 (wrap64 (w+1))] []=some ([.int .i64 (Lib.bitLen w.toNat:Nat)],[])) (l3:∀ k,evF T (k+41) 51 [.int .i64 w] []=some ([.int .i64 (Lib.bitLen (w - 1).toNat:Nat)],[])) (l4:∀ k,evF T (k+41) 51 [.int .i64 (wrap64 (w+1))] []=some ([.int .i64 (Lib.bitLen w.toNat:Nat)],[])):SameAt 20 w:=by
 unfold SameAt
 refine ⟨?u0,?u1,?u2,?u3,?u4,?u5,fun k=>?a,fun k=>?b,?c,?d,?e⟩
 case b=>
  rw [f54_eq (k+41)]
  simp only [l3,l4,e28,j54_0_eq,j54_1_eq,j54_2_eq,j54_3_eq,j54_4_eq,j54_5_eq,Option.bind_some,res51_eq,res59_eq,if_true,if_false,reduceIte,Int.reduceEq,Int.reduceLE,ge_iff_le,gt_iff_lt,Int.reduceLT,decide_true,decide_false,Bool.false_eq_true]
  rfl
 case a=>
  rw [f49_eq (k+41)]
  simp only [h1,h2,l1,l2,j49_0_eq,j49_1_eq,j49_2_eq,j49_3_eq,j49_4_eq,j49_5_eq,Option.bind_some,res50_eq,if_true,if_false,reduceIte,Int.reduceEq,Int.reduceLE,ge_iff_le,gt_iff_lt,Int.reduceLT,decide_true,decide_false,Bool.false_eq_true]
 case c=>rfl
 case d=>first | exact dl b1 (by decide) (by decide) | exact dl b2 (by decide) (by decide) | decide
 case e=>decide +kernel
theorem unit21 (w:Int) (b1:Lib.bitLen (w - 1).toNat≤7) (b2:Lib.bitLen w.toNat≤7) (h1:¬ w<1) (h2:¬ w>64) (l1:∀ k,evF T (k+41) 50 [.int .i64 w] []=some ([.int .i64 (Lib.bitLen (w - 1).toNat:Nat)],[])) (l2:∀ k,evF T (k+41) 50 [.int .i64 (wrap64 (w+1))] []=some ([.int .i64 (Lib.bitLen w.toNat:Nat)],[])) (l3:∀ k,evF T (k+41) 51 [.int .i64 w] []=some ([.int .i64 (Lib.bitLen (w - 1).toNat:Nat)],[])) (l4:∀ k,evF T (k+41) 51 [.int .i64 (wrap64 (w+1))] []=some ([.int .i64 (Lib.bitLen w.toNat:Nat)],[])):SameAt 21 w:=by
 unfold SameAt
 refine ⟨?u0,?u1,?u2,?u3,?u4,?u5,fun k=>?a,fun k=>?b,?c,?d,?e⟩
 case b=>
  rw [f54_eq (k+41)]
  simp only [l3,l4,e28,j54_0_eq,j54_1_eq,j54_2_eq,j54_3_eq,j54_4_eq,j54_5_eq,Option.bind_some,res51_eq,res59_eq,if_true,if_false,reduceIte,Int.reduceEq,Int.reduceLE,ge_iff_le,gt_iff_lt,Int.reduceLT,decide_true,decide_false,Bool.false_eq_true]
  rfl
 case a=>
  rw [f49_eq (k+41)]
  simp only [h1,h2,l1,l2,j49_0_eq,j49_1_eq,j49_2_eq,j49_3_eq,j49_4_eq,j49_5_eq,Option.bind_some,res50_eq,if_true,if_false,reduceIte,Int.reduceEq,Int.reduceLE,ge_iff_le,gt_iff_lt,Int.reduceLT,decide_true,decide_false,Bool.false_eq_true]
 case c=>rfl
 case d=>first | exact dl b1 (by decide) (by decide) | exact dl b2 (by decide) (by decide) | decide
 case e=>decide +kernel
theorem unit22 (w:Int) (b1:Lib.bitLen (w - 1).toNat≤7) (b2:Lib.bitLen w.toNat≤7) (h1:¬ w<1) (h2:¬ w>64) (l1:∀ k,evF T (k+41) 50 [.int .i64 w] []=some ([.int .i64 (Lib.bitLen (w - 1).toNat:Nat)],[])) (l2:∀ k,evF T (k+41) 50 [.int .i64 (wrap64 (w+1))] []=some ([.int .i64 (Lib.bitLen w.toNat:Nat)],[])) (l3:∀ k,evF T (k+41) 51 [.int .i64 w] []=some ([.int .i64 (Lib.bitLen (w - 1).toNat:Nat)],[])) (l4:∀ k,evF T (k+41) 51 [.int .i64 (wrap64 (w+1))] []=some ([.int .i64 (Lib.bitLen w.toNat:Nat)],[])):SameAt 22 w:=by
 unfold SameAt
 refine ⟨?u0,?u1,?u2,?u3,?u4,?u5,fun k=>?a,fun k=>?b,?c,?d,?e⟩
 case b=>
  rw [f54_eq (k+41)]
  simp only [l3,l4,e28,j54_0_eq,j54_1_eq,j54_2_eq,j54_3_eq,j54_4_eq,j54_5_eq,Option.bind_some,res51_eq,res59_eq,if_true,if_false,reduceIte,Int.reduceEq,Int.reduceLE,ge_iff_le,gt_iff_lt,Int.reduceLT,decide_true,decide_false,Bool.false_eq_true]
  rfl
 case a=>
  rw [f49_eq (k+41)]
  simp only [h1,h2,l1,l2,j49_0_eq,j49_1_eq,j49_2_eq,j49_3_eq,j49_4_eq,j49_5_eq,Option.bind_some,res50_eq,if_true,if_false,reduceIte,Int.reduceEq,Int.reduceLE,ge_iff_le,gt_iff_lt,Int.reduceLT,decide_true,decide_false,Bool.false_eq_true]
 case c=>rfl
 case d=>first | exact dl b1 (by decide) (by decide) | exact dl b2 (by decide) (by decide) | decide
 case e=>decide +kernel
theorem unit23 (w:Int) (b1:Lib.bitLen (w - 1).toNat≤7) (b2:Lib.bitLen w.toNat≤7) (h1:¬ w<1) (h2:¬ w>64) (l1:∀ k,evF T (k+41) 50 [.int .i64 w] []=some ([.int .i64 (Lib.bitLen (w - 1).toNat:Nat)],[])) (l2:∀ k,evF T (k+41) 50 [.int .i64 (wrap64 (w+1))] []=some ([.int .i64 (Lib.bitLen w.toNat:Nat)],[])) (l3:∀ k,evF T (k+41) 51 [.int .i64 w] []=some ([.int .i64 (Lib.bitLen (w - 1).toNat:Nat)],[])) (l4:∀ k,evF T (k+41) 51 [.int .i64 (wrap64 (w+1))] []=some ([.int .i64 (Lib.bitLen w.toNat:Nat)],[])):SameAt 23 w:=by
 unfold SameAt
 refine ⟨?u0,?u1,?u2,?u3,?u4,?u5,fun k=>?a,fun k=>?b,?c,?d,?e⟩
 case b=>
  rw [f54_eq (k+41)]
  simp only [l3,l4,e28,j54_0_eq,j54_1_eq,j54_2_eq,j54_3_eq,j54_4_eq,j54_5_eq,Option.bind_some,res51_eq,res59_eq,if_true,if_false,reduceIte,Int.reduceEq,Int.reduceLE,ge_iff_le,gt_iff_lt,Int.reduceLT,decide_true,decide_false,Bool.false_eq_true]
  rfl
 case a=>
  rw [f49_eq (k+41)]
  simp only [h1,h2,l1,l2,j49_0_eq,j49_1_eq,j49_2_eq,j49_3_eq,j49_4_eq,j49_5_eq,Option.bind_some,res50_eq,if_true,if_false,reduceIte,Int.reduceEq,Int.reduceLE,ge_iff_le,gt_iff_lt,Int.reduceLT,decide_true,decide_false,Bool.false_eq_true]
 case c=>rfl
 case d=>first | exact dl b1 (by decide) (by decide) | exact dl b2 (by decide) (by decide) | decide
 case e=>decide +kernel
theorem unit24 (w:Int) (b1:Lib.bitLen (w - 1).toNat≤7) (b2:Lib.bitLen w.toNat≤7) (h1:¬ w<1) (h2:¬ w>64) (l1:∀ k,evF T (k+41) 50 [.int .i64 w] []=some ([.int .i64 (Lib.bitLen (w - 1).toNat:Nat)],[])) (l2:∀ k,evF T (k+41) 50 [.int .i64 (wrap64 (w+1))] []=some ([.int .i64 (Lib.bitLen w.toNat:Nat)],[])) (l3:∀ k,evF T (k+41) 51 [.int .i64 w] []=some ([.int .i64 (Lib.bitLen (w - 1).toNat:Nat)],[])) (l4:∀ k,evF T (k+41) 51 [.int .i64 (wrap64 (w+1))] []=some ([.int .i64 (Lib.bitLen w.toNat:Nat)],[])):SameAt 24 w:=by
 unfold SameAt
 refine ⟨?u0,?u1,?u2,?u3,?u4,?u5,fun k=>?a,fun k=>?b,?c,?d,?e⟩
 case b=>
  rw [f54_eq (k+41)]
  simp only [l3,l4,e28,j54_0_eq,j54_1_eq,j54_2_eq,j54_3_eq,j54_4_eq,j54_5_eq,Option.bind_some,res51_eq,res59_eq,if_true,if_false,reduceIte,Int.reduceEq,Int.reduceLE,ge_iff_le,gt_iff_lt,Int.reduceLT,decide_true,decide_false,Bool.false_eq_true]
  rfl
 case a=>
  rw [f49_eq (k+41)]
  simp only [h1,h2,l1,l2,j49_0_eq,j49_1_eq,j49_2_eq,j49_3_eq,j49_4_eq,j49_5_eq,Option.bind_some,res50_eq,if_true,if_false,reduceIte,Int.reduceEq,Int.reduceLE,ge_iff_le,gt_iff_lt,Int.reduceLT,decide_true,decide_false,Bool.false_eq_true]
 case c=>rfl
 case d=>first | exact dl b1 (by decide) (by decide) | exact dl b2 (by decide) (by decide) | decide
 case e=>decide +kernel
theorem unitAt {op:Int} (F:∀ (w:Int) (b1:Lib.bitLen (w - 1).toNat≤7) (b2:Lib.bitLen w.toNat≤7) (h1:¬ w<1) (h2:¬ w>64) (l1:∀ k,evF T (k+41) 50 [.int .i64 w] []=some ([.int .i64 (Lib.bitLen (w - 1).toNat:Nat)],[])) (l2:∀ k,evF T (k+41) 50 [.int .i64 (wrap64 (w+1))] []=some ([.int .i64 (Lib.bitLen w.toNat:Nat)],[])) (l3:∀ k,evF T (k+41) 51 [.int .i64 w] []=some ([.int .i64 (Lib.bitLen (w - 1).toNat:Nat)],[])) (l4:∀ k,evF T (k+41) 51 [.int .i64 (wrap64 (w+1))] []=some ([.int .i64 (Lib.bitLen w.toNat:Nat)],[])),SameAt op w) (w:Int) (h0:1≤w) (h1:w≤64):SameAt op w:=by
 have e:wrap64 (w+1)=w+1:=w64 (by omega) (by omega)
 have e':(w+1 - 1)=w:=by omega
 refine F w (Lib.bitLen_le _ 7 (by omega) (by omega)) (Lib.bitLen_le _ 7 (by omega) (by omega)) (by omega) (by omega) (fun k=>lev15 (k+39) w h0 (by omega)) (fun k=>?_) (fun k=>lev17 k w h0 (by omega)) (fun k=>?_)
 ·have:=lev15 (k+39) (w+1) (by omega) (by omega)
  rw [e'] at this;rw [e];exact this
 ·have:=lev17 k (w+1) (by omega) (by omega)
  rw [e'] at this;rw [e];exact this
end Go.Proofs.Ytabcdpddhmekkaa.vm
