-- Written for this claim by programs of this session (wip in its repo). Lean checks it.
import Derived.Test.YtabcdpddhmekkaaP1
set_option linter.all false
namespace Go.Proofs.Ytabcdpddhmekkaa.vm
open Go Go.RowKit Go.Vm
structure FV where
 nm:List UInt8
 ws:List Int
 ar:List S78
 st:List S80
 rt:List Int
 bl:List S53
@[reducible] def FV.v (F:FV):PV N:=.agg [.str F.nm,.vsl none (.int .i64) F.ws,.vsl none (.named 78) F.ar,.vsl none (.named 80) F.st,.vsl none (.int .i64) F.rt,.vsl none (.named 53) F.bl]
@[reducible] def iv (x:S72):PV N:=.agg [.int .i64 x.f0,.int .i64 x.f1,.vsl none (.int .i64) x.f2,.int .u64 x.f3,.int .i64 x.f4]
structure FOk (F:FV):Prop where
 ws:∀ w∈F.ws,1≤w∧w≤64
 ar:∀ x∈F.ar,1≤x.f1∧x.f1≤64
 st:∀ x∈F.st,1≤x.f1∧x.f1≤64
structure InOk (F:FV) (x:S72):Prop where
 op:1≤x.f0∧x.f0≤28
 two:15≤x.f0∧x.f0≤20→0<(x.f2.length:Int)∧0≤x.f2.getD 0 0∧x.f2.getD 0 0<(F.ws.length:Int)
 dst:x.f0≠26→x.f0≠28→0≤x.f1∧x.f1<(F.ws.length:Int)
 mar:x.f0=26→0≤x.f4∧x.f4<(F.ar.length:Int)
 mst:x.f0=28→0≤x.f4∧x.f4<(F.st.length:Int)
def cmpB (op:Int):Bool:=decide (15≤op∧op≤20)
def FV.wd (F:FV) (x:S72):Int:=
 if x.f0=26 then (F.ar.getD x.f4.toNat z78).f1 else if x.f0=28 then (F.st.getD x.f4.toNat z80).f1 else if 15≤x.f0∧x.f0≤20 then F.ws.getD (x.f2.getD 0 0).toNat 0 else F.ws.getD x.f1.toNat 0
theorem getD_mem {α : Type} {l:List α} {i:Int} {z : α} (h0:0≤i) (h1:i<(l.length:Int)):l.getD i.toNat z∈l:=by
 rw [List.getD_eq_getElem?_getD,List.getElem?_eq_getElem (show i.toNat<l.length by omega)]
 exact List.getElem_mem _
theorem wd_ok {F:FV} {x:S72} (hF:FOk F) (hx:InOk F x):1≤F.wd x∧F.wd x≤64:=by
 unfold FV.wd
 split
 ·rename_i h;have:=hx.mar h;exact hF.ar _ (getD_mem this.1 this.2)
 ·split
  ·rename_i h;have:=hx.mst h;exact hF.st _ (getD_mem this.1 this.2)
  ·split
   ·rename_i h;have:=hx.two h;exact hF.ws _ (getD_mem this.2.1 this.2.2)
   ·rename_i h1 h2 h3;have:=hx.dst h1 h2;exact hF.ws _ (getD_mem this.1 this.2)
theorem w57_0 {F:FV} {x:S72} (hx:InOk F x) (k:Nat) (b:Bool) (hb:b=cmpB x.f0):j57_0 k x.f0 b F.nm F.ws F.ar F.st F.rt F.bl x.f0 x.f1 x.f2 x.f3 x.f4=some ([.int .i64 (F.wd x)],[]):=by
 rw [j57_0_eq,hb]
 unfold FV.wd cmpB
 by_cases c:15≤x.f0∧x.f0≤20
 ·have h:=hx.two c
  rw [if_pos (decide_eq_true c),if_pos (Int.le_refl _),if_pos h.1,show (0:Int).toNat=0 from rfl,if_pos h.2.1,if_pos h.2.2,if_neg (by omega),if_neg (by omega),if_pos c]
 ·rw [if_neg (by simp [c])]
  by_cases c1:x.f0=26
  ·have h:=hx.mar c1
   rw [if_pos c1,if_pos h.1,if_pos h.2,if_pos c1]
  ·rw [if_neg c1,if_neg c1]
   by_cases c2:x.f0=28
   ·have h:=hx.mst c2
    rw [if_pos c2,if_pos h.1,if_pos h.2,if_pos c2]
   ·have h:=hx.dst c1 c2
    rw [if_neg c2,if_neg c2,if_neg c,j57_1_eq,if_pos h.1,if_pos h.2]
theorem w57 {F:FV} {x:S72} (hx:InOk F x) (k:Nat):evF T (k+1) 57 [F.v,iv x] []=some ([.int .i64 (F.wd x)],[]):=by
 refine (f57_eq k _ _ _ _ _ _ _ _ _ _ _).trans ?_
 have e:∀ n:Int,15≤n→n≤20→x.f0=n→decide (x.f0=n)=cmpB x.f0:=fun n h0 h1 h=>by
  unfold cmpB;rw [decide_eq_true h,decide_eq_true (by omega)]
 by_cases c:x.f0=15
 ·rw [if_pos c];exact w57_0 hx k _ (e 15 (by omega) (by omega) c)
 rw [if_neg c]
 by_cases c:x.f0=16
 ·rw [if_pos c];exact w57_0 hx k _ (e 16 (by omega) (by omega) c)
 rw [if_neg c]
 by_cases c:x.f0=17
 ·rw [if_pos c];exact w57_0 hx k _ (e 17 (by omega) (by omega) c)
 rw [if_neg c]
 by_cases c:x.f0=18
 ·rw [if_pos c];exact w57_0 hx k _ (e 18 (by omega) (by omega) c)
 rw [if_neg c]
 by_cases c:x.f0=19
 ·rw [if_pos c];exact w57_0 hx k _ (e 19 (by omega) (by omega) c)
 rw [if_neg c]
 refine w57_0 hx k _ ?_
 unfold cmpB
 by_cases c:x.f0=20
 ·rw [decide_eq_true c,decide_eq_true (by omega)]
 ·rw [decide_eq_false c,decide_eq_false (by omega)]
theorem f42' (k:Nat) (a:Int):evF T (k+1) 42 [.int .i64 a] []=some ([.bool (cmpB a)],[]):=by
 rw [f42_eq];unfold cmpB
 by_cases c:a≥15
 ·rw [if_pos c]
  by_cases c2:a≤20
  ·rw [decide_eq_true c2,decide_eq_true (by omega)]
  ·rw [decide_eq_false c2,decide_eq_false (by omega)]
 ·rw [if_neg c,decide_eq_false (by omega)]
theorem w53 {F:FV} {x:S72} (hx:InOk F x) (k:Nat):evF T (k+2) 53 [F.v,iv x] []=some ([.int .i64 (F.wd x)],[]):=by
 refine (f53_eq (k+1) _ _ _ _ _ _ _ _ _ _ _).trans ?_
 unfold FV.wd
 by_cases c1:x.f0=26
 ·have h:=hx.mar c1
  rw [if_pos c1,if_pos h.1,if_pos h.2,if_pos c1]
 ·rw [if_neg c1,if_neg c1]
  by_cases c2:x.f0=28
  ·have h:=hx.mst c2
   rw [if_pos c2,if_pos h.1,if_pos h.2,if_pos c2]
  ·rw [if_neg c2,if_neg c2,f42',Option.bind_some,res42_eq]
   unfold cmpB
   by_cases c:15≤x.f0∧x.f0≤20
   ·have h:=hx.two c
    rw [if_pos (decide_eq_true c),if_pos (Int.le_refl _),if_pos h.1,show (0:Int).toNat=0 from rfl,if_pos h.2.1,if_pos h.2.2,if_pos c]
   ·have h:=hx.dst c1 c2
    rw [if_neg (by simp [c]),if_pos h.1,if_pos h.2,if_neg c]
def hasB (op:Int):Bool:=decide (2≤op∧op≤24)
theorem f52' (k:Nat) (a:Int):evF T (k+2) 52 [.int .i64 a] []=some ([.bool (hasB a)],[]):=by
 rw [f52_eq,f44_eq];unfold hasB
 by_cases c:a≥2
 ·rw [if_pos c,Option.bind_some,res44_eq]
  by_cases c2:a≤20
  ·rw [decide_eq_true c2,if_pos rfl,decide_eq_true (by omega)]
  ·rw [decide_eq_false c2,if_neg (by simp)]
   by_cases c3:a≥21
   ·rw [if_pos c3]
    by_cases c4:a≤24
    ·rw [decide_eq_true c4,decide_eq_true (by omega)]
    ·rw [decide_eq_false c4,decide_eq_false (by omega)]
   ·omega
 ·rw [if_neg c,Option.bind_some,res44_eq,if_neg (by simp),if_neg (by omega),decide_eq_false (by omega)]
def combB (op:Int):Bool:=decide ((2≤op∧op≤24)∧(op<4∨8<op))
theorem sameAll (op w:Int) (p:2≤op∧op≤24) (h0:1≤w) (h1:w≤64):SameAt op w:=by
 have h:op=2∨op=3∨op=4∨op=5∨op=6∨op=7∨op=8∨op=9∨op=10∨op=11∨op=12∨op=13∨op=14∨op=15∨op=16∨op=17∨op=18∨op=19∨op=20∨op=21∨op=22∨op=23∨op=24:=by omega
 rcases h with rfl | rfl | rfl | rfl | rfl | rfl | rfl | rfl | rfl | rfl | rfl | rfl | rfl | rfl | rfl | rfl | rfl | rfl | rfl | rfl | rfl | rfl | rfl
 ·exact unitAt unit2 w h0 h1
 ·exact unitAt unit3 w h0 h1
 ·exact unitAt unit4 w h0 h1
 ·exact unitAt unit5 w h0 h1
 ·exact unitAt unit6 w h0 h1
 ·exact unitAt unit7 w h0 h1
 ·exact unitAt unit8 w h0 h1
 ·exact unitAt unit9 w h0 h1
 ·exact unitAt unit10 w h0 h1
 ·exact unitAt unit11 w h0 h1
 ·exact unitAt unit12 w h0 h1
 ·exact unitAt unit13 w h0 h1
 ·exact unitAt unit14 w h0 h1
 ·exact unitAt unit15 w h0 h1
 ·exact unitAt unit16 w h0 h1
 ·exact unitAt unit17 w h0 h1
 ·exact unitAt unit18 w h0 h1
 ·exact unitAt unit19 w h0 h1
 ·exact unitAt unit20 w h0 h1
 ·exact unitAt unit21 w h0 h1
 ·exact unitAt unit22 w h0 h1
 ·exact unitAt unit23 w h0 h1
 ·exact unitAt unit24 w h0 h1
theorem of_out (k:Nat) (op w:Int) (h:¬ (2≤op∧op≤24)):evF T (k+1) 49 [.int .i64 op,.int .i64 w] []=some ([.agg [.int .i64 0,.int .i64 0,.int .i64 0,.int .i64 0,.int .i64 0,.int .i64 0],.int .i64 1],[]):=by
 rw [f49_eq]
 by_cases c:op≤1
 ·rw [if_pos c]
 ·rw [if_neg c,if_pos (by omega)]
structure Un (F:FV) (x:S72) (u0 u1 d u3 u4 u5 e:Int):Prop where
 own:∀ k,evF T (k+43) 48 [F.v,iv x] []=some ([.agg [.int .i64 u0,.int .i64 u1,.int .i64 d,.int .i64 u3,.int .i64 u4,.int .i64 u5]],[])
 ref:∀ k,evF T (k+43) 38 [F.v,iv x] []=some ([.agg [.int .i64 u0,.int .i64 u1,.int .i64 d,.int .i64 u3,.int .i64 u4,.int .i64 u5]],[])
 of:∃ v0 v1 v2 v3 v4 v5,∀ k,evF T (k+43) 49 [.int .i64 x.f0,.int .i64 u1] []=some ([.agg [.int .i64 v0,.int .i64 v1,.int .i64 v2,.int .i64 v3,.int .i64 v4,.int .i64 v5],.int .i64 e],[])
 comb:combB x.f0=true↔e=0∧u0=0
 d:0≤d∧d≤500
theorem un_ok {F:FV} {x:S72} (hF:FOk F) (hx:InOk F x):∃ u0 u1 d u3 u4 u5 e,Un F x u0 u1 d u3 u4 u5 e:=by
 obtain ⟨w0,w1⟩:=wd_ok hF hx
 have e57:=fun k=>w57 hx (k+41)
 have e53:=fun k=>w53 hx (k+40)
 by_cases c:2≤x.f0∧x.f0≤24
 ·obtain ⟨u0,u1,u2,u3,u4,u5,e11,e14,rfl,hd,hc⟩:=sameAll x.f0 (F.wd x) c w0 w1
  refine ⟨u0,F.wd x,u2,u3,u4,u5,0,fun k=>?_,fun k=>?_,⟨_,_,_,_,_,_,fun k=>e11 (k+1)⟩,?_,hd⟩
  ·refine (f48_eq (k+42) _ _ _ _ _ _ _ _ _ _ _).trans ?_
   rw [e57,Option.bind_some,res57_eq,e11,Option.bind_some,res49_eq,if_pos rfl]
  ·refine (f38_eq (k+42) _ _ _ _ _ _ _ _ _ _ _).trans ?_
   rw [e53,Option.bind_some,res53_eq,f52' (k+40),Option.bind_some,res52_eq,if_pos (show hasB x.f0=true from decide_eq_true c),e14,Option.bind_some,res54_eq]
  ·unfold combB;rw [decide_eq_true_eq,hc];exact ⟨fun h=>⟨rfl,h.2⟩,fun h=>⟨c,h.2⟩⟩
 ·have hn:¬ combB x.f0=true:=by unfold combB;rw [decide_eq_true_eq];exact fun h=>c h.1
  by_cases c2:x.f0=25∨x.f0=27
  ·refine ⟨0,F.wd x,0,1,1,0,1,fun k=>?_,fun k=>?_,⟨_,_,_,_,_,_,fun k=>of_out (k+42) _ _ c⟩,⟨fun h=>absurd h hn,fun h=>absurd h.1 (by decide)⟩,by decide⟩
   ·refine (f48_eq (k+42) _ _ _ _ _ _ _ _ _ _ _).trans ?_
    rw [e57,Option.bind_some,res57_eq,of_out (k+41) _ _ c,Option.bind_some,res49_eq,if_neg (by decide)]
    rcases c2 with c2 | c2
    ·rw [if_pos c2]
    ·rw [if_neg (by omega),if_pos c2]
   ·refine (f38_eq (k+42) _ _ _ _ _ _ _ _ _ _ _).trans ?_
    rw [e53,Option.bind_some,res53_eq,f52' (k+40),Option.bind_some,res52_eq,if_neg (by unfold hasB;simp [c])]
    rcases c2 with c2 | c2
    ·rw [if_pos c2]
    ·rw [if_neg (by omega),if_pos c2]
  ·refine ⟨0,F.wd x,0,0,0,0,1,fun k=>?_,fun k=>?_,⟨_,_,_,_,_,_,fun k=>of_out (k+42) _ _ c⟩,⟨fun h=>absurd h hn,fun h=>absurd h.1 (by decide)⟩,by decide⟩
   ·refine (f48_eq (k+42) _ _ _ _ _ _ _ _ _ _ _).trans ?_
    rw [e57,Option.bind_some,res57_eq,of_out (k+41) _ _ c,Option.bind_some,res49_eq,if_neg (by decide),if_neg (by omega),if_neg (by omega)]
   ·refine (f38_eq (k+42) _ _ _ _ _ _ _ _ _ _ _).trans ?_
    rw [e53,Option.bind_some,res53_eq,f52' (k+40),Option.bind_some,res52_eq,if_neg (by unfold hasB;simp [c]),if_neg (by omega),if_neg (by omega)]
def UnD (F:FV) (x:S72) (d:Int):Prop:=∃ u0 u1 u3 u4 u5 e,Un F x u0 u1 d u3 u4 u5 e
noncomputable def dZ (F:FV) (x:S72):Int:=Classical.epsilon (UnD F x)
theorem dZ_ok {F:FV} {x:S72} (hF:FOk F) (hx:InOk F x):UnD F x (dZ F x):=by
 obtain ⟨u0,u1,d,u3,u4,u5,e,h⟩:=un_ok hF hx
 exact Classical.epsilon_spec (p:=UnD F x) ⟨d,u0,u1,u3,u4,u5,e,h⟩
end Go.Proofs.Ytabcdpddhmekkaa.vm
