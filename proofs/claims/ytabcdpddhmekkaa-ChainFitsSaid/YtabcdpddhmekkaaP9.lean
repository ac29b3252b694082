-- Written for this claim by programs of this session (wip in its repo). Lean checks it.
import Derived.Test.YtabcdpddhmekkaaP8
set_option linter.all false
namespace Go.Proofs.Ytabcdpddhmekkaa.vm
open Go Go.RowKit Go.Vm
structure FnOk (F:FV):Prop where
 n1:1≤F.bl.length∧F.bl.length≤5
 sz:1≤szL F.bl∧szL F.bl≤5200
 bk:∀ b,b<F.bl.length→BkOk F ((F.bl.getD b z53).f1)
theorem c33 {F:FV} (h:FnOk F) (k:Nat) (hk:10≤k):evF T (k+1) 33 [F.v] []=some ([.int .i64 (szL F.bl)],[]):=by
 refine (f33_eq k _ _ _ _ _ _).trans ?_
 have hn:=h.n1
 have hs:=h.sz
 refine (l33 k F.bl k 0 0 (by omega) (by omega) (by omega) (by rw [List.drop_zero];omega) (by omega)).trans ?_
 rw [List.drop_zero,Int.zero_add]
theorem c36 {F:FV} (h:FnOk F) (k:Nat) (hk:10≤k):evF T (k+1) 36 [F.v] []=some ([.int .i64 (szL F.bl)],[]):=by
 refine (f36_eq k _ _ _ _ _ _).trans ?_
 have hn:=h.n1
 have hs:=h.sz
 refine (l36 k F k 0 0 (by omega) (by omega) (by omega) (by rw [List.drop_zero];omega) (by omega)).trans ?_
 rw [List.drop_zero,Int.zero_add]
theorem c17 {F:FV} (h:FnOk F) (k:Nat):evF T (k+43) 17 [F.v] []=some ([.agg [.int .i64 30,.int .i64 (endZ (szL F.bl)),.int .i64 (frzZ (szL F.bl))]],[]):=by
 refine (f17_eq (k+42) _ _ _ _ _ _).trans ?_
 have e1:=c36 h (k+41) (by omega)
 have e2:=c35 k h.sz.1 h.sz.2
 rw [e1,Option.bind_some,res36_eq,e2,Option.bind_some,res35_eq]
theorem c29 {F:FV} (h:FnOk F) {b:Nat} (hb:b<F.bl.length) (k:Nat) (hk:1000≤k) :
  evF T (k+44) 29 [F.v,.int .i64 (b:Int)] []=some ([.agg [.int .i64 30,.int .i64 (endZ (szL F.bl)),.int .i64 (frzZ (szL F.bl)),.vsl none .bool (cbF ((F.bl.getD b z53).f1) ((F.bl.getD b z53).f1).length),.vsl none (.int .i64) (dF F ((F.bl.getD b z53).f1) ((F.bl.getD b z53).f1).length),.vsl none (.list (.int .i64)) (fromF ((F.bl.getD b z53).f1) ((F.bl.getD b z53).f1).length)]],[]):=by
 refine (f29_eq (k+43) _ _ _ _ _ _ _).trans ?_
 have e1:=c33 h (k+42) (by omega)
 have e2:=c32 (k+40) h.sz.1 h.sz.2
 have hl:=(h.bk b hb).len
 rw [if_pos (by omega),if_pos (by omega),e1,Option.bind_some,res33_eq,e2,Option.bind_some,res32_eq,Int.toNat_natCast]
 exact l29_out k F _ (h.bk b hb) 0 0 0 [] [] [] 30 (endZ (szL F.bl)) (frzZ (szL F.bl)) (k+43) 0 (by omega) (by omega)
theorem c28 (k:Nat) (F:FV) (b:Int) (s:List Int):evF T (k+1) 28 [F.v,.int .i64 b,.vsl none (.int .i64) s] []=some ([.bool (decide (0≤b∧b<(F.bl.length:Int)∧s.length=((F.bl.getD b.toNat z53).f1).length))],[]):=by
 refine (f28_eq k _ _ _ _ _ _ _ _).trans ?_
 by_cases c1:b≥0
 ·rw [if_pos c1]
  by_cases c2:b<(F.bl.length:Int)
  ·rw [if_pos c2,if_pos (by omega),if_pos c2]
   have:(((s.length:Int)=(((F.bl.getD b.toNat z53).f1).length:Int))↔(0≤b∧b<(F.bl.length:Int)∧s.length=((F.bl.getD b.toNat z53).f1).length)):=⟨fun h=>⟨c1,c2,by omega⟩,fun h=>by have:=h.2.2;omega⟩
   simp only [this]
  ·rw [if_neg c2,decide_eq_false (fun h=>c2 h.2.1)]
 ·rw [if_neg c1,decide_eq_false (fun h=>c1 h.1)]
theorem c30 {F:FV} {l:List S72} (h:BkOk F l) (s:List Int) (hsl:s.length=l.length) (E Z:Int) (k:Nat) (hk:1000≤k) :
  ∃ r1 r2:List Int,evF T (k+21) 30 [.agg [.int .i64 30,.int .i64 E,.int .i64 Z,.vsl none .bool (cbF l l.length),.vsl none (.int .i64) (dF F l l.length),.vsl none (.list (.int .i64)) (fromF l l.length)],.vsl none (.int .i64) s] []=some ([.vsl none (.int .i64) r1,.vsl none (.int .i64) r2],[]) ∧
   r1.length=l.length∧r2.length=l.length∧∀ q,q<l.length→r1.getD q 0=Tm (chOf F l fun q=>s.getD q 0) 30 q∧BfOk (chOf F l fun q=>s.getD q 0) q (r2.getD q 0):=by
 have hlen:=h.len
 obtain ⟨r1,r2,e,h1,h2,h3⟩:=l30_out k F l h s hsl E Z (k+20) 0 (List.replicate l.length 0) (List.replicate l.length 0) (by omega) (by omega) (by simp) (by simp) (fun q hq=>absurd hq (by omega)) (fun q _=>by
  rw [List.getD_eq_getElem?_getD,List.getElem?_replicate];split <;> rfl)
 refine ⟨r1,r2,?_,h1,h2,h3⟩
 refine (f30_eq (k+20) _ _ _ _ _ _ _).trans ?_
 unfold chk
 rw [hsl,if_pos (by omega),if_pos (by omega),if_pos (by omega),if_pos (by omega),if_pos (by omega),if_pos (by omega),if_pos (by omega),if_pos (by omega),Int.toNat_natCast,← e,hsl]
 rfl
end Go.Proofs.Ytabcdpddhmekkaa.vm
