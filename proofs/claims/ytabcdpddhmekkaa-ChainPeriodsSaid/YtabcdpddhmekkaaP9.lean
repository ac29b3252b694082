-- Written for this claim by programs of this session (wip in its repo). Lean checks it.
import Derived.Test.YtabcdpddhmekkaaP8
set_option linter.all false
namespace Go.Proofs.Ytabcdpddhmekkaa.vm
open Go Go.RowKit Go.Vm
structure FnOk (F:FV):Prop where
 n1:1≤F.bl.length∧F.bl.length≤5
 sz:1≤szL F.bl∧szL F.bl≤5200
 bk:∀ b,b<F.bl.length→BkOk F ((F.bl.getD b z53).f1)
theorem c33 {F:FV} (h:FnOk F) (k:Nat) (hk:10≤k):evF T (k+1) 33 [F.v] []=some ([.int .i64 (szL F.bl)],[]):=by
 refine (f33_eq k _ _ _ _ _ _).trans ?_
 have hn:=h.n1
 have hs:=h.sz
 refine (l33 k F.bl k 0 0 (by omega) (by omega) (by omega) (by rw [List.drop_zero];omega) (by omega)).trans ?_
 rw [List.drop_zero,Int.zero_add]
theorem c36 {F:FV} (h:FnOk F) (k:Nat) (hk:10≤k):evF T (k+1) 36 [F.v] []=some ([.int .i64 (szL F.bl)],[]):=by
 refine (f36_eq k _ _ _ _ _ _).trans ?_
 have hn:=h.n1
 have hs:=h.sz
 refine (l36 k F k 0 0 (by omega) (by omega) (by omega) (by rw [List.drop_zero];omega) (by omega)).trans ?_
 rw [List.drop_zero,Int.zero_add]
theorem c29 {F:FV} (h:FnOk F) {b:Nat} (hb:b<F.bl.length) (k:Nat) (hk:1000≤k) :
  evF T (k+44) 29 [F.v,.int .i64 (b:Int)] []=some ([.agg [.int .i64 30,.int .i64 (endZ (szL F.bl)),.int .i64 (frzZ (szL F.bl)),.vsl none .bool (cbF ((F.bl.getD b z53).f1) ((F.bl.getD b z53).f1).length),.vsl none (.int .i64) (dF F ((F.bl.getD b z53).f1) ((F.bl.getD b z53).f1).length),.vsl none (.list (.int .i64)) (fromF ((F.bl.getD b z53).f1) ((F.bl.getD b z53).f1).length)]],[]):=by
 refine (f29_eq (k+43) _ _ _ _ _ _ _).trans ?_
 have e1:=c33 h (k+42) (by omega)
 have e2:=c32 (k+40) h.sz.1 h.sz.2
 have hl:=(h.bk b hb).len
 rw [if_pos (by omega),if_pos (by omega),e1,Option.bind_some,res33_eq,e2,Option.bind_some,res32_eq,Int.toNat_natCast]
 exact l29_out k F _ (h.bk b hb) 0 0 0 [] [] [] 30 (endZ (szL F.bl)) (frzZ (szL F.bl)) (k+43) 0 (by omega) (by omega)
end Go.Proofs.Ytabcdpddhmekkaa.vm
