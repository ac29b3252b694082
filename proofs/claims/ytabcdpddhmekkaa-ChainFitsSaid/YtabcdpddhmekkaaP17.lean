-- Written for this claim by programs of this session (wip in its repo). Lean checks it.
import Derived.Test.YtabcdpddhmekkaaP16
set_option linter.all false
namespace Go.Proofs.Ytabcdpddhmekkaa.vm
open Go Go.RowKit Go.Vm
def Back (X:Ch):Nat→List Nat→Prop
 | q,[]=>X.cb q=true∧X.M q=X.d q∧∀ k,X.lk k q=true→X.sm k q=false
 | q,p::l=>X.cb q=true∧X.lk p q=true∧X.sm p q=true∧X.M q=X.M p+X.d q∧Back X p l
theorem l16_path (k:Nat) {X:Ch} (h:X.Ok) (n:Nat) (hn:n≤1000) (r2:List Int) (h2:r2.length=n) (hb:∀ q,q<n→BfOk X q (r2.getD q 0)) (c0 D:Int) :
  ∀ (q:Nat),q<n→X.cb q=true→∀ (m:Nat) (r3:List Int),q+1<m→r3.length+q<3000 →
   ∃ l:List Nat,Back X q l∧l16_1 k m r2 (q:Int) c0 [] D r3=some ([.agg [.int .i64 D,.vsl none (.int .i64) ((r3++(q::l).map fun w:Nat=>(w:Int)).reverse)]],[]):=by
 intro q
 induction q using Nat.strongRecOn with
 | _ q ih=>
  intro hq hc m r3 hm h3
  obtain ⟨m,rfl⟩:∃ j,m=j+1:=⟨m - 1,by omega⟩
  rw [l16_1_eq,if_pos (by omega)]
  unfold chk
  rw [if_pos (by simp only [List.length_cons,List.length_nil];omega),if_pos (by omega),if_pos (by omega),Int.toNat_natCast]
  rcases (hb q hq).2 hc with ⟨e,e1,e2⟩ | ⟨p,e,e1,e2,e3⟩
  ·rw [e]
   obtain ⟨m,rfl⟩:∃ j,m=j+1:=⟨m - 1,by omega⟩
   refine ⟨[],⟨hc,e1,e2⟩,?_⟩
   rw [l16_1_eq,if_neg (by omega)]
   rfl
  ·have lp:=h.lk p q e1
   obtain ⟨l,hl,el⟩:=ih p lp.1 (by omega) lp.2.1 m (r3++[(q:Int)]) (by omega) (by simp;omega)
   refine ⟨p::l,⟨hc,e1,e2,e3,hl⟩,?_⟩
   rw [e,el,List.append_assoc]
   rfl
end Go.Proofs.Ytabcdpddhmekkaa.vm
