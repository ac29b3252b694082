-- Written for this claim by programs of this session (wip in its repo). Lean checks it.
import Derived.Test.YtabcdpddhmekkaaP10
set_option linter.all false
namespace Go.Proofs.Ytabcdpddhmekkaa.vm
open Go Go.RowKit Go.Vm
theorem list_of {r:List Int} {n:Nat} {f:Nat→Int} (hl:r.length=n) (h:∀ q,q<n→r.getD q 0=f q):r=(List.range n).map f:=by
 apply List.ext_getElem
 ·simp [hl]
 ·intro i h1 h2
  have:=h i (by omega)
  rw [List.getD_eq_getElem?_getD,List.getElem?_eq_getElem h1] at this
  rw [List.getElem_map,List.getElem_range]
  exact this
noncomputable def tmL (F:FV) (l:List S72) (s:List Int):List Int:=(List.range l.length).map (Tm (chOf F l fun q=>s.getD q 0) 30)
theorem smOk_of {l:List S72} {s:List Int} (h:s.length=l.length):SmOk l s (fun j i=>decide (s.getD j 0=s.getD i 0)):=by
 by_cases c:l.length=0
 ·refine .inl ⟨by omega,fun j i=>?_⟩
  have:s = []:=List.eq_nil_of_length_eq_zero (by omega)
  subst this
  exact decide_eq_true rfl
 ·exact .inr ⟨h,c,fun j i=>rfl⟩
theorem c15 {F:FV} (h:FnOk F) {b:Nat} (hb:b<F.bl.length) (s:List Int) (hs:s.length=((F.bl.getD b z53).f1).length) (k:Nat) (hk:1000≤k) :
  evF T (k+45) 15 [F.v,.int .i64 (b:Int),.vsl none (.int .i64) s] []=some ([.vsl none (.int .i64) (tmL F ((F.bl.getD b z53).f1) s)],[]):=by
 refine (f15_eq (k+44) _ _ _ _ _ _ _ _).trans ?_
 have e17:=c17 h (k+1)
 have hlen:=(h.bk b hb).len
 obtain ⟨r,e,l',p⟩:=l15_out k F hb (h.bk b hb) s _ (smOk_of hs) hs (endZ (szL F.bl)) (frzZ (szL F.bl)) hk (k+44) 0 (List.replicate s.length 0) (by omega) (by omega) (by simp) (fun q hq=>by
  rw [List.getD_eq_getElem?_getD,List.getElem?_replicate,if_pos hq];rfl)
 rw [e17,Option.bind_some,res17_eq]
 unfold chk
 rw [if_pos (by omega),if_pos (by omega),if_pos (by omega),if_pos (by omega),Int.toNat_natCast]
 refine e.trans ?_
 rw [list_of (l'.trans hs) (fun q hq=>p q (by omega))]
 rfl
end Go.Proofs.Ytabcdpddhmekkaa.vm
