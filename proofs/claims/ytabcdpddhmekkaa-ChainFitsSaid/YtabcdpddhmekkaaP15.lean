-- Written for this claim by programs of this session (wip in its repo). Lean checks it.
import Derived.Test.YtabcdpddhmekkaaP14
set_option linter.all false
namespace Go.Proofs.Ytabcdpddhmekkaa.vm
open Go Go.RowKit Go.Vm
def fm:Int→List Int→Int
 | a,[]=>a
 | a,x::l=>fm (if a<x then x else a) l
theorem fm_ge:∀ (l:List Int) (a:Int),a≤fm a l∧∀ x∈l,x≤fm a l
 | [],a=>⟨Int.le_refl _,fun x h=>absurd h (by simp)⟩
 | y::l,a=>by
  obtain ⟨h1,h2⟩:=fm_ge l (if a<y then y else a)
  unfold fm
  refine ⟨?_,fun x hx=>?_⟩
  ·split at h1 <;> split <;> omega
  ·rcases List.mem_cons.mp hx with rfl | hx
   ·split at h1 <;> split <;> omega
   ·exact h2 x hx
theorem fm_mem:∀ (l:List Int) (a:Int),fm a l=a∨fm a l∈l
 | [],a=>.inl rfl
 | y::l,a=>by
  unfold fm
  rcases fm_mem l (if a<y then y else a) with h | h
  ·rw [h];split
   ·exact .inr (by simp)
   ·exact .inl rfl
  ·exact .inr (List.mem_cons_of_mem _ h)
theorem l19 (k:Nat) (B E Z:Int) (l:List Int) (hl:l.length<100000):∀ (m i:Nat) (a:Int),i≤l.length→l.length - i<m →
  l19_0 k m a l (i:Int) B E Z=some ([.int .i64 (wrap64 (fm a (l.drop i)+E))],[])
 | 0,_,_,_,h=>absurd h (by omega)
 | m+1,i,a,hi,hm=>by
  rw [l19_0_eq]
  by_cases c:i<l.length
  ·rw [if_pos (by omega),if_pos (by omega),if_pos (by omega),Int.toNat_natCast,w64 (x:=(i:Int)+1) (by omega) (by omega),show (i:Int)+1=((i+1:Nat):Int) from rfl,l19 k B E Z l hl m (i+1) _ (by omega) (by omega),drop_cons l 0 c]
   rfl
  ·rw [if_neg (by omega),List.drop_eq_nil_of_le (by omega)]
   rfl
noncomputable def lgZ (F:FV) (l:List S72) (s:List Int):Int:=fm 30 (tmL F l s)+endZ (szL F.bl)
theorem tm_le {F:FV} {l:List S72} (h:BkOk F l) (s:List Int):∀ x∈tmL F l s,0≤x∧x≤600000:=by
 intro x hx
 obtain ⟨q,hq,rfl⟩:=List.mem_map.mp hx
 rw [List.mem_range] at hq
 have hok:=chOf_ok h (fun q=>s.getD q 0)
 have:=Ch.M_le hok (fun i=>(chOf_d h (fun q=>s.getD q 0) i).2) q
 have:=Ch.M0 hok q
 have:=h.len
 unfold Tm;split <;> omega
theorem end_ok {F:FV} (h:FnOk F):300≤endZ (szL F.bl)∧endZ (szL F.bl)≤600∧320≤frzZ (szL F.bl)∧frzZ (szL F.bl)≤1000:=by
 have:=lvZ_ok h.sz.1 h.sz.2
 unfold endZ frzZ;omega
theorem c19 {F:FV} (h:FnOk F) {b:Nat} (hb:b<F.bl.length) (s:List Int) (hs:s.length=((F.bl.getD b z53).f1).length) (k:Nat) (hk:1000≤k) :
  evF T (k+46) 19 [F.v,.int .i64 (b:Int),.vsl none (.int .i64) s] []=some ([.int .i64 (lgZ F ((F.bl.getD b z53).f1) s)],[]):=by
 refine (f19_eq (k+45) _ _ _ _ _ _ _ _).trans ?_
 have e17:=c17 h (k+2)
 have e15:=c15 h hb s hs k hk
 have hlen:=(h.bk b hb).len
 have lt:(tmL F ((F.bl.getD b z53).f1) s).length=((F.bl.getD b z53).f1).length:=by simp [tmL]
 rw [e17,Option.bind_some,res17_eq,e15,Option.bind_some,res15_eq]
 refine (l19 (k+45) 30 _ _ _ (by omega) (k+45) 0 30 (by omega) (by omega)).trans ?_
 rw [List.drop_zero]
 have he:=end_ok h
 have hf:30≤fm 30 (tmL F ((F.bl.getD b z53).f1) s)∧fm 30 (tmL F ((F.bl.getD b z53).f1) s)≤600000:=by
  refine ⟨(fm_ge _ _).1,?_⟩
  rcases fm_mem (tmL F ((F.bl.getD b z53).f1) s) 30 with e | e
  ·rw [e];decide
  ·exact (tm_le (h.bk b hb) s _ e).2
 rw [w64 (by omega) (by omega)]
 rfl
end Go.Proofs.Ytabcdpddhmekkaa.vm
