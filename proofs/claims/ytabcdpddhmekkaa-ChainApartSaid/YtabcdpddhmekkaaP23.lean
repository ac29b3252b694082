-- Written for this claim by programs of this session (wip in its repo). Lean checks it.
import Derived.Test.YtabcdpddhmekkaaP22
set_option linter.all false
namespace Go.Proofs.Ytabcdpddhmekkaa.vm
open Go Go.RowKit Go.Vm
theorem lg_le {F:FV} {l:List S72} (s:List Int) {P:Int} (hP:30+endZ (szL F.bl)≤P) :
  lgZ F l s≤P↔∀ i,i<l.length→(chOf F l fun q=>s.getD q 0).cb i=true→(chOf F l fun q=>s.getD q 0).M i≤P - 30 - endZ (szL F.bl):=by
 unfold lgZ
 constructor
 ·intro h i hi hc
  have:=(fm_ge (tmL F l s) 30).2 _ (List.mem_map.mpr ⟨i,List.mem_range.mpr hi,rfl⟩)
  unfold Tm at this
  rw [if_pos hc] at this
  omega
 ·intro h
  rcases fm_mem (tmL F l s) 30 with e | e
  ·omega
  ·obtain ⟨q,hq,e2⟩:=List.mem_map.mp e
   rw [List.mem_range] at hq
   rw [← e2];unfold Tm
   by_cases c:(chOf F l fun q=>s.getD q 0).cb q=true
   ·rw [if_pos c];have:=h q hq c;omega
   ·rw [if_neg c];omega
def allH (s:List Int):List S64→Bool
 | []=>true
 | x::l=>decide (s.getD x.f0.toNat 0+x.f2≤s.getD x.f1.toNat 0)&&allH s l
theorem allH_iff (s:List Int):∀ l:List S64,allH s l=true↔∀ x∈l,s.getD x.f0.toNat 0+x.f2≤s.getD x.f1.toNat 0
 | []=>⟨fun _ x h=>absurd h (by simp),fun _=>rfl⟩
 | y::l=>by
  unfold allH
  rw [Bool.and_eq_true,decide_eq_true_eq,allH_iff s l]
  constructor
  ·rintro ⟨h1,h2⟩ x hx
   rcases List.mem_cons.mp hx with rfl | hx
   ·exact h1
   ·exact h2 x hx
  ·exact fun h=>⟨h y List.mem_cons_self,fun x hx=>h x (List.mem_cons_of_mem _ hx)⟩
theorem arcs_iff {F:FV} {l:List S72} (h:BkOk F l) (s:List Int) (up:∀ p q,p<q→q<l.length→lkB (l.getD p z72) (l.getD q z72)=true→s.getD p 0≤s.getD q 0) {P:Int} (hP:30+endZ (szL F.bl)≤P):allH s (arcZ F l P)=decide (lgZ F l s≤P):=by
 have ok:=chOf_ok h (fun q=>s.getD q 0)
 have key:=Ch.arcs_iff ok (s:=fun q=>s.getD q 0) (fun k i=>rfl) (fun k i e=>by
  obtain ⟨a1,a2,a3,a4,a5⟩:=chOf_lk.1 e
  exact up k i a1 a2 (by unfold lkB;rw [a3,a4,decide_eq_true a5];rfl)) (n:=l.length) (room:=P - 30 - endZ (szL F.bl)) (by omega)
 rw [Bool.eq_iff_iff,allH_iff,decide_eq_true_eq,lg_le s hP,← key]
 constructor
 ·intro H u i hu hi hr
  exact H ⟨(u:Int),(i:Int),1,0⟩ ((arcA_mem _ _ _ _ _).2 ⟨u,i,hu,hi,hr,rfl⟩)
 ·intro H x hx
  obtain ⟨u,w,hu,hw,hr,rfl⟩:=(arcA_mem _ _ _ _ _).1 hx
  exact H u w hu hw hr
end Go.Proofs.Ytabcdpddhmekkaa.vm
