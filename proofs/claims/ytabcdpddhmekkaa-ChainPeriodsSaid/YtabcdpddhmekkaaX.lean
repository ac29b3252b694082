-- Written for this claim by programs of this session (wip in its repo). Lean checks it.
import Derived.Test.YtabcdpddhmekkaaM2
import Derived.Test.YtabcdpddhmekkaaShelf
set_option linter.all false
namespace Go.Proofs.Ytabcdpddhmekkaa.vm
open Go Go.RowKit Go.Vm
theorem extOK:ExtOK T:=by
 intro f g hf pargs hp r hg S ρ w args cx hglob hargs hblk hfr
 have hf:extT f=some g:=hf
 unfold extT at hf
 split at hf
 ·
  obtain rfl:=Option.some.inj hf
  unfold xFunc at hg
  split at hg
  ·rename_i s0 s1 s2 s3 s4
   by_cases hc:fewB s0 s1 s2 s3 s4=true
   ·rw [if_pos hc] at hg
    obtain ⟨F,hF,rfl⟩:=Option.map_eq_some_iff.mp hg
    obtain ⟨v,rfl,h1⟩:=inv_1 hargs
    exact func_ok hc hF cx hfr h1
   ·rw [if_neg hc] at hg;exact absurd hg (by simp)
  ·exact absurd hg (by simp)
 ·
  obtain rfl:=Option.some.inj hf
  unfold xLen at hg
  split at hg
  ·rename_i x
   by_cases hc:0≤x∧x≤18446744073709551615
   ·rw [if_pos hc] at hg
    obtain rfl:=Option.some.inj hg
    obtain ⟨v,rfl,h1⟩:=inv_1 hargs
    obtain rfl:=inv_int h1
    refine (Try.bits_Len x w hc.1 hc.2).mono ?_
    rintro e w' ⟨rfl,rfl⟩
    exact post_of cx hfr (Below.refl _ _) (S':=S) (fun b o h=>h) (fun b o h=>.inl h) (.int _ _)
   ·rw [if_neg hc] at hg;exact absurd hg (by simp)
  ·exact absurd hg (by simp)
 ·exact absurd hf (by simp)
theorem int_cells {x:Int} {S:Stab} {w:World} {cs:List Value} (h:VRs E S w noRho (encE E (.int .i64) x) cs):cs = [.int .i64 x]:=by
 replace h:VRs E S w noRho [.int .i64 x] cs:=h
 rcases h with _ | ⟨_,_,_,_,g,h⟩;cases h;cases g;rfl
theorem rev_ok (S:Stab) (w:World) (i:BI) (e:TypeId) (l:List Int) (hmd:i.md=0) (hrow:RowR E S w i e (.int .i64) l) :
  Calls Try.prog 34 #[.slice (Go.Vm.rowAt i.base) l.length i.cap] w (fun en w'=>en = .returned (.tuple #[])∧w.grownBy w' i.base∧RowR E S w' i e (.int .i64) l.reverse):=by
 obtain ⟨h0,h1⟩:=hrow
 cases hb:i.base with
 | none=>
  obtain ⟨rfl,hc⟩:=h0 hb
  refine (Try.slices_Reverse_int_empty _ _ w).mono ?_
  rintro en w' ⟨rfl,rfl⟩
  exact ⟨rfl,⟨rfl,rfl,rfl,Nat.le_refl _,fun k _ _=>rfl⟩,fun _=>⟨rfl,hc⟩,fun q hq=>by rw [hb] at hq;exact absurd hq (by simp)⟩
 | some g=>
  obtain ⟨vs,hh,hl,hm,hs,ho,he,-⟩:=h1 g hb
  have hs:vs.size=i.cap:=by rw [hs];exact Nat.mul_one _
  replace hl:l.length≤i.cap:=hl
  replace hm:i.cap≤9223372036854775807:=hm
  have at_:∀ j (hj:j<l.length),vs[j]? = some (.int .i64 l[j]):=fun j hj=>by
   have:=int_cells (he j _ (List.getElem?_eq_getElem hj))
   have e1:sizeE E (.int .i64)=1:=rfl
   rw [e1,Nat.mul_one,List.drop_eq_getElem_cons (by simp;omega),List.take_succ_cons,List.take_zero] at this
   injection this with this
   rw [Array.getElem?_eq_getElem (by omega)]
   exact congrArg some this
  have H:Sort.Holds (Value.int .i64) w g 0 l.toArray:=fun j hj=>by
   have hj:j<l.length:=by simpa using hj
   rw [cell_of hh,Nat.zero_add,at_ j hj]
   refine ⟨by simp [hj],?_⟩
   simp [World.frozen?,hh]
  have hlen:l.length≤9223372036854775807:=by omega
  refine (Try.slices_Reverse_int g 0 i.cap l w H hlen).mono ?_
  rintro en w' ⟨rfl,n,rfl⟩
  have hw:(Sort.putRow (Value.int .i64) (Sort.ahead w n) g 0 l.reverse.toArray).heap[g]? = some (.cells (Sort.putCells (Value.int .i64) 0 l.reverse.toArray vs) e (0,0)):=by
   simp [Sort.putRow,Sort.mapBlock,Array.getElem?_modify,hh,Sort.onCells]
  have new:∀ j (hj:j<l.length),(Sort.putCells (Value.int .i64) 0 l.reverse.toArray vs)[j]? = some (.int .i64 (l.reverse[j]'(by simp;exact hj))):=fun j hj=>by
   simp only [Sort.putCells,Array.getElem?_mapIdx,at_ j hj,Option.map_some]
   rw [if_pos ⟨Nat.zero_le _,by simp;exact hj⟩]
   simp [hj]
  refine ⟨rfl,⟨rfl,rfl,rfl,by simp,fun k hk hne=>?_⟩,fun hn=>by rw [hb] at hn;exact absurd hn (by simp),fun q hq=>?_⟩
  ·have:g≠k:=fun h=>hne (by rw [h])
   simp [Sort.putRow,Sort.mapBlock,Array.getElem?_modify,this]
  ·rw [hb] at hq
   injection hq with hq;subst hq
   have sz:(Sort.putCells (Value.int .i64) 0 l.reverse.toArray vs).size=vs.size:=by simp [Sort.putCells]
   have e1:sizeE E (.int .i64)=1:=rfl
   have rl:l.reverse.length=l.length:=List.length_reverse
   refine ⟨_,hw,Nat.le_trans (Nat.le_of_eq rl) hl,hm,by rw [sz,hs,e1,Nat.mul_one],fun u hu=>?_,fun k x hx=>?_,fun h=>by omega⟩
   ·obtain ⟨j,hj,rfl⟩:=List.mem_iff_getElem.mp hu
    have hj':j<l.length:=by
     rw [List.length_take,e1,Nat.mul_one] at hj
     exact Nat.lt_of_lt_of_le (Nat.lt_of_lt_of_le hj (Nat.min_le_left _ _)) (Nat.le_of_eq rl)
    have:=new j hj'
    rw [List.getElem_take,Array.getElem_toList]
    rw [Array.getElem?_eq_getElem (by rw [sz];omega)] at this
    rw [Option.some.inj this]
    rfl
   ·have hk:k<l.length:=Nat.lt_of_lt_of_le (List.getElem?_eq_some_iff.mp hx).1 (Nat.le_of_eq rl)
    have hx':l.reverse[k]'(by rw [rl];exact hk)=x:=(List.getElem?_eq_some_iff.mp hx).2
    have:=new k hk
    rw [hx',Array.getElem?_eq_getElem (by rw [sz];omega)] at this
    rw [e1,Nat.mul_one,List.drop_eq_getElem_cons (by rw [Array.length_toList,sz];omega),List.take_succ_cons,List.take_zero,Array.getElem_toList,Option.some.inj this]
    exact .cons _ _ _ _ (.int _ _) .nil
theorem inpOK:InpOK T:=by
 intro f q hf S w i e l hmd hrow hsep
 have hf:inpT f=some q:=hf
 unfold inpT at hf
 split at hf
 ·obtain rfl:=Option.some.inj hf
  exact ⟨List.length_reverse,(rev_ok S w i e l hmd hrow).mono fun en w' h=>⟨h.1,h.2.1,fun _=>h.2.2⟩⟩
 ·exact absurd hf (by simp)
end Go.Proofs.Ytabcdpddhmekkaa.vm
