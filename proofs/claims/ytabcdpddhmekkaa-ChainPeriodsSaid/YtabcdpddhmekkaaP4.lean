-- Written for this claim by programs of this session (wip in its repo). Lean checks it.
import Derived.Test.YtabcdpddhmekkaaP3
import Derived.Test.YtabcdpddhmekkaaCT
set_option linter.all false
namespace Go.Proofs.Ytabcdpddhmekkaa.vm
open Go Go.RowKit Go.Vm
theorem l29_in (k m0:Nat) (F:FV) (l ag:List Int) (x29:List S72) (x30:Int) (i:Nat) (b1_0 b1_1 b1_2:Int) (r2:List Bool) (r3:List Int) (r4:List (List Int)) (b5_0 b5_1 b5_2:Int) (r6:List Bool) (r7:List Int) (r8:List (List Int)) (at_:Int→Option Int) (op dst im me:Int) (ag':List Int)
  (h6:r6.length=i+1) (hi:i<100000) (h8:r8.length<100000) (hag:ag.length<1000) :
  ∀ (m j:Nat) (r11:List Int),j≤ag.length→ag.length - j<m→r11.length≤j →
   l29_1 k m0 m (i:Int) x29 x30 (i:Int) ag (ag.length:Int) (j:Int) F.nm F.ws F.ar F.st F.rt F.bl b1_0 b1_1 b1_2 r2 r3 r4 b5_0 b5_1 b5_2 r6 r7 r8 at_ op dst ag' im me r11 =
    l29_0 k m0 x29 x30 ((i+1:Nat):Int) F.nm F.ws F.ar F.st F.rt F.bl b1_0 b1_1 b1_2 r2 r3 r4 b5_0 b5_1 b5_2 r6 r7 (r8++[if r6.getD i false=true then r11++(ag.drop j).filterMap at_ else r11]) (if r6.getD i false=true then setI at_ dst (i:Int) else at_)
 | 0,_,_,_,h,_=>absurd h (by omega)
 | m+1,j,r11,hj,hm,h11=>by
  rw [l29_1_eq]
  have t6:(i:Int)<(r6.length:Int):=by omega
  have t6':((i:Int)).toNat<r6.length:=by omega
  by_cases c:j<ag.length
  ·rw [if_pos (by omega),if_pos (by omega),if_pos (by omega),Int.toNat_natCast,Int.toNat_natCast,w64 (x:=(j:Int)+1) (by omega) (by omega),show (j:Int)+1=((j+1:Nat):Int) from rfl]
   rw [drop_cons ag 0 c]
   cases e:at_ (ag.getD j 0) with
   | none=>
    show l29_1 _ _ _ _ _ _ _ _ _ _ _ _ _ _ _ _ _ _ _ _ _ _ _ _ _ _ _ _ _ _ _ _ _ _ _=_
    rw [l29_in k m0 F l ag x29 x30 i b1_0 b1_1 b1_2 r2 r3 r4 b5_0 b5_1 b5_2 r6 r7 r8 at_ op dst im me ag' h6 hi h8 hag m (j+1) r11 (by omega) (by omega) (by omega),List.filterMap_cons_none e]
   | some y=>
    dsimp only [optK]
    rw [List.filterMap_cons_some e,if_pos (by omega:(0:Int)≤(i:Int)),if_pos t6,if_pos (by omega:i<r6.length)]
    by_cases hc:r6.getD i false=true
    ·rw [if_pos hc,if_pos hc,if_pos hc]
     unfold chk
     rw [if_pos (by simp only [List.length_cons,List.length_nil];omega),l29_in k m0 F l ag x29 x30 i b1_0 b1_1 b1_2 r2 r3 r4 b5_0 b5_1 b5_2 r6 r7 r8 at_ op dst im me ag' h6 hi h8 hag m (j+1) (r11++[y]) (by omega) (by omega) (by simp;omega),if_pos hc,if_pos hc,List.append_assoc]
     rfl
    ·rw [if_neg hc,if_neg hc,if_neg hc,l29_in k m0 F l ag x29 x30 i b1_0 b1_1 b1_2 r2 r3 r4 b5_0 b5_1 b5_2 r6 r7 r8 at_ op dst im me ag' h6 hi h8 hag m (j+1) r11 (by omega) (by omega) (by omega),if_neg hc,if_neg hc]
  ·rw [if_neg (by omega),List.drop_eq_nil_of_le (by omega)]
   unfold chk
   rw [if_pos (by simp only [List.length_cons,List.length_nil];omega),if_pos (by omega),if_pos t6,if_pos t6',Int.toNat_natCast,w64 (x:=(i:Int)+1) (by omega) (by omega),show (i:Int)+1=((i+1:Nat):Int) from rfl]
   by_cases hc:r6.getD i false=true
   ·rw [if_pos hc,if_pos hc,if_pos hc,List.filterMap_nil,List.append_nil]
   ·rw [if_neg hc,if_neg hc,if_neg hc]
def atF (l:List S72):Nat→Int→Option Int
 | 0=>fun _=>none
 | i+1=>if combB (l.getD i z72).f0=true then setI (atF l i) (l.getD i z72).f1 (i:Int) else atF l i
def cbF (l:List S72):Nat→List Bool
 | 0=>[]
 | i+1=>cbF l i++[combB (l.getD i z72).f0]
noncomputable def dF (F:FV) (l:List S72):Nat→List Int
 | 0=>[]
 | i+1=>dF F l i++[dZ F (l.getD i z72)]
def frF (l:List S72) (i:Nat):List Int:=if combB (l.getD i z72).f0=true then (l.getD i z72).f2.filterMap (atF l i) else []
def fromF (l:List S72):Nat→List (List Int)
 | 0=>[]
 | i+1=>fromF l i++[frF l i]
theorem cbF_len (l:List S72):∀ i,(cbF l i).length=i
 | 0=>rfl
 | i+1=>by simp [cbF,cbF_len l i]
theorem dF_len (F:FV) (l:List S72):∀ i,(dF F l i).length=i
 | 0=>rfl
 | i+1=>by simp [dF,dF_len F l i]
theorem fromF_len (l:List S72):∀ i,(fromF l i).length=i
 | 0=>rfl
 | i+1=>by simp [fromF,fromF_len l i]
theorem getD_app {α : Type} (l:List α) (x z : α):(l++[x]).getD l.length z=x:=by
 rw [List.getD_eq_getElem?_getD,List.getElem?_append_right (Nat.le_refl _)];simp
theorem getD_app_lt {α : Type} (l:List α) (x z : α) {i:Nat} (h:i<l.length):(l++[x]).getD i z=l.getD i z:=by
 rw [List.getD_eq_getElem?_getD,List.getElem?_append_left h,← List.getD_eq_getElem?_getD]
theorem cbF_get (l:List S72):∀ n i,i<n→(cbF l n).getD i false=combB (l.getD i z72).f0
 | n+1,i,h=>by
  by_cases e:i=n
  ·subst e;have:=getD_app (cbF l i) (combB (l.getD i z72).f0) false;rw [cbF_len] at this;exact this
  ·exact (getD_app_lt _ _ _ (by rw [cbF_len];omega)).trans (cbF_get l n i (by omega))
theorem dF_get (F:FV) (l:List S72):∀ n i,i<n→(dF F l n).getD i 0=dZ F (l.getD i z72)
 | n+1,i,h=>by
  by_cases e:i=n
  ·subst e;have:=getD_app (dF F l i) (dZ F (l.getD i z72)) 0;rw [dF_len] at this;exact this
  ·exact (getD_app_lt _ _ _ (by rw [dF_len];omega)).trans (dF_get F l n i (by omega))
theorem fromF_get (l:List S72):∀ n i,i<n→(fromF l n).getD i []=frF l i
 | n+1,i,h=>by
  by_cases e:i=n
  ·subst e;have:=getD_app (fromF l i) (frF l i) [];rw [fromF_len] at this;exact this
  ·exact (getD_app_lt _ _ _ (by rw [fromF_len];omega)).trans (fromF_get l n i (by omega))
structure BkOk (F:FV) (l:List S72):Prop where
 fo:FOk F
 len:l.length≤1000
 ins:∀ i,i<l.length→InOk F (l.getD i z72)
 args:∀ i,i<l.length→(l.getD i z72).f2.length≤10
 uniq:∀ k i,k<i→i<l.length→combB (l.getD k z72).f0=true→combB (l.getD i z72).f0=true→(l.getD k z72).f1≠(l.getD i z72).f1
theorem l29_out (k:Nat) (F:FV) (l:List S72) (h:BkOk F l) (b1_0 b1_1 b1_2:Int) (r2:List Bool) (r3:List Int) (r4:List (List Int)) (b5_0 b5_1 b5_2:Int) :
  ∀ (m i:Nat),i≤l.length→l.length - i<m →
   l29_0 (k+43) m l (l.length:Int) (i:Int) F.nm F.ws F.ar F.st F.rt F.bl b1_0 b1_1 b1_2 r2 r3 r4 b5_0 b5_1 b5_2 (cbF l i) (dF F l i) (fromF l i) (atF l i) =
    some ([.agg [.int .i64 b5_0,.int .i64 b5_1,.int .i64 b5_2,.vsl none .bool (cbF l l.length),.vsl none (.int .i64) (dF F l l.length),.vsl none (.list (.int .i64)) (fromF l l.length)]],[])
 | 0,_,_,h=>absurd h (by omega)
 | m+1,i,hi,hm=>by
  rw [l29_0_eq]
  have hlen:=h.len
  by_cases c:i<l.length
  ·rw [if_pos (by omega),if_pos (by omega),if_pos (by omega),Int.toNat_natCast]
   obtain ⟨u0,u1,u3,u4,u5,e,hu⟩:=dZ_ok h.fo (h.ins i c)
   obtain ⟨v0,v1,v2,v3,v4,v5,hof⟩:=hu.of
   have e1:=hu.own k
   rw [e1,Option.bind_some,res48_eq,hof k,Option.bind_some,res49_eq]
   have la:=h.args i c
   have fin:∀ b:Bool,b=combB (l.getD i z72).f0 →
     chk (((cbF l i).length + [b].length)*1≤140737488355328) (chk (((dF F l i).length + [dZ F (l.getD i z72)].length)*8≤140737488355328) (l29_1 (k+43) m (k+43) (i:Int) l (l.length:Int) (i:Int) ((l.getD i z72).f2) (((l.getD i z72).f2).length:Int) (0:Int) F.nm F.ws F.ar F.st F.rt F.bl b1_0 b1_1 b1_2 r2 r3 r4 b5_0 b5_1 b5_2 (cbF l i++[b]) (dF F l i++[dZ F (l.getD i z72)]) (fromF l i) (atF l i) ((l.getD i z72).f0) ((l.getD i z72).f1) ((l.getD i z72).f2) ((l.getD i z72).f3) ((l.getD i z72).f4) [])) =
      some ([.agg [.int .i64 b5_0,.int .i64 b5_1,.int .i64 b5_2,.vsl none .bool (cbF l l.length),.vsl none (.int .i64) (dF F l l.length),.vsl none (.list (.int .i64)) (fromF l l.length)]],[]):=by
    rintro b rfl
    unfold chk
    rw [if_pos (by rw [cbF_len];simp only [List.length_cons,List.length_nil];omega),if_pos (by rw [dF_len];simp only [List.length_cons,List.length_nil];omega)]
    have g:=l29_in (k+43) m F [] (l.getD i z72).f2 l (l.length:Int) i b1_0 b1_1 b1_2 r2 r3 r4 b5_0 b5_1 b5_2 (cbF l (i+1)) (dF F l (i+1)) (fromF l i) (atF l i) ((l.getD i z72).f0) ((l.getD i z72).f1) ((l.getD i z72).f3) ((l.getD i z72).f4) ((l.getD i z72).f2) (cbF_len l _) (by omega) (by rw [fromF_len];omega) (by omega) (k+43) 0 [] (by omega) (by omega) (by simp)
    refine g.trans ?_
    rw [cbF_get l (i+1) i (by omega),List.drop_zero,List.nil_append]
    exact l29_out k F l h b1_0 b1_1 b1_2 r2 r3 r4 b5_0 b5_1 b5_2 m (i+1) (by omega) (by omega)
   by_cases he:e=0
   ·rw [if_pos he]
    refine fin _ ?_
    by_cases hz:u0=0
    ·rw [decide_eq_true hz,(hu.comb.2 ⟨he,hz⟩)]
    ·rw [decide_eq_false hz]
     exact (Bool.eq_false_iff.mpr fun hh=>hz (hu.comb.1 hh).2).symm
   ·rw [if_neg he]
    refine fin _ ?_
    exact (Bool.eq_false_iff.mpr fun hh=>he (hu.comb.1 hh).1).symm
  ·rw [if_neg (by omega),show i=l.length from by omega]
end Go.Proofs.Ytabcdpddhmekkaa.vm
