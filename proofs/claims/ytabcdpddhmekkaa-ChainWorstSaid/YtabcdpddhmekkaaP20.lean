-- Written for this claim by programs of this session (wip in its repo). Lean checks it.
import Derived.Test.YtabcdpddhmekkaaP19
set_option linter.all false
namespace Go.Proofs.Ytabcdpddhmekkaa.vm
open Go Go.RowKit Go.Vm
theorem worst_true (k:Nat) (s0:List Int) (s1 s2:List S66) (s3:List Int) (s4:List S75) (a:Int) (h0:0≤a) (h1:a≤255) (more:List Int) (hx:∀ v∈more,0≤v∧v≤255) (h4:s4.length<4000000000000) (hk:5000+s4.length≤k)
  (mk:FewOk s0 s1 s2 s3 s4→∃ F,FnOk F∧evF T k 11 [skv s0 s1 s2 s3 s4] []=some ([F.v],[])) :
  evF T (k+1) 4 [skv s0 s1 s2 s3 s4,.int .u8 a,.vsl none (.int .u8) more] []=some ([.bool true],[]):=by
 refine (f4_eq k _ _ _ _ _ _ _).trans ?_
 obtain ⟨j,rfl⟩:∃ j,k=j+60:=⟨k - 60,by omega⟩
 rw [awake j,Option.bind_some,res9_eq,if_neg (by simp)]
 obtain ⟨B,eB,hB⟩:=l10_ok (j+59) s0 s1 s2 s3 s4 h4 (j+59) 0 (by omega) (by omega) (fun q hq=>absurd hq (by omega))
 have e10:evF T (j+60) 10 [skv s0 s1 s2 s3 s4] []=some ([.bool B],[]):=(f10_eq (j+59) _ _ _ _ _).trans eB
 rw [e10,Option.bind_some,res10_eq]
 cases B
 ·rw [if_pos (show (!false)=true from rfl),Option.bind_some,res9_eq]
 ·rw [if_neg (by simp)]
  obtain ⟨F,hF,e11⟩:=mk (hB rfl)
  obtain ⟨b,hb,e12⟩:=c12 (j+59) hF a h0 h1
  obtain ⟨st,e13,l13,b13,_⟩:=c13 (j+45) hF hb more hx (by omega)
  have he:=end_ok hF
  have hlen:=(hF.bk b hb).len
  obtain ⟨p,e16,f,lg,hp⟩:=c16 hF hb st l13 (j+14) (by omega)
  have e17:=c17 hF (j+17)
  have e16n:=c16_no hF (b:Int) (st++[0]) (fun hh=>by
   have h3:=hh.2.2
   rw [Int.toNat_natCast,List.length_append,← l13] at h3
   exact absurd h3 (by show ¬ st.length+1=st.length;omega)) (j+14) (by omega)
  have e18:=c18 hF hb st l13 p hp f (lgZ F ((F.bl.getD b z53).f1) st) (j+16) (by omega)
  have e19:=c19 hF hb st l13 (j+14) (by omega)
  rw [e11,Option.bind_some,res11_eq,e12,Option.bind_some,res12_eq,e13,Option.bind_some,res13_eq,e16,Option.bind_some,res16_eq,e17,Option.bind_some,res17_eq]
  unfold chk
  rw [if_pos (by simp only [List.length_cons,List.length_nil];omega),e16n,Option.bind_some,res16_eq,e18,Option.bind_some,res18_eq,decide_eq_true (by omega),if_pos rfl,e19,Option.bind_some,res19_eq,if_pos rfl,w64 (by omega) (by omega),if_pos rfl]
  rfl
end Go.Proofs.Ytabcdpddhmekkaa.vm
