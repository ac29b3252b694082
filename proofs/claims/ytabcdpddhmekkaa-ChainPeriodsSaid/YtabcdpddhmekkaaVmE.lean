-- Written for this claim by programs of this session (wip in its repo). Lean checks it.
import Derived.Test.YtabcdpddhmekkaaVm2
import Derived.Test.YtabcdpddhmekkaaProg
import Derived.Test.YtabcdpddhmekkaaMk
import Derived.Lib.BitFns
set_option linter.all false
namespace Go.Proofs.Ytabcdpddhmekkaa.vm
open Go Go.RowKit Go.Vm
structure S72 where
 f0:Int
 f1:Int
 f2:List Int
 f3:Int
 f4:Int
def z72:S72:=⟨(0:Int),(0:Int),[],(0:Int),(0:Int)⟩
structure S111 where
 f0:Int
 f1:List Int
def z111:S111:=⟨(0:Int),[]⟩
structure S53 where
 f0:List Int
 f1:List S72
 f2:Int
 f3:Int
 f4:List S111
 f5:List Int
 f6:Int
 f7:Int
 f8:Int
def z53:S53:=⟨[],[],(0:Int),(0:Int),[],[],(0:Int),(0:Int),(0:Int)⟩
structure S64 where
 f0:Int
 f1:Int
 f2:Int
 f3:Int
def z64:S64:=⟨(0:Int),(0:Int),(0:Int),(0:Int)⟩
structure S66 where
 f0:Int
 f1:Int
def z66:S66:=⟨(0:Int),(0:Int)⟩
structure S87 where
 f0:Int
 f1:Int
 f2:Int
 f3:Int
 f4:Int
 f5:Int
def z87:S87:=⟨(0:Int),(0:Int),(0:Int),(0:Int),(0:Int),(0:Int)⟩
structure S75 where
 f0:List Int
 f1:List S87
 f2:Int
 f3:Int
 f4:Int
 f5:Int
 f6:Bool
def z75:S75:=⟨[],[],(0:Int),(0:Int),(0:Int),(0:Int),false⟩
structure S78 where
 f0:List UInt8
 f1:Int
 f2:Int
 f3:Int
 f4:Int
def z78:S78:=⟨[],(0:Int),(0:Int),(0:Int),(0:Int)⟩
structure S80 where
 f0:List UInt8
 f1:Int
 f2:Bool
def z80:S80:=⟨[],(0:Int),false⟩
def N:Nat→Type:=fun i=>match i with
 | 72=>S72
 | 111=>S111
 | 53=>S53
 | 64=>S64
 | 66=>S66
 | 87=>S87
 | 75=>S75
 | 78=>S78
 | 80=>S80
 | _=>Unit
def enc72 (x:S72):List (PV N):=[.int .i64 x.f0,.int .i64 x.f1,.vsl none (.int .i64) x.f2,.int .u64 x.f3,.int .i64 x.f4]
def dec72:List (PV N)→Option S72
 | [v0,v1,v2,v3,v4]=>(decI .i64 v0).bind fun x0=>(decI .i64 v1).bind fun x1=>(decL (.int .i64) v2).bind fun x2=>(decI .u64 v3).bind fun x3=>(decI .i64 v4).bind fun x4=>some ⟨x0,x1,x2,x3,x4⟩
 | _=>none
theorem dec72_ok {x:S72} {cs:List (PV N)} (h:dec72 cs=some x) {E:Enc N} {S:Stab} {w:World} {ρ : Rho} {vs:List Value} (hv:VRs E S w ρ cs vs):VRs E S w noRho (enc72 x) vs:=by
 unfold dec72 at h
 split at h
 ·obtain ⟨x0,h0,h⟩:=Option.bind_eq_some_iff.1 h
  obtain ⟨x1,h1,h⟩:=Option.bind_eq_some_iff.1 h
  obtain ⟨x2,h2,h⟩:=Option.bind_eq_some_iff.1 h
  obtain ⟨x3,h3,h⟩:=Option.bind_eq_some_iff.1 h
  obtain ⟨x4,h4,h⟩:=Option.bind_eq_some_iff.1 h
  injection h with h;subst h
  rcases hv with _ | ⟨_,_,_,_,g0,hv⟩;rcases hv with _ | ⟨_,_,_,_,g1,hv⟩;rcases hv with _ | ⟨_,_,_,_,g2,hv⟩;rcases hv with _ | ⟨_,_,_,_,g3,hv⟩;rcases hv with _ | ⟨_,_,_,_,g4,hv⟩;cases hv
  exact .cons _ _ _ _ (decI_VR h0 g0) (.cons _ _ _ _ (decI_VR h1 g1) (.cons _ _ _ _ (decL_VR h2 g2) (.cons _ _ _ _ (decI_VR h3 g3) (.cons _ _ _ _ (decI_VR h4 g4) (.nil)))))
 ·exact absurd h (by simp)
def enc111 (x:S111):List (PV N):=[.int .i64 x.f0,.vsl none (.int .i64) x.f1]
def dec111:List (PV N)→Option S111
 | [v0,v1]=>(decI .i64 v0).bind fun x0=>(decL (.int .i64) v1).bind fun x1=>some ⟨x0,x1⟩
 | _=>none
theorem dec111_ok {x:S111} {cs:List (PV N)} (h:dec111 cs=some x) {E:Enc N} {S:Stab} {w:World} {ρ : Rho} {vs:List Value} (hv:VRs E S w ρ cs vs):VRs E S w noRho (enc111 x) vs:=by
 unfold dec111 at h
 split at h
 ·obtain ⟨x0,h0,h⟩:=Option.bind_eq_some_iff.1 h
  obtain ⟨x1,h1,h⟩:=Option.bind_eq_some_iff.1 h
  injection h with h;subst h
  rcases hv with _ | ⟨_,_,_,_,g0,hv⟩;rcases hv with _ | ⟨_,_,_,_,g1,hv⟩;cases hv
  exact .cons _ _ _ _ (decI_VR h0 g0) (.cons _ _ _ _ (decL_VR h1 g1) (.nil))
 ·exact absurd h (by simp)
def enc53 (x:S53):List (PV N):=[.vsl none (.int .i64) x.f0,.vsl none (.named 72) x.f1,.int .i64 x.f2,.int .i64 x.f3,.vsl none (.named 111) x.f4,.vsl none (.int .i64) x.f5,.int .i64 x.f6,.int .i64 x.f7,.int .i64 x.f8]
def dec53:List (PV N)→Option S53
 | [v0,v1,v2,v3,v4,v5,v6,v7,v8]=>(decL (.int .i64) v0).bind fun x0=>(decL (.named 72) v1).bind fun x1=>(decI .i64 v2).bind fun x2=>(decI .i64 v3).bind fun x3=>(decL (.named 111) v4).bind fun x4=>(decL (.int .i64) v5).bind fun x5=>(decI .i64 v6).bind fun x6=>(decI .i64 v7).bind fun x7=>(decI .i64 v8).bind fun x8=>some ⟨x0,x1,x2,x3,x4,x5,x6,x7,x8⟩
 | _=>none
theorem dec53_ok {x:S53} {cs:List (PV N)} (h:dec53 cs=some x) {E:Enc N} {S:Stab} {w:World} {ρ : Rho} {vs:List Value} (hv:VRs E S w ρ cs vs):VRs E S w noRho (enc53 x) vs:=by
 unfold dec53 at h
 split at h
 ·obtain ⟨x0,h0,h⟩:=Option.bind_eq_some_iff.1 h
  obtain ⟨x1,h1,h⟩:=Option.bind_eq_some_iff.1 h
  obtain ⟨x2,h2,h⟩:=Option.bind_eq_some_iff.1 h
  obtain ⟨x3,h3,h⟩:=Option.bind_eq_some_iff.1 h
  obtain ⟨x4,h4,h⟩:=Option.bind_eq_some_iff.1 h
  obtain ⟨x5,h5,h⟩:=Option.bind_eq_some_iff.1 h
  obtain ⟨x6,h6,h⟩:=Option.bind_eq_some_iff.1 h
  obtain ⟨x7,h7,h⟩:=Option.bind_eq_some_iff.1 h
  obtain ⟨x8,h8,h⟩:=Option.bind_eq_some_iff.1 h
  injection h with h;subst h
  rcases hv with _ | ⟨_,_,_,_,g0,hv⟩;rcases hv with _ | ⟨_,_,_,_,g1,hv⟩;rcases hv with _ | ⟨_,_,_,_,g2,hv⟩;rcases hv with _ | ⟨_,_,_,_,g3,hv⟩;rcases hv with _ | ⟨_,_,_,_,g4,hv⟩;rcases hv with _ | ⟨_,_,_,_,g5,hv⟩;rcases hv with _ | ⟨_,_,_,_,g6,hv⟩;rcases hv with _ | ⟨_,_,_,_,g7,hv⟩;rcases hv with _ | ⟨_,_,_,_,g8,hv⟩;cases hv
  exact .cons _ _ _ _ (decL_VR h0 g0) (.cons _ _ _ _ (decL_VR h1 g1) (.cons _ _ _ _ (decI_VR h2 g2) (.cons _ _ _ _ (decI_VR h3 g3) (.cons _ _ _ _ (decL_VR h4 g4) (.cons _ _ _ _ (decL_VR h5 g5) (.cons _ _ _ _ (decI_VR h6 g6) (.cons _ _ _ _ (decI_VR h7 g7) (.cons _ _ _ _ (decI_VR h8 g8) (.nil)))))))))
 ·exact absurd h (by simp)
def enc64 (x:S64):List (PV N):=[.int .i64 x.f0,.int .i64 x.f1,.int .i64 x.f2,.int .i64 x.f3]
def dec64:List (PV N)→Option S64
 | [v0,v1,v2,v3]=>(decI .i64 v0).bind fun x0=>(decI .i64 v1).bind fun x1=>(decI .i64 v2).bind fun x2=>(decI .i64 v3).bind fun x3=>some ⟨x0,x1,x2,x3⟩
 | _=>none
theorem dec64_ok {x:S64} {cs:List (PV N)} (h:dec64 cs=some x) {E:Enc N} {S:Stab} {w:World} {ρ : Rho} {vs:List Value} (hv:VRs E S w ρ cs vs):VRs E S w noRho (enc64 x) vs:=by
 unfold dec64 at h
 split at h
 ·obtain ⟨x0,h0,h⟩:=Option.bind_eq_some_iff.1 h
  obtain ⟨x1,h1,h⟩:=Option.bind_eq_some_iff.1 h
  obtain ⟨x2,h2,h⟩:=Option.bind_eq_some_iff.1 h
  obtain ⟨x3,h3,h⟩:=Option.bind_eq_some_iff.1 h
  injection h with h;subst h
  rcases hv with _ | ⟨_,_,_,_,g0,hv⟩;rcases hv with _ | ⟨_,_,_,_,g1,hv⟩;rcases hv with _ | ⟨_,_,_,_,g2,hv⟩;rcases hv with _ | ⟨_,_,_,_,g3,hv⟩;cases hv
  exact .cons _ _ _ _ (decI_VR h0 g0) (.cons _ _ _ _ (decI_VR h1 g1) (.cons _ _ _ _ (decI_VR h2 g2) (.cons _ _ _ _ (decI_VR h3 g3) (.nil))))
 ·exact absurd h (by simp)
def enc66 (x:S66):List (PV N):=[.int .u8 x.f0,.int .u8 x.f1]
def dec66:List (PV N)→Option S66
 | [v0,v1]=>(decI .u8 v0).bind fun x0=>(decI .u8 v1).bind fun x1=>some ⟨x0,x1⟩
 | _=>none
theorem dec66_ok {x:S66} {cs:List (PV N)} (h:dec66 cs=some x) {E:Enc N} {S:Stab} {w:World} {ρ : Rho} {vs:List Value} (hv:VRs E S w ρ cs vs):VRs E S w noRho (enc66 x) vs:=by
 unfold dec66 at h
 split at h
 ·obtain ⟨x0,h0,h⟩:=Option.bind_eq_some_iff.1 h
  obtain ⟨x1,h1,h⟩:=Option.bind_eq_some_iff.1 h
  injection h with h;subst h
  rcases hv with _ | ⟨_,_,_,_,g0,hv⟩;rcases hv with _ | ⟨_,_,_,_,g1,hv⟩;cases hv
  exact .cons _ _ _ _ (decI_VR h0 g0) (.cons _ _ _ _ (decI_VR h1 g1) (.nil))
 ·exact absurd h (by simp)
def enc87 (x:S87):List (PV N):=[.int .u8 x.f0,.int .u8 x.f1,.int .u8 x.f2,.int .u8 x.f3,.int .u8 x.f4,.int .u64 x.f5]
def dec87:List (PV N)→Option S87
 | [v0,v1,v2,v3,v4,v5]=>(decI .u8 v0).bind fun x0=>(decI .u8 v1).bind fun x1=>(decI .u8 v2).bind fun x2=>(decI .u8 v3).bind fun x3=>(decI .u8 v4).bind fun x4=>(decI .u64 v5).bind fun x5=>some ⟨x0,x1,x2,x3,x4,x5⟩
 | _=>none
theorem dec87_ok {x:S87} {cs:List (PV N)} (h:dec87 cs=some x) {E:Enc N} {S:Stab} {w:World} {ρ : Rho} {vs:List Value} (hv:VRs E S w ρ cs vs):VRs E S w noRho (enc87 x) vs:=by
 unfold dec87 at h
 split at h
 ·obtain ⟨x0,h0,h⟩:=Option.bind_eq_some_iff.1 h
  obtain ⟨x1,h1,h⟩:=Option.bind_eq_some_iff.1 h
  obtain ⟨x2,h2,h⟩:=Option.bind_eq_some_iff.1 h
  obtain ⟨x3,h3,h⟩:=Option.bind_eq_some_iff.1 h
  obtain ⟨x4,h4,h⟩:=Option.bind_eq_some_iff.1 h
  obtain ⟨x5,h5,h⟩:=Option.bind_eq_some_iff.1 h
  injection h with h;subst h
  rcases hv with _ | ⟨_,_,_,_,g0,hv⟩;rcases hv with _ | ⟨_,_,_,_,g1,hv⟩;rcases hv with _ | ⟨_,_,_,_,g2,hv⟩;rcases hv with _ | ⟨_,_,_,_,g3,hv⟩;rcases hv with _ | ⟨_,_,_,_,g4,hv⟩;rcases hv with _ | ⟨_,_,_,_,g5,hv⟩;cases hv
  exact .cons _ _ _ _ (decI_VR h0 g0) (.cons _ _ _ _ (decI_VR h1 g1) (.cons _ _ _ _ (decI_VR h2 g2) (.cons _ _ _ _ (decI_VR h3 g3) (.cons _ _ _ _ (decI_VR h4 g4) (.cons _ _ _ _ (decI_VR h5 g5) (.nil))))))
 ·exact absurd h (by simp)
def enc75 (x:S75):List (PV N):=[.vsl none (.int .u8) x.f0,.vsl none (.named 87) x.f1,.int .u8 x.f2,.int .u8 x.f3,.int .u8 x.f4,.int .u8 x.f5,.bool x.f6]
def dec75:List (PV N)→Option S75
 | [v0,v1,v2,v3,v4,v5,v6]=>(decL (.int .u8) v0).bind fun x0=>(decL (.named 87) v1).bind fun x1=>(decI .u8 v2).bind fun x2=>(decI .u8 v3).bind fun x3=>(decI .u8 v4).bind fun x4=>(decI .u8 v5).bind fun x5=>(decB v6).bind fun x6=>some ⟨x0,x1,x2,x3,x4,x5,x6⟩
 | _=>none
theorem dec75_ok {x:S75} {cs:List (PV N)} (h:dec75 cs=some x) {E:Enc N} {S:Stab} {w:World} {ρ : Rho} {vs:List Value} (hv:VRs E S w ρ cs vs):VRs E S w noRho (enc75 x) vs:=by
 unfold dec75 at h
 split at h
 ·obtain ⟨x0,h0,h⟩:=Option.bind_eq_some_iff.1 h
  obtain ⟨x1,h1,h⟩:=Option.bind_eq_some_iff.1 h
  obtain ⟨x2,h2,h⟩:=Option.bind_eq_some_iff.1 h
  obtain ⟨x3,h3,h⟩:=Option.bind_eq_some_iff.1 h
  obtain ⟨x4,h4,h⟩:=Option.bind_eq_some_iff.1 h
  obtain ⟨x5,h5,h⟩:=Option.bind_eq_some_iff.1 h
  obtain ⟨x6,h6,h⟩:=Option.bind_eq_some_iff.1 h
  injection h with h;subst h
  rcases hv with _ | ⟨_,_,_,_,g0,hv⟩;rcases hv with _ | ⟨_,_,_,_,g1,hv⟩;rcases hv with _ | ⟨_,_,_,_,g2,hv⟩;rcases hv with _ | ⟨_,_,_,_,g3,hv⟩;rcases hv with _ | ⟨_,_,_,_,g4,hv⟩;rcases hv with _ | ⟨_,_,_,_,g5,hv⟩;rcases hv with _ | ⟨_,_,_,_,g6,hv⟩;cases hv
  exact .cons _ _ _ _ (decL_VR h0 g0) (.cons _ _ _ _ (decL_VR h1 g1) (.cons _ _ _ _ (decI_VR h2 g2) (.cons _ _ _ _ (decI_VR h3 g3) (.cons _ _ _ _ (decI_VR h4 g4) (.cons _ _ _ _ (decI_VR h5 g5) (.cons _ _ _ _ (decB_VR h6 g6) (.nil)))))))
 ·exact absurd h (by simp)
def enc78 (x:S78):List (PV N):=[.str x.f0,.int .i64 x.f1,.int .i64 x.f2,.int .i64 x.f3,.int .i64 x.f4]
def dec78:List (PV N)→Option S78
 | [v0,v1,v2,v3,v4]=>(decS v0).bind fun x0=>(decI .i64 v1).bind fun x1=>(decI .i64 v2).bind fun x2=>(decI .i64 v3).bind fun x3=>(decI .i64 v4).bind fun x4=>some ⟨x0,x1,x2,x3,x4⟩
 | _=>none
theorem dec78_ok {x:S78} {cs:List (PV N)} (h:dec78 cs=some x) {E:Enc N} {S:Stab} {w:World} {ρ : Rho} {vs:List Value} (hv:VRs E S w ρ cs vs):VRs E S w noRho (enc78 x) vs:=by
 unfold dec78 at h
 split at h
 ·obtain ⟨x0,h0,h⟩:=Option.bind_eq_some_iff.1 h
  obtain ⟨x1,h1,h⟩:=Option.bind_eq_some_iff.1 h
  obtain ⟨x2,h2,h⟩:=Option.bind_eq_some_iff.1 h
  obtain ⟨x3,h3,h⟩:=Option.bind_eq_some_iff.1 h
  obtain ⟨x4,h4,h⟩:=Option.bind_eq_some_iff.1 h
  injection h with h;subst h
  rcases hv with _ | ⟨_,_,_,_,g0,hv⟩;rcases hv with _ | ⟨_,_,_,_,g1,hv⟩;rcases hv with _ | ⟨_,_,_,_,g2,hv⟩;rcases hv with _ | ⟨_,_,_,_,g3,hv⟩;rcases hv with _ | ⟨_,_,_,_,g4,hv⟩;cases hv
  exact .cons _ _ _ _ (decS_VR h0 g0) (.cons _ _ _ _ (decI_VR h1 g1) (.cons _ _ _ _ (decI_VR h2 g2) (.cons _ _ _ _ (decI_VR h3 g3) (.cons _ _ _ _ (decI_VR h4 g4) (.nil)))))
 ·exact absurd h (by simp)
def enc80 (x:S80):List (PV N):=[.str x.f0,.int .i64 x.f1,.bool x.f2]
def dec80:List (PV N)→Option S80
 | [v0,v1,v2]=>(decS v0).bind fun x0=>(decI .i64 v1).bind fun x1=>(decB v2).bind fun x2=>some ⟨x0,x1,x2⟩
 | _=>none
theorem dec80_ok {x:S80} {cs:List (PV N)} (h:dec80 cs=some x) {E:Enc N} {S:Stab} {w:World} {ρ : Rho} {vs:List Value} (hv:VRs E S w ρ cs vs):VRs E S w noRho (enc80 x) vs:=by
 unfold dec80 at h
 split at h
 ·obtain ⟨x0,h0,h⟩:=Option.bind_eq_some_iff.1 h
  obtain ⟨x1,h1,h⟩:=Option.bind_eq_some_iff.1 h
  obtain ⟨x2,h2,h⟩:=Option.bind_eq_some_iff.1 h
  injection h with h;subst h
  rcases hv with _ | ⟨_,_,_,_,g0,hv⟩;rcases hv with _ | ⟨_,_,_,_,g1,hv⟩;rcases hv with _ | ⟨_,_,_,_,g2,hv⟩;cases hv
  exact .cons _ _ _ _ (decS_VR h0 g0) (.cons _ _ _ _ (decI_VR h1 g1) (.cons _ _ _ _ (decB_VR h2 g2) (.nil)))
 ·exact absurd h (by simp)
theorem neN (i:Nat):Nonempty (N i):=by
 unfold N;split <;> first | exact ⟨z72⟩ | exact ⟨z111⟩ | exact ⟨z53⟩ | exact ⟨z64⟩ | exact ⟨z66⟩ | exact ⟨z87⟩ | exact ⟨z75⟩ | exact ⟨z78⟩ | exact ⟨z80⟩ | exact ⟨()⟩
noncomputable def zN:(i:Nat)→N i
 | 72=>z72
 | 111=>z111
 | 53=>z53
 | 64=>z64
 | 66=>z66
 | 87=>z87
 | 75=>z75
 | 78=>z78
 | 80=>z80
 | n=>Classical.choice (neN n)
noncomputable def E:Enc N where
 enc:=fun i=>match i with
  | 72=>fun x=>enc72 x
  | 111=>fun x=>enc111 x
  | 53=>fun x=>enc53 x
  | 64=>fun x=>enc64 x
  | 66=>fun x=>enc66 x
  | 87=>fun x=>enc87 x
  | 75=>fun x=>enc75 x
  | 78=>fun x=>enc78 x
  | 80=>fun x=>enc80 x
  | _=>fun _=>[]
 dec:=fun i cs=>if h:i=72 then @Eq.rec Nat 72 (fun j _=>Option (N j)) (dec72 cs) i h.symm else if h:i=111 then @Eq.rec Nat 111 (fun j _=>Option (N j)) (dec111 cs) i h.symm else if h:i=53 then @Eq.rec Nat 53 (fun j _=>Option (N j)) (dec53 cs) i h.symm else if h:i=64 then @Eq.rec Nat 64 (fun j _=>Option (N j)) (dec64 cs) i h.symm else if h:i=66 then @Eq.rec Nat 66 (fun j _=>Option (N j)) (dec66 cs) i h.symm else if h:i=87 then @Eq.rec Nat 87 (fun j _=>Option (N j)) (dec87 cs) i h.symm else if h:i=75 then @Eq.rec Nat 75 (fun j _=>Option (N j)) (dec75 cs) i h.symm else if h:i=78 then @Eq.rec Nat 78 (fun j _=>Option (N j)) (dec78 cs) i h.symm else if h:i=80 then @Eq.rec Nat 80 (fun j _=>Option (N j)) (dec80 cs) i h.symm else none
 z:=zN
 size:=fun i=>match i with
  | 72=>5
  | 111=>2
  | 53=>9
  | 64=>4
  | 66=>2
  | 87=>6
  | 75=>7
  | 78=>5
  | 80=>3
  | _=>0
theorem E_dec (i:Nat) (n72:i≠72) (n111:i≠111) (n53:i≠53) (n64:i≠64) (n66:i≠66) (n87:i≠87) (n75:i≠75) (n78:i≠78) (n80:i≠80) (cs:List (PV N)):E.dec i cs=none:=by
 unfold E;dsimp only;rw [dif_neg n72,dif_neg n111,dif_neg n53,dif_neg n64,dif_neg n66,dif_neg n87,dif_neg n75,dif_neg n78,dif_neg n80]
theorem E_enc (i:Nat) (n72:i≠72) (n111:i≠111) (n53:i≠53) (n64:i≠64) (n66:i≠66) (n87:i≠87) (n75:i≠75) (n78:i≠78) (n80:i≠80) (x:N i):E.enc i x = []∧E.size i=0:=by
 unfold E;dsimp only;refine ⟨?_,?_⟩ <;> split <;> first | contradiction | rfl
theorem encOK:EncOK E where
 dec:=by
  intro i cs x h S w ρ vs hv
  by_cases n72:i=72
  ·subst n72;exact dec72_ok h hv
  by_cases n111:i=111
  ·subst n111;exact dec111_ok h hv
  by_cases n53:i=53
  ·subst n53;exact dec53_ok h hv
  by_cases n64:i=64
  ·subst n64;exact dec64_ok h hv
  by_cases n66:i=66
  ·subst n66;exact dec66_ok h hv
  by_cases n87:i=87
  ·subst n87;exact dec87_ok h hv
  by_cases n75:i=75
  ·subst n75;exact dec75_ok h hv
  by_cases n78:i=78
  ·subst n78;exact dec78_ok h hv
  by_cases n80:i=80
  ·subst n80;exact dec80_ok h hv
  rw [E_dec i n72 n111 n53 n64 n66 n87 n75 n78 n80] at h;exact absurd h (by simp)
 size:=by
  intro i x
  by_cases n72:i=72
  ·subst n72;exact rfl
  by_cases n111:i=111
  ·subst n111;exact rfl
  by_cases n53:i=53
  ·subst n53;exact rfl
  by_cases n64:i=64
  ·subst n64;exact rfl
  by_cases n66:i=66
  ·subst n66;exact rfl
  by_cases n87:i=87
  ·subst n87;exact rfl
  by_cases n75:i=75
  ·subst n75;exact rfl
  by_cases n78:i=78
  ·subst n78;exact rfl
  by_cases n80:i=80
  ·subst n80;exact rfl
  rw [(E_enc i n72 n111 n53 n64 n66 n87 n75 n78 n80 x).1,(E_enc i n72 n111 n53 n64 n66 n87 n75 n78 n80 x).2];rfl
 cell:=by
  intro i x
  by_cases n72:i=72
  ·subst n72;exact rfl
  by_cases n111:i=111
  ·subst n111;exact rfl
  by_cases n53:i=53
  ·subst n53;exact rfl
  by_cases n64:i=64
  ·subst n64;exact rfl
  by_cases n66:i=66
  ·subst n66;exact rfl
  by_cases n87:i=87
  ·subst n87;exact rfl
  by_cases n75:i=75
  ·subst n75;exact rfl
  by_cases n78:i=78
  ·subst n78;exact rfl
  by_cases n80:i=80
  ·subst n80;exact rfl
  rw [(E_enc i n72 n111 n53 n64 n66 n87 n75 n78 n80 x).1];rfl
def tcT:TypeId→Option TC:=fun t=>match t with
 | 3=>some (.int .i64)
 | 4=>some .bool
 | 5=>some (.int .u8)
 | 9=>some .str
 | 22=>some (.list (.int .u8))
 | 23=>some (.list (.named 66))
 | 24=>some (.list (.named 75))
 | 29=>some (.list (.int .i64))
 | 30=>some (.list (.named 78))
 | 31=>some (.list (.named 80))
 | 32=>some (.list (.named 53))
 | 48=>some (.list (.named 72))
 | 49=>some (.list (.named 111))
 | 53=>some (.named 53)
 | 57=>some (.int .u16)
 | 64=>some (.named 64)
 | 66=>some (.named 66)
 | 70=>some (.int .u64)
 | 72=>some (.named 72)
 | 73=>some (.list (.named 87))
 | 75=>some (.named 75)
 | 78=>some (.named 78)
 | 80=>some (.named 80)
 | 87=>some (.named 87)
 | 111=>some (.named 111)
 | _=>none
def zvT:TypeId→List (PV N):=fun t=>match t with
 | 3=>[.int .i64 (0:Int)]
 | 4=>[.bool false]
 | 29=>[.vsl (some 3) (.int .i64) []]
 | 34=>[.str [],.vsl (some 3) (.int .i64) [],.vsl (some 78) (.named 78) [],.vsl (some 80) (.named 80) [],.vsl (some 3) (.int .i64) [],.vsl (some 53) (.named 53) []]
 | 41=>[.int .i64 (0:Int),.vsl (some 3) (.int .i64) []]
 | 44=>[.int .i64 (0:Int),.int .i64 (0:Int),.int .i64 (0:Int)]
 | 51=>[.int .i64 (0:Int),.int .i64 (0:Int),.vsl (some 111) (.named 111) [],.vsl (some 3) (.int .i64) []]
 | 53=>[.vsl (some 3) (.int .i64) [],.vsl (some 72) (.named 72) [],.int .i64 (0:Int),.int .i64 (0:Int),.vsl (some 111) (.named 111) [],.vsl (some 3) (.int .i64) [],.int .i64 (0:Int),.int .i64 (0:Int),.int .i64 (0:Int)]
 | 64=>[.int .i64 (0:Int),.int .i64 (0:Int),.int .i64 (0:Int),.int .i64 (0:Int)]
 | 72=>[.int .i64 (0:Int),.int .i64 (0:Int),.vsl (some 3) (.int .i64) [],.int .u64 (0:Int),.int .i64 (0:Int)]
 | 95=>[.int .i64 (0:Int),.int .i64 (0:Int),.int .i64 (0:Int),.vsl (some 4) .bool [],.vsl (some 3) (.int .i64) [],.vsl (some 29) (.list (.int .i64)) []]
 | 103=>[.int .i64 (0:Int),.int .i64 (0:Int),.int .i64 (0:Int),.int .i64 (0:Int),.int .i64 (0:Int),.int .i64 (0:Int)]
 | _=>[]
def annT:FuncId→Nat→Option Ann:=fun f r=>match f,r with
 | 3,10=>some ⟨[7,8,9,10,11,44,45],[],[]⟩
 | 5,7=>some ⟨[5,6,7,28,29],[],[]⟩
 | 6,12=>some ⟨[7,9,10,12,65,66],[],[]⟩
 | 7,12=>some ⟨[7,8,9,10,11,13,51,52],[],[]⟩
 | 8,12=>some ⟨[10,12,14,66,67],[],[]⟩
 | 8,14=>some ⟨[10,12,14,15,66,67],[],[]⟩
 | 10,2=>some ⟨[1,3],[],[]⟩
 | 13,4=>some ⟨[2,7,8,9],[],[]⟩
 | 13,8=>some ⟨[2,7,8,9,10,11],[],[]⟩
 | 15,4=>some ⟨[1,2,3,7,8,9],[],[]⟩
 | 15,8=>some ⟨[1,2,3,7,8,9,10,11],[],[]⟩
 | 16,9=>some ⟨[6,7,8,9,10,11,12,40,41,42],[],[]⟩
 | 16,18=>some ⟨[6,8,11,15],[],[]⟩
 | 18,5=>some ⟨[2,4,7,10,11,12],[],[]⟩
 | 19,5=>some ⟨[7,8,9,10],[],[]⟩
 | 21,4=>some ⟨[1,3,4,5],[],[]⟩
 | 21,7=>some ⟨[1,3,4,5,6],[],[]⟩
 | 22,9=>some ⟨[8,9,10,43,44],[],[]⟩
 | 22,14=>some ⟨[8,9,10,11,12,43,44,58,59],[],[]⟩
 | 22,19=>some ⟨[8,9,10,11,12,13,43,44,58,59],[],[]⟩
 | 22,20=>some ⟨[8,9,10,11,12,13,43,44,58,59,80,81,82],[],[]⟩
 | 23,4=>some ⟨[1,2,3,7,8,9],[],[]⟩
 | 23,8=>some ⟨[1,2,3,7,8,9,10,11],[],[]⟩
 | 27,4=>some ⟨[2,3,5],[],[]⟩
 | 29,5=>some ⟨[2,4,6,7,29,30,31],[],[]⟩
 | 29,13=>some ⟨[2,4,6,7,8,9,13,29,30,31,67,68,69],[],[]⟩
 | 30,4=>some ⟨[1,2,4,5,16,17],[],[]⟩
 | 30,10=>some ⟨[1,2,4,5,6,16,17,39,40,41],[],[]⟩
 | 31,4=>some ⟨[2,3,4,9,10,11],[],[]⟩
 | 31,9=>some ⟨[2,3,4,9,10,11],[],[]⟩
 | 31,10=>some ⟨[2,3,4,9,10,11,12],[],[]⟩
 | 33,3=>some ⟨[3,7,8,9],[],[]⟩
 | 36,3=>some ⟨[1,3,4],[],[]⟩
 | 39,4=>some ⟨[1,3,4,13,14,15],[],[]⟩
 | 39,7=>some ⟨[1,3,4,13,14,15,20,21,22],[],[]⟩
 | 49,1011=>some ⟨[0,4,6,7,8,9,32,33],[],[]⟩
 | 49,1018=>some ⟨[0,4,6,7,8,9,32,68],[],[]⟩
 | 49,1021=>some ⟨[0,4,6,7,8,9,32,78],[],[]⟩
 | 49,1024=>some ⟨[0,4,6,7,8,9,32,93],[],[]⟩
 | 49,1029=>some ⟨[0,4,6,7,9,32,116],[],[]⟩
 | 49,1038=>some ⟨[0,4,6,9,159],[],[]⟩
 | 51,3=>some ⟨[0,3,4],[],[]⟩
 | 54,1010=>some ⟨[0,1,4,5,6,12,41],[],[]⟩
 | 54,1013=>some ⟨[0,1,4,5,6,12,48],[],[]⟩
 | 54,1018=>some ⟨[0,1,4,5,6,12,77],[],[]⟩
 | 54,1021=>some ⟨[0,1,4,6,12,87],[],[]⟩
 | 54,1024=>some ⟨[0,1,4,6,12,102],[],[]⟩
 | 54,1033=>some ⟨[0,1,4,137],[],[]⟩
 | 57,13=>some ⟨[2,3],[],[]⟩
 | 57,1008=>some ⟨[2,3,6,7],[],[]⟩
 | _,_=>none
def finT:FuncId→Ann:=fun f=>match f with
 | 3=>⟨[],[0],[]⟩
 | 4=>⟨[],[0],[]⟩
 | 5=>⟨[],[0],[]⟩
 | 6=>⟨[],[0],[]⟩
 | 7=>⟨[],[0],[]⟩
 | 8=>⟨[],[0],[]⟩
 | 9=>⟨[],[0],[]⟩
 | 10=>⟨[],[0],[]⟩
 | 12=>⟨[],[0],[]⟩
 | 13=>⟨[],[],[]⟩
 | 14=>⟨[],[0],[]⟩
 | 15=>⟨[],[0],[]⟩
 | 16=>⟨[],[0],[]⟩
 | 17=>⟨[],[0],[]⟩
 | 18=>⟨[],[0],[]⟩
 | 19=>⟨[],[0],[]⟩
 | 20=>⟨[],[0],[]⟩
 | 21=>⟨[],[0],[]⟩
 | 22=>⟨[],[0,1],[]⟩
 | 23=>⟨[],[0],[]⟩
 | 27=>⟨[],[0],[]⟩
 | 28=>⟨[],[0],[]⟩
 | 29=>⟨[],[0],[]⟩
 | 30=>⟨[],[0,1],[]⟩
 | 31=>⟨[],[],[]⟩
 | 32=>⟨[],[0],[]⟩
 | 33=>⟨[],[0],[]⟩
 | 35=>⟨[],[0],[]⟩
 | 36=>⟨[],[0],[]⟩
 | 37=>⟨[],[0],[]⟩
 | 38=>⟨[],[0],[]⟩
 | 39=>⟨[],[0],[]⟩
 | 42=>⟨[],[0],[]⟩
 | 44=>⟨[],[0],[]⟩
 | 48=>⟨[],[0],[]⟩
 | 49=>⟨[],[0,1],[]⟩
 | 50=>⟨[],[0],[]⟩
 | 51=>⟨[],[0],[]⟩
 | 52=>⟨[],[0],[]⟩
 | 53=>⟨[],[0],[]⟩
 | 54=>⟨[],[0],[]⟩
 | 57=>⟨[],[0],[]⟩
 | 59=>⟨[],[0],[]⟩
 | _=>⟨[],[],[]⟩
def ownT:FuncId→List Nat:=fun f=>match f with
 | _=>[]
def sigT:FuncId→Nat→Option Sig:=fun f n=>match f,n with
 | 3,0=>some ⟨[.val .bool],[]⟩
 | 4,0=>some ⟨[.val .bool],[]⟩
 | 5,0=>some ⟨[.val .bool],[]⟩
 | 6,0=>some ⟨[.val .bool],[]⟩
 | 7,0=>some ⟨[.val .bool],[]⟩
 | 8,0=>some ⟨[.val .bool],[]⟩
 | 9,0=>some ⟨[.val .bool],[]⟩
 | 10,0=>some ⟨[.val .bool],[]⟩
 | 11,0=>some ⟨[.agg [.str,.list (.int .i64),.list (.named 78),.list (.named 80),.list (.int .i64),.list (.named 53)]],[]⟩
 | 12,0=>some ⟨[.val (.int .i64)],[]⟩
 | 13,0=>some ⟨[.sl 0],[.row 0 3 (.int .i64)]⟩
 | 14,0=>some ⟨[.val (.list (.int .i64))],[]⟩
 | 15,0=>some ⟨[.val (.list (.int .i64))],[]⟩
 | 16,0=>some ⟨[.agg [.int .i64,.list (.int .i64)]],[]⟩
 | 17,0=>some ⟨[.agg [.int .i64,.int .i64,.int .i64]],[]⟩
 | 18,0=>some ⟨[.val .bool],[]⟩
 | 19,0=>some ⟨[.val (.int .i64)],[]⟩
 | 20,0=>some ⟨[.val .bool],[]⟩
 | 21,0=>some ⟨[.val (.int .i64)],[]⟩
 | 22,0=>some ⟨[.val (.list (.named 64)),.val (.int .i64)],[]⟩
 | 23,0=>some ⟨[.val (.list (.named 64))],[]⟩
 | 27,0=>some ⟨[.val .bool],[]⟩
 | 28,0=>some ⟨[.val .bool],[]⟩
 | 29,0=>some ⟨[.agg [.int .i64,.int .i64,.int .i64,.list .bool,.list (.int .i64),.list (.list (.int .i64))]],[]⟩
 | 30,0=>some ⟨[.val (.list (.int .i64)),.val (.list (.int .i64))],[]⟩
 | 31,0=>some ⟨[.sl 0],[.row 0 3 (.int .i64)]⟩
 | 32,0=>some ⟨[.agg [.int .i64,.int .i64,.int .i64]],[]⟩
 | 33,0=>some ⟨[.val (.int .i64)],[]⟩
 | 35,0=>some ⟨[.agg [.int .i64,.int .i64,.int .i64]],[]⟩
 | 36,0=>some ⟨[.val (.int .i64)],[]⟩
 | 37,0=>some ⟨[.val .bool],[]⟩
 | 38,0=>some ⟨[.agg [.int .i64,.int .i64,.int .i64,.int .i64,.int .i64,.int .i64]],[]⟩
 | 39,0=>some ⟨[.val (.int .i64)],[]⟩
 | 42,0=>some ⟨[.val .bool],[]⟩
 | 44,0=>some ⟨[.val .bool],[]⟩
 | 48,0=>some ⟨[.agg [.int .i64,.int .i64,.int .i64,.int .i64,.int .i64,.int .i64]],[]⟩
 | 49,0=>some ⟨[.agg [.int .i64,.int .i64,.int .i64,.int .i64,.int .i64,.int .i64],.val (.int .i64)],[]⟩
 | 50,0=>some ⟨[.val (.int .i64)],[]⟩
 | 51,0=>some ⟨[.val (.int .i64)],[]⟩
 | 52,0=>some ⟨[.val .bool],[]⟩
 | 53,0=>some ⟨[.val (.int .i64)],[]⟩
 | 54,0=>some ⟨[.agg [.int .i64,.int .i64,.int .i64,.int .i64,.int .i64,.int .i64]],[]⟩
 | 57,0=>some ⟨[.val (.int .i64)],[]⟩
 | 58,0=>some ⟨[.val (.int .i64)],[]⟩
 | 59,0=>some ⟨[.agg [.int .i64,.int .i64,.int .i64,.int .i64,.int .i64,.int .i64]],[]⟩
 | _,_=>none
def cutT:FuncId→Nat→Bool:=fun f r=>match f,r with
 | 22,19=>true
 | 31,9=>true
 | 49,1011=>true
 | 49,1018=>true
 | 49,1021=>true
 | 49,1024=>true
 | 49,1029=>true
 | 49,1038=>true
 | 54,1010=>true
 | 54,1013=>true
 | 54,1018=>true
 | 54,1021=>true
 | 54,1024=>true
 | 54,1033=>true
 | 57,13=>true
 | 57,1008=>true
 | _,_=>false
def inpT:FuncId→Option (Inp N):=fun f=>match f with
 | 34=>some ⟨.int .i64,fun (l:List Int)=>l.reverse⟩
 | _=>none
def xLen (args:List (PV N)) (hp:Heap N):Option (Ans N):=
 match args,hp with
 | [.int .u64 x],[]=>if 0≤x∧x≤18446744073709551615 then some ([.int .i64 (Lib.bitLen x.toNat:Nat)],[]) else none
 | _,_=>none
def i66 (x:S66):PAll.S66:=⟨x.f0,x.f1⟩
def i87 (x:S87):PAll.S87:=⟨x.f0,x.f1,x.f2,x.f3,x.f4,x.f5⟩
def i75 (x:S75):PAll.S75:=⟨x.f0,x.f1.map i87,x.f2,x.f3,x.f4,x.f5,x.f6⟩
def c72 (x:PAll.S72):S72:=⟨x.f0,x.f1,x.f2,x.f3,x.f4⟩
def c111 (x:PAll.S111):S111:=⟨x.f0,x.f1⟩
def c53 (x:PAll.S53):S53:=⟨x.f0,x.f1.map c72,x.f2.f0,x.f2.f1,x.f2.f2.map c111,x.f2.f3,x.f3,x.f4,x.f5⟩
def c78 (x:PAll.S78):S78:=⟨x.f0.data.toList,x.f1,x.f2,x.f3,x.f4⟩
def c80 (x:PAll.S80):S80:=⟨x.f0.data.toList,x.f1,x.f2⟩
def fewB (s0:List Int) (s1 s2:List S66) (s3:List Int) (s4:List S75):Bool:=
 decide (s0.length≤4)&&decide (s1.length≤3)&&decide (s2.length≤4)&&decide (s3.length≤3)&&decide (s4.length≤5)&&s4.all fun p=>decide (p.f0.length≤5)&&decide (p.f1.length≤14)
def pvFN (F:PAll.FN):PV N:=.agg [.str F.nm.data.toList,.vsl none (.int .i64) F.ws,.vsl none (.named 78) (F.ar.map c78),.vsl none (.named 80) (F.st.map c80),.vsl none (.int .i64) F.rt,.vsl none (.named 53) (F.bl.map c53)]
def xFunc (args:List (PV N)) (hp:Heap N):Option (Ans N):=
 match args,hp with
 | [.agg [.vsl none (.int .u8) s0,.vsl none (.named 66) s1,.vsl none (.named 66) s2,.vsl none (.int .u8) s3,.vsl none (.named 75) s4]],[]=>
  if fewB s0 s1 s2 s3 s4=true then (PAll.mkFunc 70 s0 (s1.map i66) (s2.map i66) s3 (s4.map i75)).map fun F=>([pvFN F],[]) else none
 | _,_=>none
def extT:FuncId→Option (List (PV N)→Heap N→Option (List (PV N) × Heap N)):=fun f=>match f with
 | 11=>some xFunc
 | 58=>some xLen
 | _=>none
def glT:List (Nat × (Value→Prop)):=[]
noncomputable def T:Tbl N:=⟨Go.Proofs.Try.prog,E,tcT,zvT,annT,finT,ownT,sigT,extT,inpT,cutT,glT⟩
def res9 {R:Type} (r:Ans N) (K:Bool→Option R):Option R:=nilR r.2 (consR r.1 (fun v1 q2=>asB v1 (fun x3=>nilR q2 (K x3))))
theorem res9_eq {R:Type} (x0:Bool) (K:Bool→Option R):res9 ([.bool x0],[]) K=K x0:=rfl
def res10 {R:Type} (r:Ans N) (K:Bool→Option R):Option R:=nilR r.2 (consR r.1 (fun v1 q2=>asB v1 (fun x3=>nilR q2 (K x3))))
theorem res10_eq {R:Type} (x0:Bool) (K:Bool→Option R):res10 ([.bool x0],[]) K=K x0:=rfl
def res11 {R:Type} (r:Ans N) (K:List UInt8→List Int→List S78→List S80→List Int→List S53→Option R):Option R:=nilR r.2 (consR r.1 (fun v1 q2=>asA v1 (fun q3=>consR q3 (fun v4 q5=>asS v4 (fun x6=>consR q5 (fun v7 q8=>asL (.int .i64) v7 (fun x9=>consR q8 (fun v10 q11=>asL (.named 78) v10 (fun x12=>consR q11 (fun v13 q14=>asL (.named 80) v13 (fun x15=>consR q14 (fun v16 q17=>asL (.int .i64) v16 (fun x18=>consR q17 (fun v19 q20=>asL (.named 53) v19 (fun x21=>nilR q20 (nilR q2 (K x6 x9 x12 x15 x18 x21)))))))))))))))))
theorem res11_eq {R:Type} (x0:List UInt8) (x1:List Int) (x2:List S78) (x3:List S80) (x4:List Int) (x5:List S53) (K:List UInt8→List Int→List S78→List S80→List Int→List S53→Option R):res11 ([.agg [.str x0,.vsl none (.int .i64) x1,.vsl none (.named 78) x2,.vsl none (.named 80) x3,.vsl none (.int .i64) x4,.vsl none (.named 53) x5]],[]) K=K x0 x1 x2 x3 x4 x5:=rfl
def res12 {R:Type} (r:Ans N) (K:Int→Option R):Option R:=nilR r.2 (consR r.1 (fun v1 q2=>asI .i64 v1 (fun x3=>nilR q2 (K x3))))
theorem res12_eq {R:Type} (x0:Int) (K:Int→Option R):res12 ([.int .i64 x0],[]) K=K x0:=rfl
def res21 {R:Type} (r:Ans N) (K:Int→Option R):Option R:=nilR r.2 (consR r.1 (fun v1 q2=>asI .i64 v1 (fun x3=>nilR q2 (K x3))))
theorem res21_eq {R:Type} (x0:Int) (K:Int→Option R):res21 ([.int .i64 x0],[]) K=K x0:=rfl
def res22 {R:Type} (r:Ans N) (K:List S64→Int→Option R):Option R:=nilR r.2 (consR r.1 (fun v1 q2=>asL (.named 64) v1 (fun x3=>consR q2 (fun v4 q5=>asI .i64 v4 (fun x6=>nilR q5 (K x3 x6))))))
theorem res22_eq {R:Type} (x0:List S64) (x1:Int) (K:List S64→Int→Option R):res22 ([.vsl none (.named 64) x0,.int .i64 x1],[]) K=K x0 x1:=rfl
def res29 {R:Type} (r:Ans N) (K:Int→Int→Int→List Bool→List Int→List (List Int)→Option R):Option R:=nilR r.2 (consR r.1 (fun v1 q2=>asA v1 (fun q3=>consR q3 (fun v4 q5=>asI .i64 v4 (fun x6=>consR q5 (fun v7 q8=>asI .i64 v7 (fun x9=>consR q8 (fun v10 q11=>asI .i64 v10 (fun x12=>consR q11 (fun v13 q14=>asL .bool v13 (fun x15=>consR q14 (fun v16 q17=>asL (.int .i64) v16 (fun x18=>consR q17 (fun v19 q20=>asL (.list (.int .i64)) v19 (fun x21=>nilR q20 (nilR q2 (K x6 x9 x12 x15 x18 x21)))))))))))))))))
theorem res29_eq {R:Type} (x0:Int) (x1:Int) (x2:Int) (x3:List Bool) (x4:List Int) (x5:List (List Int)) (K:Int→Int→Int→List Bool→List Int→List (List Int)→Option R):res29 ([.agg [.int .i64 x0,.int .i64 x1,.int .i64 x2,.vsl none .bool x3,.vsl none (.int .i64) x4,.vsl none (.list (.int .i64)) x5]],[]) K=K x0 x1 x2 x3 x4 x5:=rfl
def res32 {R:Type} (r:Ans N) (K:Int→Int→Int→Option R):Option R:=nilR r.2 (consR r.1 (fun v1 q2=>asA v1 (fun q3=>consR q3 (fun v4 q5=>asI .i64 v4 (fun x6=>consR q5 (fun v7 q8=>asI .i64 v7 (fun x9=>consR q8 (fun v10 q11=>asI .i64 v10 (fun x12=>nilR q11 (nilR q2 (K x6 x9 x12)))))))))))
theorem res32_eq {R:Type} (x0:Int) (x1:Int) (x2:Int) (K:Int→Int→Int→Option R):res32 ([.agg [.int .i64 x0,.int .i64 x1,.int .i64 x2]],[]) K=K x0 x1 x2:=rfl
def res33 {R:Type} (r:Ans N) (K:Int→Option R):Option R:=nilR r.2 (consR r.1 (fun v1 q2=>asI .i64 v1 (fun x3=>nilR q2 (K x3))))
theorem res33_eq {R:Type} (x0:Int) (K:Int→Option R):res33 ([.int .i64 x0],[]) K=K x0:=rfl
def res35 {R:Type} (r:Ans N) (K:Int→Int→Int→Option R):Option R:=nilR r.2 (consR r.1 (fun v1 q2=>asA v1 (fun q3=>consR q3 (fun v4 q5=>asI .i64 v4 (fun x6=>consR q5 (fun v7 q8=>asI .i64 v7 (fun x9=>consR q8 (fun v10 q11=>asI .i64 v10 (fun x12=>nilR q11 (nilR q2 (K x6 x9 x12)))))))))))
theorem res35_eq {R:Type} (x0:Int) (x1:Int) (x2:Int) (K:Int→Int→Int→Option R):res35 ([.agg [.int .i64 x0,.int .i64 x1,.int .i64 x2]],[]) K=K x0 x1 x2:=rfl
def res36 {R:Type} (r:Ans N) (K:Int→Option R):Option R:=nilR r.2 (consR r.1 (fun v1 q2=>asI .i64 v1 (fun x3=>nilR q2 (K x3))))
theorem res36_eq {R:Type} (x0:Int) (K:Int→Option R):res36 ([.int .i64 x0],[]) K=K x0:=rfl
def res38 {R:Type} (r:Ans N) (K:Int→Int→Int→Int→Int→Int→Option R):Option R:=nilR r.2 (consR r.1 (fun v1 q2=>asA v1 (fun q3=>consR q3 (fun v4 q5=>asI .i64 v4 (fun x6=>consR q5 (fun v7 q8=>asI .i64 v7 (fun x9=>consR q8 (fun v10 q11=>asI .i64 v10 (fun x12=>consR q11 (fun v13 q14=>asI .i64 v13 (fun x15=>consR q14 (fun v16 q17=>asI .i64 v16 (fun x18=>consR q17 (fun v19 q20=>asI .i64 v19 (fun x21=>nilR q20 (nilR q2 (K x6 x9 x12 x15 x18 x21)))))))))))))))))
theorem res38_eq {R:Type} (x0:Int) (x1:Int) (x2:Int) (x3:Int) (x4:Int) (x5:Int) (K:Int→Int→Int→Int→Int→Int→Option R):res38 ([.agg [.int .i64 x0,.int .i64 x1,.int .i64 x2,.int .i64 x3,.int .i64 x4,.int .i64 x5]],[]) K=K x0 x1 x2 x3 x4 x5:=rfl
def res39 {R:Type} (r:Ans N) (K:Int→Option R):Option R:=nilR r.2 (consR r.1 (fun v1 q2=>asI .i64 v1 (fun x3=>nilR q2 (K x3))))
theorem res39_eq {R:Type} (x0:Int) (K:Int→Option R):res39 ([.int .i64 x0],[]) K=K x0:=rfl
def res42 {R:Type} (r:Ans N) (K:Bool→Option R):Option R:=nilR r.2 (consR r.1 (fun v1 q2=>asB v1 (fun x3=>nilR q2 (K x3))))
theorem res42_eq {R:Type} (x0:Bool) (K:Bool→Option R):res42 ([.bool x0],[]) K=K x0:=rfl
def res44 {R:Type} (r:Ans N) (K:Bool→Option R):Option R:=nilR r.2 (consR r.1 (fun v1 q2=>asB v1 (fun x3=>nilR q2 (K x3))))
theorem res44_eq {R:Type} (x0:Bool) (K:Bool→Option R):res44 ([.bool x0],[]) K=K x0:=rfl
def res48 {R:Type} (r:Ans N) (K:Int→Int→Int→Int→Int→Int→Option R):Option R:=nilR r.2 (consR r.1 (fun v1 q2=>asA v1 (fun q3=>consR q3 (fun v4 q5=>asI .i64 v4 (fun x6=>consR q5 (fun v7 q8=>asI .i64 v7 (fun x9=>consR q8 (fun v10 q11=>asI .i64 v10 (fun x12=>consR q11 (fun v13 q14=>asI .i64 v13 (fun x15=>consR q14 (fun v16 q17=>asI .i64 v16 (fun x18=>consR q17 (fun v19 q20=>asI .i64 v19 (fun x21=>nilR q20 (nilR q2 (K x6 x9 x12 x15 x18 x21)))))))))))))))))
theorem res48_eq {R:Type} (x0:Int) (x1:Int) (x2:Int) (x3:Int) (x4:Int) (x5:Int) (K:Int→Int→Int→Int→Int→Int→Option R):res48 ([.agg [.int .i64 x0,.int .i64 x1,.int .i64 x2,.int .i64 x3,.int .i64 x4,.int .i64 x5]],[]) K=K x0 x1 x2 x3 x4 x5:=rfl
def res49 {R:Type} (r:Ans N) (K:Int→Int→Int→Int→Int→Int→Int→Option R):Option R:=nilR r.2 (consR r.1 (fun v1 q2=>asA v1 (fun q3=>consR q3 (fun v4 q5=>asI .i64 v4 (fun x6=>consR q5 (fun v7 q8=>asI .i64 v7 (fun x9=>consR q8 (fun v10 q11=>asI .i64 v10 (fun x12=>consR q11 (fun v13 q14=>asI .i64 v13 (fun x15=>consR q14 (fun v16 q17=>asI .i64 v16 (fun x18=>consR q17 (fun v19 q20=>asI .i64 v19 (fun x21=>nilR q20 (consR q2 (fun v22 q23=>asI .i64 v22 (fun x24=>nilR q23 (K x6 x9 x12 x15 x18 x21 x24)))))))))))))))))))
theorem res49_eq {R:Type} (x0:Int) (x1:Int) (x2:Int) (x3:Int) (x4:Int) (x5:Int) (x6:Int) (K:Int→Int→Int→Int→Int→Int→Int→Option R):res49 ([.agg [.int .i64 x0,.int .i64 x1,.int .i64 x2,.int .i64 x3,.int .i64 x4,.int .i64 x5],.int .i64 x6],[]) K=K x0 x1 x2 x3 x4 x5 x6:=rfl
def res50 {R:Type} (r:Ans N) (K:Int→Option R):Option R:=nilR r.2 (consR r.1 (fun v1 q2=>asI .i64 v1 (fun x3=>nilR q2 (K x3))))
theorem res50_eq {R:Type} (x0:Int) (K:Int→Option R):res50 ([.int .i64 x0],[]) K=K x0:=rfl
def res51 {R:Type} (r:Ans N) (K:Int→Option R):Option R:=nilR r.2 (consR r.1 (fun v1 q2=>asI .i64 v1 (fun x3=>nilR q2 (K x3))))
theorem res51_eq {R:Type} (x0:Int) (K:Int→Option R):res51 ([.int .i64 x0],[]) K=K x0:=rfl
def res52 {R:Type} (r:Ans N) (K:Bool→Option R):Option R:=nilR r.2 (consR r.1 (fun v1 q2=>asB v1 (fun x3=>nilR q2 (K x3))))
theorem res52_eq {R:Type} (x0:Bool) (K:Bool→Option R):res52 ([.bool x0],[]) K=K x0:=rfl
def res53 {R:Type} (r:Ans N) (K:Int→Option R):Option R:=nilR r.2 (consR r.1 (fun v1 q2=>asI .i64 v1 (fun x3=>nilR q2 (K x3))))
theorem res53_eq {R:Type} (x0:Int) (K:Int→Option R):res53 ([.int .i64 x0],[]) K=K x0:=rfl
def res54 {R:Type} (r:Ans N) (K:Int→Int→Int→Int→Int→Int→Option R):Option R:=nilR r.2 (consR r.1 (fun v1 q2=>asA v1 (fun q3=>consR q3 (fun v4 q5=>asI .i64 v4 (fun x6=>consR q5 (fun v7 q8=>asI .i64 v7 (fun x9=>consR q8 (fun v10 q11=>asI .i64 v10 (fun x12=>consR q11 (fun v13 q14=>asI .i64 v13 (fun x15=>consR q14 (fun v16 q17=>asI .i64 v16 (fun x18=>consR q17 (fun v19 q20=>asI .i64 v19 (fun x21=>nilR q20 (nilR q2 (K x6 x9 x12 x15 x18 x21)))))))))))))))))
theorem res54_eq {R:Type} (x0:Int) (x1:Int) (x2:Int) (x3:Int) (x4:Int) (x5:Int) (K:Int→Int→Int→Int→Int→Int→Option R):res54 ([.agg [.int .i64 x0,.int .i64 x1,.int .i64 x2,.int .i64 x3,.int .i64 x4,.int .i64 x5]],[]) K=K x0 x1 x2 x3 x4 x5:=rfl
def res57 {R:Type} (r:Ans N) (K:Int→Option R):Option R:=nilR r.2 (consR r.1 (fun v1 q2=>asI .i64 v1 (fun x3=>nilR q2 (K x3))))
theorem res57_eq {R:Type} (x0:Int) (K:Int→Option R):res57 ([.int .i64 x0],[]) K=K x0:=rfl
def res58 {R:Type} (r:Ans N) (K:Int→Option R):Option R:=nilR r.2 (consR r.1 (fun v1 q2=>asI .i64 v1 (fun x3=>nilR q2 (K x3))))
def res59 {R:Type} (r:Ans N) (K:Int→Int→Int→Int→Int→Int→Option R):Option R:=nilR r.2 (consR r.1 (fun v1 q2=>asA v1 (fun q3=>consR q3 (fun v4 q5=>asI .i64 v4 (fun x6=>consR q5 (fun v7 q8=>asI .i64 v7 (fun x9=>consR q8 (fun v10 q11=>asI .i64 v10 (fun x12=>consR q11 (fun v13 q14=>asI .i64 v13 (fun x15=>consR q14 (fun v16 q17=>asI .i64 v16 (fun x18=>consR q17 (fun v19 q20=>asI .i64 v19 (fun x21=>nilR q20 (nilR q2 (K x6 x9 x12 x15 x18 x21)))))))))))))))))
theorem res59_eq {R:Type} (x0:Int) (x1:Int) (x2:Int) (x3:Int) (x4:Int) (x5:Int) (K:Int→Int→Int→Int→Int→Int→Option R):res59 ([.agg [.int .i64 x0,.int .i64 x1,.int .i64 x2,.int .i64 x3,.int .i64 x4,.int .i64 x5]],[]) K=K x0 x1 x2 x3 x4 x5:=rfl
noncomputable def l33_0 (k m:Nat) (x3:Int) (x7:List S53) (x8:Int) (x9:Int):Option (Ans N):=lp T 33 0 [1,1,0,1,0] k [] m ⟨[(3,.int .i64 x3),(7,.vsl none (.named 53) x7),(8,.int .i64 x8),(9,.int .i64 x9)],[]⟩
theorem l33_0_eq (k m:Nat) (x3:Int) (x7:List S53) (x8:Int) (x9:Int):l33_0 k (m+1) x3 x7 x8 x9=if x9<x8 then if 0≤x9 then if x9<(x7.length:Int) then l33_0 k m (wrap64 (x3+(wrap64 ((wrap64 ((wrap64 ((1:Int)+(((x7.getD x9.toNat z53).f0).length:Int)))+(((x7.getD x9.toNat z53).f1).length:Int)))+(((x7.getD x9.toNat z53).f4).length:Int))))) x7 x8 (wrap64 (x9+(1:Int))) else none else none else some ([.int .i64 x3],[]):=by kernel_rfl
theorem f33_eq (k:Nat) (a0_0:List UInt8) (a0_1:List Int) (a0_2:List S78) (a0_3:List S80) (a0_4:List Int) (a0_5:List S53):evF T (k+1) 33 [.agg [.str a0_0,.vsl none (.int .i64) a0_1,.vsl none (.named 78) a0_2,.vsl none (.named 80) a0_3,.vsl none (.int .i64) a0_4,.vsl none (.named 53) a0_5]] []=l33_0 k k (0:Int) a0_5 (a0_5.length:Int) (0:Int):=by kernel_rfl
theorem f50_eq (k:Nat) (a0:Int):evF T (k+1) 50 [.int .i64 a0] []=if a0<(1:Int) then some ([.int .i64 (0:Int)],[]) else (evF T k 58 [.int .u64 (wr .u64 ((wrap64 (a0 - (1:Int)))))] []).bind fun r=>res58 r fun y1=>some ([.int .i64 y1],[]):=by kernel_rfl
theorem f32_eq (k:Nat) (a0:Int):evF T (k+1) 32 [.int .i64 a0] []=(evF T k 50 [.int .i64 a0] []).bind fun r=>res50 r fun y1=>(evF T k 50 [.int .i64 a0] []).bind fun r=>res50 r fun y2=>some ([.agg [.int .i64 (30:Int),.int .i64 (wrap64 ((300:Int)+(wrap64 ((20:Int)*y1)))),.int .i64 (wrap64 ((320:Int)+(wrap64 ((40:Int)*y2))))]],[]):=by kernel_rfl
noncomputable def j57_0 (k:Nat) (x6:Int) (x7:Bool) (b0_0:List UInt8) (b0_1:List Int) (b0_2:List S78) (b0_3:List S80) (b0_4:List Int) (b0_5:List S53) (b1_0:Int) (b1_1:Int) (b1_2:List Int) (b1_3:Int) (b1_4:Int):Option (Ans N):=jn T 57 0 [1,0,1,0,1] k [] ⟨[(2,.bptr 0 0),(3,.bptr 1 0),(6,.int .i64 x6),(7,.bool x7)],[some (.box [.str b0_0,.vsl none (.int .i64) b0_1,.vsl none (.named 78) b0_2,.vsl none (.named 80) b0_3,.vsl none (.int .i64) b0_4,.vsl none (.named 53) b0_5]),some (.box [.int .i64 b1_0,.int .i64 b1_1,.vsl none (.int .i64) b1_2,.int .u64 b1_3,.int .i64 b1_4])]⟩
noncomputable def j57_1 (k:Nat) (b0_0:List UInt8) (b0_1:List Int) (b0_2:List S78) (b0_3:List S80) (b0_4:List Int) (b0_5:List S53) (b1_0:Int) (b1_1:Int) (b1_2:List Int) (b1_3:Int) (b1_4:Int):Option (Ans N):=jn T 57 0 [1,1] k [] ⟨[(2,.bptr 0 0),(3,.bptr 1 0)],[some (.box [.str b0_0,.vsl none (.int .i64) b0_1,.vsl none (.named 78) b0_2,.vsl none (.named 80) b0_3,.vsl none (.int .i64) b0_4,.vsl none (.named 53) b0_5]),some (.box [.int .i64 b1_0,.int .i64 b1_1,.vsl none (.int .i64) b1_2,.int .u64 b1_3,.int .i64 b1_4])]⟩
theorem j57_1_eq (k:Nat) (b0_0:List UInt8) (b0_1:List Int) (b0_2:List S78) (b0_3:List S80) (b0_4:List Int) (b0_5:List S53) (b1_0:Int) (b1_1:Int) (b1_2:List Int) (b1_3:Int) (b1_4:Int):j57_1 k  b0_0 b0_1 b0_2 b0_3 b0_4 b0_5 b1_0 b1_1 b1_2 b1_3 b1_4=if 0≤b1_1 then if b1_1<(b0_1.length:Int) then some ([.int .i64 (b0_1.getD b1_1.toNat (0:Int))],[]) else none else none:=by unfold j57_1;rw [jn_eq];kernel_rfl
theorem j57_0_eq (k:Nat) (x6:Int) (x7:Bool) (b0_0:List UInt8) (b0_1:List Int) (b0_2:List S78) (b0_3:List S80) (b0_4:List Int) (b0_5:List S53) (b1_0:Int) (b1_1:Int) (b1_2:List Int) (b1_3:Int) (b1_4:Int):j57_0 k  x6 x7 b0_0 b0_1 b0_2 b0_3 b0_4 b0_5 b1_0 b1_1 b1_2 b1_3 b1_4=if x7=true then if 0≤(0:Int) then if (0:Int)<(b1_2.length:Int) then if 0≤(b1_2.getD (0:Int).toNat (0:Int)) then if (b1_2.getD (0:Int).toNat (0:Int))<(b0_1.length:Int) then some ([.int .i64 (b0_1.getD (b1_2.getD (0:Int).toNat (0:Int)).toNat (0:Int))],[]) else none else none else none else none else if x6=(26:Int) then if 0≤b1_4 then if b1_4<(b0_2.length:Int) then some ([.int .i64 ((b0_2.getD b1_4.toNat z78).f1)],[]) else none else none else if x6=(28:Int) then if 0≤b1_4 then if b1_4<(b0_3.length:Int) then some ([.int .i64 ((b0_3.getD b1_4.toNat z80).f1)],[]) else none else none else j57_1 k b0_0 b0_1 b0_2 b0_3 b0_4 b0_5 b1_0 b1_1 b1_2 b1_3 b1_4:=by unfold j57_0;rw [jn_eq];kernel_rfl
theorem f57_eq (k:Nat) (a0_0:List UInt8) (a0_1:List Int) (a0_2:List S78) (a0_3:List S80) (a0_4:List Int) (a0_5:List S53) (a1_0:Int) (a1_1:Int) (a1_2:List Int) (a1_3:Int) (a1_4:Int):evF T (k+1) 57 [.agg [.str a0_0,.vsl none (.int .i64) a0_1,.vsl none (.named 78) a0_2,.vsl none (.named 80) a0_3,.vsl none (.int .i64) a0_4,.vsl none (.named 53) a0_5],.agg [.int .i64 a1_0,.int .i64 a1_1,.vsl none (.int .i64) a1_2,.int .u64 a1_3,.int .i64 a1_4]] []=if a1_0=(15:Int) then j57_0 k a1_0 (decide (a1_0=(15:Int))) a0_0 a0_1 a0_2 a0_3 a0_4 a0_5 a1_0 a1_1 a1_2 a1_3 a1_4 else if a1_0=(16:Int) then j57_0 k a1_0 (decide (a1_0=(16:Int))) a0_0 a0_1 a0_2 a0_3 a0_4 a0_5 a1_0 a1_1 a1_2 a1_3 a1_4 else if a1_0=(17:Int) then j57_0 k a1_0 (decide (a1_0=(17:Int))) a0_0 a0_1 a0_2 a0_3 a0_4 a0_5 a1_0 a1_1 a1_2 a1_3 a1_4 else if a1_0=(18:Int) then j57_0 k a1_0 (decide (a1_0=(18:Int))) a0_0 a0_1 a0_2 a0_3 a0_4 a0_5 a1_0 a1_1 a1_2 a1_3 a1_4 else if a1_0=(19:Int) then j57_0 k a1_0 (decide (a1_0=(19:Int))) a0_0 a0_1 a0_2 a0_3 a0_4 a0_5 a1_0 a1_1 a1_2 a1_3 a1_4 else j57_0 k a1_0 (decide (a1_0=(20:Int))) a0_0 a0_1 a0_2 a0_3 a0_4 a0_5 a1_0 a1_1 a1_2 a1_3 a1_4:=by kernel_rfl
noncomputable def j49_0 (k:Nat) (x0:Int) (x6:Int) (x7:Int) (x8:Int) (x32:Int) (x33:Bool) (b0_0:Int) (b0_1:Int) (b0_2:Int) (b0_3:Int) (b0_4:Int) (b0_5:Int) (b1_0:Int) (b1_1:Int) (b1_2:Int) (b1_3:Int) (b1_4:Int) (b1_5:Int):Option (Ans N):=jn T 49 0 [1,1,1,1,1,0,1,0,1] k [] ⟨[(0,.int .i64 x0),(4,.bptr 0 0),(6,.int .i64 x6),(7,.int .i64 x7),(8,.int .i64 x8),(9,.bptr 1 0),(32,.int .i64 x32),(33,.bool x33)],[some (.box [.int .i64 b0_0,.int .i64 b0_1,.int .i64 b0_2,.int .i64 b0_3,.int .i64 b0_4,.int .i64 b0_5]),some (.box [.int .i64 b1_0,.int .i64 b1_1,.int .i64 b1_2,.int .i64 b1_3,.int .i64 b1_4,.int .i64 b1_5])]⟩
noncomputable def j49_1 (k:Nat) (x0:Int) (x6:Int) (x7:Int) (x8:Int) (x32:Int) (x68:Bool) (b0_0:Int) (b0_1:Int) (b0_2:Int) (b0_3:Int) (b0_4:Int) (b0_5:Int) (b1_0:Int) (b1_1:Int) (b1_2:Int) (b1_3:Int) (b1_4:Int) (b1_5:Int):Option (Ans N):=jn T 49 0 [1,1,1,1,1,0,1,0,1,1,1,1,1,1,1] k [] ⟨[(0,.int .i64 x0),(4,.bptr 0 0),(6,.int .i64 x6),(7,.int .i64 x7),(8,.int .i64 x8),(9,.bptr 1 0),(32,.int .i64 x32),(68,.bool x68)],[some (.box [.int .i64 b0_0,.int .i64 b0_1,.int .i64 b0_2,.int .i64 b0_3,.int .i64 b0_4,.int .i64 b0_5]),some (.box [.int .i64 b1_0,.int .i64 b1_1,.int .i64 b1_2,.int .i64 b1_3,.int .i64 b1_4,.int .i64 b1_5])]⟩
noncomputable def j49_2 (k:Nat) (x0:Int) (x6:Int) (x7:Int) (x8:Int) (x32:Int) (x78:Bool) (b0_0:Int) (b0_1:Int) (b0_2:Int) (b0_3:Int) (b0_4:Int) (b0_5:Int) (b1_0:Int) (b1_1:Int) (b1_2:Int) (b1_3:Int) (b1_4:Int) (b1_5:Int):Option (Ans N):=jn T 49 0 [1,1,1,1,1,0,1,0,1,1,1,1,1,1,1,1,1] k [] ⟨[(0,.int .i64 x0),(4,.bptr 0 0),(6,.int .i64 x6),(7,.int .i64 x7),(8,.int .i64 x8),(9,.bptr 1 0),(32,.int .i64 x32),(78,.bool x78)],[some (.box [.int .i64 b0_0,.int .i64 b0_1,.int .i64 b0_2,.int .i64 b0_3,.int .i64 b0_4,.int .i64 b0_5]),some (.box [.int .i64 b1_0,.int .i64 b1_1,.int .i64 b1_2,.int .i64 b1_3,.int .i64 b1_4,.int .i64 b1_5])]⟩
noncomputable def j49_3 (k:Nat) (x0:Int) (x6:Int) (x7:Int) (x8:Int) (x32:Int) (x93:Bool) (b0_0:Int) (b0_1:Int) (b0_2:Int) (b0_3:Int) (b0_4:Int) (b0_5:Int) (b1_0:Int) (b1_1:Int) (b1_2:Int) (b1_3:Int) (b1_4:Int) (b1_5:Int):Option (Ans N):=jn T 49 0 [1,1,1,1,1,0,1,0,1,1,1,1,1,1,1,1,1,1,1] k [] ⟨[(0,.int .i64 x0),(4,.bptr 0 0),(6,.int .i64 x6),(7,.int .i64 x7),(8,.int .i64 x8),(9,.bptr 1 0),(32,.int .i64 x32),(93,.bool x93)],[some (.box [.int .i64 b0_0,.int .i64 b0_1,.int .i64 b0_2,.int .i64 b0_3,.int .i64 b0_4,.int .i64 b0_5]),some (.box [.int .i64 b1_0,.int .i64 b1_1,.int .i64 b1_2,.int .i64 b1_3,.int .i64 b1_4,.int .i64 b1_5])]⟩
noncomputable def j49_4 (k:Nat) (x0:Int) (x6:Int) (x7:Int) (x32:Int) (x116:Bool) (b0_0:Int) (b0_1:Int) (b0_2:Int) (b0_3:Int) (b0_4:Int) (b0_5:Int) (b1_0:Int) (b1_1:Int) (b1_2:Int) (b1_3:Int) (b1_4:Int) (b1_5:Int):Option (Ans N):=jn T 49 0 [1,1,1,1,1,0,1,0,1,1,1,1,1,1,1,1,1,1,1,1,1,1,1] k [] ⟨[(0,.int .i64 x0),(4,.bptr 0 0),(6,.int .i64 x6),(7,.int .i64 x7),(9,.bptr 1 0),(32,.int .i64 x32),(116,.bool x116)],[some (.box [.int .i64 b0_0,.int .i64 b0_1,.int .i64 b0_2,.int .i64 b0_3,.int .i64 b0_4,.int .i64 b0_5]),some (.box [.int .i64 b1_0,.int .i64 b1_1,.int .i64 b1_2,.int .i64 b1_3,.int .i64 b1_4,.int .i64 b1_5])]⟩
noncomputable def j49_5 (k:Nat) (x0:Int) (x6:Int) (x159:Bool) (b0_0:Int) (b0_1:Int) (b0_2:Int) (b0_3:Int) (b0_4:Int) (b0_5:Int) (b1_0:Int) (b1_1:Int) (b1_2:Int) (b1_3:Int) (b1_4:Int) (b1_5:Int):Option (Ans N):=jn T 49 0 [1,1,1,1,1,0,1,0,1,1,1,1,1,1,1,1,1,1,1,1,1,1,1,1,1,1,1,1,1] k [] ⟨[(0,.int .i64 x0),(4,.bptr 0 0),(6,.int .i64 x6),(9,.bptr 1 0),(159,.bool x159)],[some (.box [.int .i64 b0_0,.int .i64 b0_1,.int .i64 b0_2,.int .i64 b0_3,.int .i64 b0_4,.int .i64 b0_5]),some (.box [.int .i64 b1_0,.int .i64 b1_1,.int .i64 b1_2,.int .i64 b1_3,.int .i64 b1_4,.int .i64 b1_5])]⟩
theorem j49_5_eq (k:Nat) (x0:Int) (x6:Int) (x159:Bool) (b0_0:Int) (b0_1:Int) (b0_2:Int) (b0_3:Int) (b0_4:Int) (b0_5:Int) (b1_0:Int) (b1_1:Int) (b1_2:Int) (b1_3:Int) (b1_4:Int) (b1_5:Int):j49_5 k  x0 x6 x159 b0_0 b0_1 b0_2 b0_3 b0_4 b0_5 b1_0 b1_1 b1_2 b1_3 b1_4 b1_5=if x159=true then if (8:Int)=0 then none else if (16:Int)=0 then none else some ([.agg [.int .i64 (wrap64 ((wrap64 ((2:Int)+x0)) - (5:Int))),.int .i64 b1_1,.int .i64 b1_2,.int .i64 (wrap64 ((2:Int)+(wrap64 (((wrap64 (x6+(7:Int)))).tdiv (8:Int))))),.int .i64 (wrap64 ((1:Int)+(wrap64 (((wrap64 (x6+(15:Int)))).tdiv (16:Int))))),.int .i64 (wrap64 ((wrap64 ((8:Int)*x6))*x6))],.int .i64 (0:Int)],[]) else some ([.agg [.int .i64 b1_0,.int .i64 b1_1,.int .i64 b1_2,.int .i64 b1_3,.int .i64 b1_4,.int .i64 b1_5],.int .i64 (0:Int)],[]):=by unfold j49_5;rw [jn_eq];kernel_rfl
theorem j49_4_eq (k:Nat) (x0:Int) (x6:Int) (x7:Int) (x32:Int) (x116:Bool) (b0_0:Int) (b0_1:Int) (b0_2:Int) (b0_3:Int) (b0_4:Int) (b0_5:Int) (b1_0:Int) (b1_1:Int) (b1_2:Int) (b1_3:Int) (b1_4:Int) (b1_5:Int):j49_4 k  x0 x6 x7 x32 x116 b0_0 b0_1 b0_2 b0_3 b0_4 b0_5 b1_0 b1_1 b1_2 b1_3 b1_4 b1_5=if x116=true then some ([.agg [.int .i64 b1_0,.int .i64 b1_1,.int .i64 (wrap64 ((30:Int)+(wrap64 ((40:Int)*x7)))),.int .i64 b1_3,.int .i64 b1_4,.int .i64 (wrap64 ((wrap64 ((2:Int)*x6))+(wrap64 ((wrap64 ((3:Int)*x6))*x7))))],.int .i64 (0:Int)],[]) else if x32=(14:Int) then some ([.agg [.int .i64 b1_0,.int .i64 b1_1,.int .i64 (wrap64 ((50:Int)+(wrap64 ((40:Int)*x7)))),.int .i64 b1_3,.int .i64 b1_4,.int .i64 (wrap64 ((wrap64 ((4:Int)*x6))+(wrap64 ((wrap64 ((3:Int)*x6))*x7))))],.int .i64 (0:Int)],[]) else if x32=(4:Int) then if (16:Int)=0 then none else some ([.agg [.int .i64 (1:Int),.int .i64 b1_1,.int .i64 b1_2,.int .i64 (wrap64 ((1:Int)+(wrap64 (((wrap64 (x6+(15:Int)))).tdiv (16:Int))))),.int .i64 (1:Int),.int .i64 (wrap64 ((wrap64 ((6:Int)*x6))*x6))],.int .i64 (0:Int)],[]) else if x32=(5:Int) then j49_5 k x0 x6 (decide (x32=(5:Int))) b0_0 b0_1 b0_2 b0_3 b0_4 b0_5 b1_0 b1_1 b1_2 b1_3 b1_4 b1_5 else if x32=(6:Int) then j49_5 k x0 x6 (decide (x32=(6:Int))) b0_0 b0_1 b0_2 b0_3 b0_4 b0_5 b1_0 b1_1 b1_2 b1_3 b1_4 b1_5 else if x32=(7:Int) then j49_5 k x0 x6 (decide (x32=(7:Int))) b0_0 b0_1 b0_2 b0_3 b0_4 b0_5 b1_0 b1_1 b1_2 b1_3 b1_4 b1_5 else j49_5 k x0 x6 (decide (x32=(8:Int))) b0_0 b0_1 b0_2 b0_3 b0_4 b0_5 b1_0 b1_1 b1_2 b1_3 b1_4 b1_5:=by unfold j49_4;rw [jn_eq];kernel_rfl
theorem j49_3_eq (k:Nat) (x0:Int) (x6:Int) (x7:Int) (x8:Int) (x32:Int) (x93:Bool) (b0_0:Int) (b0_1:Int) (b0_2:Int) (b0_3:Int) (b0_4:Int) (b0_5:Int) (b1_0:Int) (b1_1:Int) (b1_2:Int) (b1_3:Int) (b1_4:Int) (b1_5:Int):j49_3 k  x0 x6 x7 x8 x32 x93 b0_0 b0_1 b0_2 b0_3 b0_4 b0_5 b1_0 b1_1 b1_2 b1_3 b1_4 b1_5=if x93=true then some ([.agg [.int .i64 b1_0,.int .i64 b1_1,.int .i64 (wrap64 ((50:Int)+(wrap64 ((40:Int)*x8)))),.int .i64 b1_3,.int .i64 b1_4,.int .i64 (wrap64 ((wrap64 ((wrap64 ((4:Int)*x6))+(wrap64 ((wrap64 ((3:Int)*x6))*x8))))+(2:Int)))],.int .i64 (0:Int)],[]) else if x32=(21:Int) then some ([.agg [.int .i64 b1_0,.int .i64 b1_1,.int .i64 (50:Int),.int .i64 b1_3,.int .i64 b1_4,.int .i64 (wrap64 ((wrap64 ((3:Int)*x6))+(1:Int)))],.int .i64 (0:Int)],[]) else if x32=(12:Int) then j49_4 k x0 x6 x7 x32 (decide (x32=(12:Int))) b0_0 b0_1 b0_2 b0_3 b0_4 b0_5 b1_0 b1_1 b1_2 b1_3 b1_4 b1_5 else j49_4 k x0 x6 x7 x32 (decide (x32=(13:Int))) b0_0 b0_1 b0_2 b0_3 b0_4 b0_5 b1_0 b1_1 b1_2 b1_3 b1_4 b1_5:=by unfold j49_3;rw [jn_eq];kernel_rfl
theorem j49_2_eq (k:Nat) (x0:Int) (x6:Int) (x7:Int) (x8:Int) (x32:Int) (x78:Bool) (b0_0:Int) (b0_1:Int) (b0_2:Int) (b0_3:Int) (b0_4:Int) (b0_5:Int) (b1_0:Int) (b1_1:Int) (b1_2:Int) (b1_3:Int) (b1_4:Int) (b1_5:Int):j49_2 k  x0 x6 x7 x8 x32 x78 b0_0 b0_1 b0_2 b0_3 b0_4 b0_5 b1_0 b1_1 b1_2 b1_3 b1_4 b1_5=if x78=true then some ([.agg [.int .i64 b1_0,.int .i64 b1_1,.int .i64 (wrap64 ((40:Int)+(wrap64 ((40:Int)*x8)))),.int .i64 b1_3,.int .i64 b1_4,.int .i64 (wrap64 ((wrap64 ((4:Int)*x6))+(wrap64 ((wrap64 ((3:Int)*x6))*x8))))],.int .i64 (0:Int)],[]) else if x32=(19:Int) then j49_3 k x0 x6 x7 x8 x32 (decide (x32=(19:Int))) b0_0 b0_1 b0_2 b0_3 b0_4 b0_5 b1_0 b1_1 b1_2 b1_3 b1_4 b1_5 else j49_3 k x0 x6 x7 x8 x32 (decide (x32=(20:Int))) b0_0 b0_1 b0_2 b0_3 b0_4 b0_5 b1_0 b1_1 b1_2 b1_3 b1_4 b1_5:=by unfold j49_2;rw [jn_eq];kernel_rfl
theorem j49_1_eq (k:Nat) (x0:Int) (x6:Int) (x7:Int) (x8:Int) (x32:Int) (x68:Bool) (b0_0:Int) (b0_1:Int) (b0_2:Int) (b0_3:Int) (b0_4:Int) (b0_5:Int) (b1_0:Int) (b1_1:Int) (b1_2:Int) (b1_3:Int) (b1_4:Int) (b1_5:Int):j49_1 k  x0 x6 x7 x8 x32 x68 b0_0 b0_1 b0_2 b0_3 b0_4 b0_5 b1_0 b1_1 b1_2 b1_3 b1_4 b1_5=if x68=true then some ([.agg [.int .i64 b1_0,.int .i64 b1_1,.int .i64 (wrap64 ((30:Int)+(wrap64 ((20:Int)*x7)))),.int .i64 b1_3,.int .i64 b1_4,.int .i64 (wrap64 ((2:Int)*x6))],.int .i64 (0:Int)],[]) else if x32=(17:Int) then j49_2 k x0 x6 x7 x8 x32 (decide (x32=(17:Int))) b0_0 b0_1 b0_2 b0_3 b0_4 b0_5 b1_0 b1_1 b1_2 b1_3 b1_4 b1_5 else j49_2 k x0 x6 x7 x8 x32 (decide (x32=(18:Int))) b0_0 b0_1 b0_2 b0_3 b0_4 b0_5 b1_0 b1_1 b1_2 b1_3 b1_4 b1_5:=by unfold j49_1;rw [jn_eq];kernel_rfl
theorem j49_0_eq (k:Nat) (x0:Int) (x6:Int) (x7:Int) (x8:Int) (x32:Int) (x33:Bool) (b0_0:Int) (b0_1:Int) (b0_2:Int) (b0_3:Int) (b0_4:Int) (b0_5:Int) (b1_0:Int) (b1_1:Int) (b1_2:Int) (b1_3:Int) (b1_4:Int) (b1_5:Int):j49_0 k  x0 x6 x7 x8 x32 x33 b0_0 b0_1 b0_2 b0_3 b0_4 b0_5 b1_0 b1_1 b1_2 b1_3 b1_4 b1_5=if x33=true then some ([.agg [.int .i64 b1_0,.int .i64 b1_1,.int .i64 (20:Int),.int .i64 b1_3,.int .i64 b1_4,.int .i64 x6],.int .i64 (0:Int)],[]) else if x32=(2:Int) then some ([.agg [.int .i64 b1_0,.int .i64 b1_1,.int .i64 (wrap64 ((40:Int)+(wrap64 ((40:Int)*x7)))),.int .i64 b1_3,.int .i64 b1_4,.int .i64 (wrap64 ((wrap64 ((3:Int)*x6))+(wrap64 ((wrap64 ((3:Int)*x6))*x7))))],.int .i64 (0:Int)],[]) else if x32=(3:Int) then some ([.agg [.int .i64 b1_0,.int .i64 b1_1,.int .i64 (wrap64 ((50:Int)+(wrap64 ((40:Int)*x7)))),.int .i64 b1_3,.int .i64 b1_4,.int .i64 (wrap64 ((wrap64 ((4:Int)*x6))+(wrap64 ((wrap64 ((3:Int)*x6))*x7))))],.int .i64 (0:Int)],[]) else if x32=(15:Int) then j49_1 k x0 x6 x7 x8 x32 (decide (x32=(15:Int))) b0_0 b0_1 b0_2 b0_3 b0_4 b0_5 b1_0 b1_1 b1_2 b1_3 b1_4 b1_5 else j49_1 k x0 x6 x7 x8 x32 (decide (x32=(16:Int))) b0_0 b0_1 b0_2 b0_3 b0_4 b0_5 b1_0 b1_1 b1_2 b1_3 b1_4 b1_5:=by unfold j49_0;rw [jn_eq];kernel_rfl
theorem f49_eq (k:Nat) (a0:Int) (a1:Int):evF T (k+1) 49 [.int .i64 a0,.int .i64 a1] []=if a0≤(1:Int) then some ([.agg [.int .i64 (0:Int),.int .i64 (0:Int),.int .i64 (0:Int),.int .i64 (0:Int),.int .i64 (0:Int),.int .i64 (0:Int)],.int .i64 (1:Int)],[]) else if a0≥(25:Int) then some ([.agg [.int .i64 (0:Int),.int .i64 (0:Int),.int .i64 (0:Int),.int .i64 (0:Int),.int .i64 (0:Int),.int .i64 (0:Int)],.int .i64 (1:Int)],[]) else if a1<(1:Int) then some ([.agg [.int .i64 (0:Int),.int .i64 (0:Int),.int .i64 (0:Int),.int .i64 (0:Int),.int .i64 (0:Int),.int .i64 (0:Int)],.int .i64 (13:Int)],[]) else if a1>(64:Int) then some ([.agg [.int .i64 (0:Int),.int .i64 (0:Int),.int .i64 (0:Int),.int .i64 (0:Int),.int .i64 (0:Int),.int .i64 (0:Int)],.int .i64 (13:Int)],[]) else (evF T k 50 [.int .i64 a1] []).bind fun r=>res50 r fun y1=>(evF T k 50 [.int .i64 (wrap64 (a1+(1:Int)))] []).bind fun r=>res50 r fun y2=>if a0=(9:Int) then j49_0 k a0 a1 y1 y2 a0 (decide (a0=(9:Int))) (0:Int) (0:Int) (0:Int) (0:Int) (0:Int) (0:Int) (0:Int) a1 (0:Int) (0:Int) (0:Int) (0:Int) else if a0=(10:Int) then j49_0 k a0 a1 y1 y2 a0 (decide (a0=(10:Int))) (0:Int) (0:Int) (0:Int) (0:Int) (0:Int) (0:Int) (0:Int) a1 (0:Int) (0:Int) (0:Int) (0:Int) else j49_0 k a0 a1 y1 y2 a0 (decide (a0=(11:Int))) (0:Int) (0:Int) (0:Int) (0:Int) (0:Int) (0:Int) (0:Int) a1 (0:Int) (0:Int) (0:Int) (0:Int):=by kernel_rfl
theorem f48_eq (k:Nat) (a0_0:List UInt8) (a0_1:List Int) (a0_2:List S78) (a0_3:List S80) (a0_4:List Int) (a0_5:List S53) (a1_0:Int) (a1_1:Int) (a1_2:List Int) (a1_3:Int) (a1_4:Int):evF T (k+1) 48 [.agg [.str a0_0,.vsl none (.int .i64) a0_1,.vsl none (.named 78) a0_2,.vsl none (.named 80) a0_3,.vsl none (.int .i64) a0_4,.vsl none (.named 53) a0_5],.agg [.int .i64 a1_0,.int .i64 a1_1,.vsl none (.int .i64) a1_2,.int .u64 a1_3,.int .i64 a1_4]] []=(evF T k 57 [.agg [.str a0_0,.vsl none (.int .i64) a0_1,.vsl none (.named 78) a0_2,.vsl none (.named 80) a0_3,.vsl none (.int .i64) a0_4,.vsl none (.named 53) a0_5],.agg [.int .i64 a1_0,.int .i64 a1_1,.vsl none (.int .i64) a1_2,.int .u64 a1_3,.int .i64 a1_4]] []).bind fun r=>res57 r fun y1=>(evF T k 49 [.int .i64 a1_0,.int .i64 y1] []).bind fun r=>res49 r fun y2 y3 y4 y5 y6 y7 y8=>if y8=(0:Int) then some ([.agg [.int .i64 y2,.int .i64 y3,.int .i64 y4,.int .i64 y5,.int .i64 y6,.int .i64 y7]],[]) else if a1_0=(25:Int) then some ([.agg [.int .i64 (0:Int),.int .i64 y1,.int .i64 (0:Int),.int .i64 (1:Int),.int .i64 (1:Int),.int .i64 (0:Int)]],[]) else if a1_0=(27:Int) then some ([.agg [.int .i64 (0:Int),.int .i64 y1,.int .i64 (0:Int),.int .i64 (1:Int),.int .i64 (1:Int),.int .i64 (0:Int)]],[]) else some ([.agg [.int .i64 (0:Int),.int .i64 y1,.int .i64 (0:Int),.int .i64 (0:Int),.int .i64 (0:Int),.int .i64 (0:Int)]],[]):=by kernel_rfl
noncomputable def l29_0 (k m:Nat) (x29:List S72) (x30:Int) (x31:Int) (b0_0:List UInt8) (b0_1:List Int) (b0_2:List S78) (b0_3:List S80) (b0_4:List Int) (b0_5:List S53) (b1_0:Int) (b1_1:Int) (b1_2:Int) (r2:List Bool) (r3:List Int) (r4:List (List Int)) (b5_0:Int) (b5_1:Int) (b5_2:Int) (r6:List Bool) (r7:List Int) (r8:List (List Int)) (r9:Int→Option Int):Option (Ans N):=lp T 29 0 [1,1,1,1,0,1,0] k [] m ⟨[(2,.bptr 0 0),(4,.bptr 1 0),(6,.bptr 5 0),(7,.mp 9),(29,.vsl none (.named 72) x29),(30,.int .i64 x30),(31,.int .i64 x31)],[some (.box [.str b0_0,.vsl none (.int .i64) b0_1,.vsl none (.named 78) b0_2,.vsl none (.named 80) b0_3,.vsl none (.int .i64) b0_4,.vsl none (.named 53) b0_5]),some (.box [.int .i64 b1_0,.int .i64 b1_1,.int .i64 b1_2,.sl 2 0,.sl 3 0,.sl 4 0]),some (.row 0 0 4 .bool r2),some (.row 0 0 3 (.int .i64) r3),some (.row 0 0 29 (.list (.int .i64)) r4),some (.box [.int .i64 b5_0,.int .i64 b5_1,.int .i64 b5_2,.sl 6 0,.sl 7 0,.sl 8 0]),some (.row 0 0 4 .bool r6),some (.row 0 0 3 (.int .i64) r7),some (.row 0 0 29 (.list (.int .i64)) r8),some (.map false (.int .i64) (.int .i64) r9)]⟩
noncomputable def l29_1 (k m0 m:Nat) (x8:Int) (x29:List S72) (x30:Int) (x31:Int) (x67:List Int) (x68:Int) (x69:Int) (b0_0:List UInt8) (b0_1:List Int) (b0_2:List S78) (b0_3:List S80) (b0_4:List Int) (b0_5:List S53) (b1_0:Int) (b1_1:Int) (b1_2:Int) (r2:List Bool) (r3:List Int) (r4:List (List Int)) (b5_0:Int) (b5_1:Int) (b5_2:Int) (r6:List Bool) (r7:List Int) (r8:List (List Int)) (r9:Int→Option Int) (b10_0:Int) (b10_1:Int) (b10_2:List Int) (b10_3:Int) (b10_4:Int) (r11:List Int):Option (Ans N):=lp T 29 0 [1,1,1,1,0,1,0,0,1,1,0,0,1,1,1,1,1,1,0,1,0] k [m0] m ⟨[(2,.bptr 0 0),(4,.bptr 1 0),(6,.bptr 5 0),(7,.mp 9),(8,.int .i64 x8),(9,.bptr 10 0),(13,.sl 11 0),(29,.vsl none (.named 72) x29),(30,.int .i64 x30),(31,.int .i64 x31),(67,.vsl none (.int .i64) x67),(68,.int .i64 x68),(69,.int .i64 x69)],[some (.box [.str b0_0,.vsl none (.int .i64) b0_1,.vsl none (.named 78) b0_2,.vsl none (.named 80) b0_3,.vsl none (.int .i64) b0_4,.vsl none (.named 53) b0_5]),some (.box [.int .i64 b1_0,.int .i64 b1_1,.int .i64 b1_2,.sl 2 0,.sl 3 0,.sl 4 0]),some (.row 0 0 4 .bool r2),some (.row 0 0 3 (.int .i64) r3),some (.row 0 0 29 (.list (.int .i64)) r4),some (.box [.int .i64 b5_0,.int .i64 b5_1,.int .i64 b5_2,.sl 6 0,.sl 7 0,.sl 8 0]),some (.row 0 0 4 .bool r6),some (.row 0 0 3 (.int .i64) r7),some (.row 0 0 29 (.list (.int .i64)) r8),some (.map false (.int .i64) (.int .i64) r9),some (.box [.int .i64 b10_0,.int .i64 b10_1,.vsl none (.int .i64) b10_2,.int .u64 b10_3,.int .i64 b10_4]),some (.row 0 0 3 (.int .i64) r11)]⟩
theorem l29_1_eq (k m0 m:Nat) (x8:Int) (x29:List S72) (x30:Int) (x31:Int) (x67:List Int) (x68:Int) (x69:Int) (b0_0:List UInt8) (b0_1:List Int) (b0_2:List S78) (b0_3:List S80) (b0_4:List Int) (b0_5:List S53) (b1_0:Int) (b1_1:Int) (b1_2:Int) (r2:List Bool) (r3:List Int) (r4:List (List Int)) (b5_0:Int) (b5_1:Int) (b5_2:Int) (r6:List Bool) (r7:List Int) (r8:List (List Int)) (r9:Int→Option Int) (b10_0:Int) (b10_1:Int) (b10_2:List Int) (b10_3:Int) (b10_4:Int) (r11:List Int):l29_1 k m0 (m+1) x8 x29 x30 x31 x67 x68 x69 b0_0 b0_1 b0_2 b0_3 b0_4 b0_5 b1_0 b1_1 b1_2 r2 r3 r4 b5_0 b5_1 b5_2 r6 r7 r8 r9 b10_0 b10_1 b10_2 b10_3 b10_4 r11=if x69<x68 then if 0≤x69 then if x69<(x67.length:Int) then optK (r9 (x67.getD x69.toNat (0:Int))) (fun y18=>if 0≤x8 then if x8<(r6.length:Int) then if x8.toNat<r6.length then if (r6.getD x8.toNat false)=true then chk ((r11.length + [y18].length)*8≤140737488355328) (l29_1 k m0 m x8 x29 x30 x31 x67 x68 (wrap64 (x69+(1:Int))) b0_0 b0_1 b0_2 b0_3 b0_4 b0_5 b1_0 b1_1 b1_2 r2 r3 r4 b5_0 b5_1 b5_2 r6 r7 r8 r9 b10_0 b10_1 b10_2 b10_3 b10_4 (r11++[y18])) else l29_1 k m0 m x8 x29 x30 x31 x67 x68 (wrap64 (x69+(1:Int))) b0_0 b0_1 b0_2 b0_3 b0_4 b0_5 b1_0 b1_1 b1_2 r2 r3 r4 b5_0 b5_1 b5_2 r6 r7 r8 r9 b10_0 b10_1 b10_2 b10_3 b10_4 r11 else none else none else none) (l29_1 k m0 m x8 x29 x30 x31 x67 x68 (wrap64 (x69+(1:Int))) b0_0 b0_1 b0_2 b0_3 b0_4 b0_5 b1_0 b1_1 b1_2 r2 r3 r4 b5_0 b5_1 b5_2 r6 r7 r8 r9 b10_0 b10_1 b10_2 b10_3 b10_4 r11) else none else none else chk ((r8.length + [r11].length)*24≤140737488355328) (if 0≤x8 then if x8<(r6.length:Int) then if x8.toNat<r6.length then if (r6.getD x8.toNat false)=true then l29_0 k m0 x29 x30 (wrap64 (x31+(1:Int))) b0_0 b0_1 b0_2 b0_3 b0_4 b0_5 b1_0 b1_1 b1_2 r2 r3 r4 b5_0 b5_1 b5_2 r6 r7 (r8++[r11]) (setI r9 b10_1 x8) else l29_0 k m0 x29 x30 (wrap64 (x31+(1:Int))) b0_0 b0_1 b0_2 b0_3 b0_4 b0_5 b1_0 b1_1 b1_2 r2 r3 r4 b5_0 b5_1 b5_2 r6 r7 (r8++[r11]) r9 else none else none else none):=by kernel_rfl
theorem l29_0_eq (k m:Nat) (x29:List S72) (x30:Int) (x31:Int) (b0_0:List UInt8) (b0_1:List Int) (b0_2:List S78) (b0_3:List S80) (b0_4:List Int) (b0_5:List S53) (b1_0:Int) (b1_1:Int) (b1_2:Int) (r2:List Bool) (r3:List Int) (r4:List (List Int)) (b5_0:Int) (b5_1:Int) (b5_2:Int) (r6:List Bool) (r7:List Int) (r8:List (List Int)) (r9:Int→Option Int):l29_0 k (m+1) x29 x30 x31 b0_0 b0_1 b0_2 b0_3 b0_4 b0_5 b1_0 b1_1 b1_2 r2 r3 r4 b5_0 b5_1 b5_2 r6 r7 r8 r9=if x31<x30 then if 0≤x31 then if x31<(x29.length:Int) then (evF T k 48 [.agg [.str b0_0,.vsl none (.int .i64) b0_1,.vsl none (.named 78) b0_2,.vsl none (.named 80) b0_3,.vsl none (.int .i64) b0_4,.vsl none (.named 53) b0_5],.agg [.int .i64 ((x29.getD x31.toNat z72).f0),.int .i64 ((x29.getD x31.toNat z72).f1),.vsl none (.int .i64) ((x29.getD x31.toNat z72).f2),.int .u64 ((x29.getD x31.toNat z72).f3),.int .i64 ((x29.getD x31.toNat z72).f4)]] []).bind fun r=>res48 r fun y5 y6 y7 y8 y9 y10=>(evF T k 49 [.int .i64 ((x29.getD x31.toNat z72).f0),.int .i64 y6] []).bind fun r=>res49 r fun y11 y12 y13 y14 y15 y16 y17=>if y17=(0:Int) then chk ((r6.length + [(decide (y5=(0:Int)))].length)*1≤140737488355328) (chk ((r7.length + [y7].length)*8≤140737488355328) (l29_1 k m k x31 x29 x30 x31 ((x29.getD x31.toNat z72).f2) (((x29.getD x31.toNat z72).f2).length:Int) (0:Int) b0_0 b0_1 b0_2 b0_3 b0_4 b0_5 b1_0 b1_1 b1_2 r2 r3 r4 b5_0 b5_1 b5_2 (r6++[(decide (y5=(0:Int)))]) (r7++[y7]) r8 r9 ((x29.getD x31.toNat z72).f0) ((x29.getD x31.toNat z72).f1) ((x29.getD x31.toNat z72).f2) ((x29.getD x31.toNat z72).f3) ((x29.getD x31.toNat z72).f4) [])) else chk ((r6.length + [false].length)*1≤140737488355328) (chk ((r7.length + [y7].length)*8≤140737488355328) (l29_1 k m k x31 x29 x30 x31 ((x29.getD x31.toNat z72).f2) (((x29.getD x31.toNat z72).f2).length:Int) (0:Int) b0_0 b0_1 b0_2 b0_3 b0_4 b0_5 b1_0 b1_1 b1_2 r2 r3 r4 b5_0 b5_1 b5_2 (r6++[false]) (r7++[y7]) r8 r9 ((x29.getD x31.toNat z72).f0) ((x29.getD x31.toNat z72).f1) ((x29.getD x31.toNat z72).f2) ((x29.getD x31.toNat z72).f3) ((x29.getD x31.toNat z72).f4) [])) else none else none else some ([.agg [.int .i64 b5_0,.int .i64 b5_1,.int .i64 b5_2,.vsl none .bool r6,.vsl none (.int .i64) r7,.vsl none (.list (.int .i64)) r8]],[]):=by kernel_rfl
theorem f29_eq (k:Nat) (a0_0:List UInt8) (a0_1:List Int) (a0_2:List S78) (a0_3:List S80) (a0_4:List Int) (a0_5:List S53) (a1:Int):evF T (k+1) 29 [.agg [.str a0_0,.vsl none (.int .i64) a0_1,.vsl none (.named 78) a0_2,.vsl none (.named 80) a0_3,.vsl none (.int .i64) a0_4,.vsl none (.named 53) a0_5],.int .i64 a1] []=if 0≤a1 then if a1<(a0_5.length:Int) then (evF T k 33 [.agg [.str a0_0,.vsl none (.int .i64) a0_1,.vsl none (.named 78) a0_2,.vsl none (.named 80) a0_3,.vsl none (.int .i64) a0_4,.vsl none (.named 53) a0_5]] []).bind fun r=>res33 r fun y1=>(evF T k 32 [.int .i64 y1] []).bind fun r=>res32 r fun y2 y3 y4=>l29_0 k k ((a0_5.getD a1.toNat z53).f1) (((a0_5.getD a1.toNat z53).f1).length:Int) (0:Int) a0_0 a0_1 a0_2 a0_3 a0_4 a0_5 (0:Int) (0:Int) (0:Int) [] [] [] y2 y3 y4 [] [] [] (fun _=>none) else none else none:=by kernel_rfl
noncomputable def l10_0 (k m:Nat) (x3:Int) (b0_0:List Int) (b0_1:List S66) (b0_2:List S66) (b0_3:List Int) (b0_4:List S75):Option (Ans N):=lp T 10 0 [1,0,1,0] k [] m ⟨[(1,.bptr 0 0),(3,.int .i64 x3)],[some (.box [.vsl none (.int .u8) b0_0,.vsl none (.named 66) b0_1,.vsl none (.named 66) b0_2,.vsl none (.int .u8) b0_3,.vsl none (.named 75) b0_4])]⟩
theorem l10_0_eq (k m:Nat) (x3:Int) (b0_0:List Int) (b0_1:List S66) (b0_2:List S66) (b0_3:List Int) (b0_4:List S75):l10_0 k (m+1) x3 b0_0 b0_1 b0_2 b0_3 b0_4=if x3<(b0_4.length:Int) then if 0≤x3 then if x3<(b0_4.length:Int) then if (((b0_4.getD x3.toNat z75).f0).length:Int)>(5:Int) then some ([.bool false],[]) else if 0≤x3 then if x3<(b0_4.length:Int) then if (((b0_4.getD x3.toNat z75).f1).length:Int)>(14:Int) then some ([.bool false],[]) else l10_0 k m (wrap64 (x3+(1:Int))) b0_0 b0_1 b0_2 b0_3 b0_4 else none else none else none else none else if (b0_0.length:Int)≤(4:Int) then if (b0_1.length:Int)≤(3:Int) then if (b0_2.length:Int)≤(4:Int) then if (b0_3.length:Int)≤(3:Int) then some ([.bool (decide ((b0_4.length:Int)≤(5:Int)))],[]) else some ([.bool false],[]) else some ([.bool false],[]) else some ([.bool false],[]) else some ([.bool false],[]):=by kernel_rfl
theorem f10_eq (k:Nat) (a0_0:List Int) (a0_1:List S66) (a0_2:List S66) (a0_3:List Int) (a0_4:List S75):evF T (k+1) 10 [.agg [.vsl none (.int .u8) a0_0,.vsl none (.named 66) a0_1,.vsl none (.named 66) a0_2,.vsl none (.int .u8) a0_3,.vsl none (.named 75) a0_4]] []=l10_0 k k (0:Int) a0_0 a0_1 a0_2 a0_3 a0_4:=by kernel_rfl
theorem f12_eq (k:Nat) (a0_0:List UInt8) (a0_1:List Int) (a0_2:List S78) (a0_3:List S80) (a0_4:List Int) (a0_5:List S53) (a1:Int):evF T (k+1) 12 [.agg [.str a0_0,.vsl none (.int .i64) a0_1,.vsl none (.named 78) a0_2,.vsl none (.named 80) a0_3,.vsl none (.int .i64) a0_4,.vsl none (.named 53) a0_5],.int .u8 a1] []=if (a0_5.length:Int)=0 then none else some ([.int .i64 (((wrap64 (a1))).tmod (a0_5.length:Int))],[]):=by kernel_rfl
theorem f44_eq (k:Nat) (a0:Int):evF T (k+1) 44 [.int .i64 a0] []=if a0≥(2:Int) then some ([.bool (decide (a0≤(20:Int)))],[]) else some ([.bool false],[]):=by kernel_rfl
theorem f52_eq (k:Nat) (a0:Int):evF T (k+1) 52 [.int .i64 a0] []=(evF T k 44 [.int .i64 a0] []).bind fun r=>res44 r fun y1=>if y1=true then some ([.bool true],[]) else if a0≥(21:Int) then some ([.bool (decide (a0≤(24:Int)))],[]) else some ([.bool false],[]):=by kernel_rfl
noncomputable def l36_0 (k m:Nat) (x3:Int) (x4:Int) (b0_0:List UInt8) (b0_1:List Int) (b0_2:List S78) (b0_3:List S80) (b0_4:List Int) (b0_5:List S53):Option (Ans N):=lp T 36 0 [1,1,0,1,0] k [] m ⟨[(1,.bptr 0 0),(3,.int .i64 x3),(4,.int .i64 x4)],[some (.box [.str b0_0,.vsl none (.int .i64) b0_1,.vsl none (.named 78) b0_2,.vsl none (.named 80) b0_3,.vsl none (.int .i64) b0_4,.vsl none (.named 53) b0_5])]⟩
theorem l36_0_eq (k m:Nat) (x3:Int) (x4:Int) (b0_0:List UInt8) (b0_1:List Int) (b0_2:List S78) (b0_3:List S80) (b0_4:List Int) (b0_5:List S53):l36_0 k (m+1) x3 x4 b0_0 b0_1 b0_2 b0_3 b0_4 b0_5=if x4<(b0_5.length:Int) then if 0≤x4 then if x4<(b0_5.length:Int) then l36_0 k m (wrap64 (x3+(wrap64 ((wrap64 ((wrap64 ((1:Int)+(((b0_5.getD x4.toNat z53).f0).length:Int)))+(((b0_5.getD x4.toNat z53).f1).length:Int)))+(((b0_5.getD x4.toNat z53).f4).length:Int))))) (wrap64 (x4+(1:Int))) b0_0 b0_1 b0_2 b0_3 b0_4 b0_5 else none else none else some ([.int .i64 x3],[]):=by kernel_rfl
theorem f36_eq (k:Nat) (a0_0:List UInt8) (a0_1:List Int) (a0_2:List S78) (a0_3:List S80) (a0_4:List Int) (a0_5:List S53):evF T (k+1) 36 [.agg [.str a0_0,.vsl none (.int .i64) a0_1,.vsl none (.named 78) a0_2,.vsl none (.named 80) a0_3,.vsl none (.int .i64) a0_4,.vsl none (.named 53) a0_5]] []=l36_0 k k (0:Int) (0:Int) a0_0 a0_1 a0_2 a0_3 a0_4 a0_5:=by kernel_rfl
noncomputable def l51_0 (k m:Nat) (x0:Int) (x3:Int) (x4:Int):Option (Ans N):=lp T 51 0 [1,1,0,1,0] k [] m ⟨[(0,.int .i64 x0),(3,.int .i64 x3),(4,.int .i64 x4)],[]⟩
theorem l51_0_eq (k m:Nat) (x0:Int) (x3:Int) (x4:Int):l51_0 k (m+1) x0 x3 x4=if x4<x0 then if x3<(62:Int) then l51_0 k m x0 (wrap64 (x3+(1:Int))) (wrap64 ((2:Int)*x4)) else some ([.int .i64 x3],[]) else some ([.int .i64 x3],[]):=by kernel_rfl
theorem f51_eq (k:Nat) (a0:Int):evF T (k+1) 51 [.int .i64 a0] []=l51_0 k k a0 (0:Int) (1:Int):=by kernel_rfl
theorem f35_eq (k:Nat) (a0:Int):evF T (k+1) 35 [.int .i64 a0] []=(evF T k 51 [.int .i64 a0] []).bind fun r=>res51 r fun y1=>(evF T k 51 [.int .i64 a0] []).bind fun r=>res51 r fun y2=>some ([.agg [.int .i64 (30:Int),.int .i64 (wrap64 ((300:Int)+(wrap64 ((20:Int)*y1)))),.int .i64 (wrap64 ((320:Int)+(wrap64 ((40:Int)*y2))))]],[]):=by kernel_rfl
theorem f42_eq (k:Nat) (a0:Int):evF T (k+1) 42 [.int .i64 a0] []=if a0≥(15:Int) then some ([.bool (decide (a0≤(20:Int)))],[]) else some ([.bool false],[]):=by kernel_rfl
theorem f53_eq (k:Nat) (a0_0:List UInt8) (a0_1:List Int) (a0_2:List S78) (a0_3:List S80) (a0_4:List Int) (a0_5:List S53) (a1_0:Int) (a1_1:Int) (a1_2:List Int) (a1_3:Int) (a1_4:Int):evF T (k+1) 53 [.agg [.str a0_0,.vsl none (.int .i64) a0_1,.vsl none (.named 78) a0_2,.vsl none (.named 80) a0_3,.vsl none (.int .i64) a0_4,.vsl none (.named 53) a0_5],.agg [.int .i64 a1_0,.int .i64 a1_1,.vsl none (.int .i64) a1_2,.int .u64 a1_3,.int .i64 a1_4]] []=if a1_0=(26:Int) then if 0≤a1_4 then if a1_4<(a0_2.length:Int) then some ([.int .i64 ((a0_2.getD a1_4.toNat z78).f1)],[]) else none else none else if a1_0=(28:Int) then if 0≤a1_4 then if a1_4<(a0_3.length:Int) then some ([.int .i64 ((a0_3.getD a1_4.toNat z80).f1)],[]) else none else none else (evF T k 42 [.int .i64 a1_0] []).bind fun r=>res42 r fun y1=>if y1=true then if 0≤(0:Int) then if (0:Int)<(a1_2.length:Int) then if 0≤(a1_2.getD (0:Int).toNat (0:Int)) then if (a1_2.getD (0:Int).toNat (0:Int))<(a0_1.length:Int) then some ([.int .i64 (a0_1.getD (a1_2.getD (0:Int).toNat (0:Int)).toNat (0:Int))],[]) else none else none else none else none else if 0≤a1_1 then if a1_1<(a0_1.length:Int) then some ([.int .i64 (a0_1.getD a1_1.toNat (0:Int))],[]) else none else none:=by kernel_rfl
theorem f59_eq (k:Nat) (a0:Int) (a1:Int) (a2:Int):evF T (k+1) 59 [.int .i64 a0,.int .i64 a1,.int .i64 a2] []=some ([.agg [.int .i64 (0:Int),.int .i64 a0,.int .i64 a1,.int .i64 (0:Int),.int .i64 (0:Int),.int .i64 a2]],[]):=by kernel_rfl
noncomputable def j54_0 (k:Nat) (x0:Int) (x1:Int) (x5:Int) (x6:Int) (x12:Int) (x41:Bool) (b0_0:Int) (b0_1:Int) (b0_2:Int) (b0_3:Int) (b0_4:Int) (b0_5:Int):Option (Ans N):=jn T 54 0 [1,1,0,1,0,1,1,1,1,1] k [] ⟨[(0,.int .i64 x0),(1,.int .i64 x1),(4,.bptr 0 0),(5,.int .i64 x5),(6,.int .i64 x6),(12,.int .i64 x12),(41,.bool x41)],[some (.box [.int .i64 b0_0,.int .i64 b0_1,.int .i64 b0_2,.int .i64 b0_3,.int .i64 b0_4,.int .i64 b0_5])]⟩
noncomputable def j54_1 (k:Nat) (x0:Int) (x1:Int) (x5:Int) (x6:Int) (x12:Int) (x48:Bool) (b0_0:Int) (b0_1:Int) (b0_2:Int) (b0_3:Int) (b0_4:Int) (b0_5:Int):Option (Ans N):=jn T 54 0 [1,1,0,1,0,1,1,1,1,1,1,1] k [] ⟨[(0,.int .i64 x0),(1,.int .i64 x1),(4,.bptr 0 0),(5,.int .i64 x5),(6,.int .i64 x6),(12,.int .i64 x12),(48,.bool x48)],[some (.box [.int .i64 b0_0,.int .i64 b0_1,.int .i64 b0_2,.int .i64 b0_3,.int .i64 b0_4,.int .i64 b0_5])]⟩
noncomputable def j54_2 (k:Nat) (x0:Int) (x1:Int) (x5:Int) (x6:Int) (x12:Int) (x77:Bool) (b0_0:Int) (b0_1:Int) (b0_2:Int) (b0_3:Int) (b0_4:Int) (b0_5:Int):Option (Ans N):=jn T 54 0 [1,1,0,1,0,1,1,1,1,1,1,1,1,1,1,1] k [] ⟨[(0,.int .i64 x0),(1,.int .i64 x1),(4,.bptr 0 0),(5,.int .i64 x5),(6,.int .i64 x6),(12,.int .i64 x12),(77,.bool x77)],[some (.box [.int .i64 b0_0,.int .i64 b0_1,.int .i64 b0_2,.int .i64 b0_3,.int .i64 b0_4,.int .i64 b0_5])]⟩
noncomputable def j54_3 (k:Nat) (x0:Int) (x1:Int) (x6:Int) (x12:Int) (x87:Bool) (b0_0:Int) (b0_1:Int) (b0_2:Int) (b0_3:Int) (b0_4:Int) (b0_5:Int):Option (Ans N):=jn T 54 0 [1,1,0,1,0,1,1,1,1,1,1,1,1,1,1,1,1,1] k [] ⟨[(0,.int .i64 x0),(1,.int .i64 x1),(4,.bptr 0 0),(6,.int .i64 x6),(12,.int .i64 x12),(87,.bool x87)],[some (.box [.int .i64 b0_0,.int .i64 b0_1,.int .i64 b0_2,.int .i64 b0_3,.int .i64 b0_4,.int .i64 b0_5])]⟩
noncomputable def j54_4 (k:Nat) (x0:Int) (x1:Int) (x6:Int) (x12:Int) (x102:Bool) (b0_0:Int) (b0_1:Int) (b0_2:Int) (b0_3:Int) (b0_4:Int) (b0_5:Int):Option (Ans N):=jn T 54 0 [1,1,0,1,0,1,1,1,1,1,1,1,1,1,1,1,1,1,1,1] k [] ⟨[(0,.int .i64 x0),(1,.int .i64 x1),(4,.bptr 0 0),(6,.int .i64 x6),(12,.int .i64 x12),(102,.bool x102)],[some (.box [.int .i64 b0_0,.int .i64 b0_1,.int .i64 b0_2,.int .i64 b0_3,.int .i64 b0_4,.int .i64 b0_5])]⟩
noncomputable def j54_5 (k:Nat) (x0:Int) (x1:Int) (x137:Bool) (b0_0:Int) (b0_1:Int) (b0_2:Int) (b0_3:Int) (b0_4:Int) (b0_5:Int):Option (Ans N):=jn T 54 0 [1,1,0,1,0,1,1,1,1,1,1,1,1,1,1,1,1,1,1,1,1,1,1,1,1,1] k [] ⟨[(0,.int .i64 x0),(1,.int .i64 x1),(4,.bptr 0 0),(137,.bool x137)],[some (.box [.int .i64 b0_0,.int .i64 b0_1,.int .i64 b0_2,.int .i64 b0_3,.int .i64 b0_4,.int .i64 b0_5])]⟩
theorem j54_5_eq (k:Nat) (x0:Int) (x1:Int) (x137:Bool) (b0_0:Int) (b0_1:Int) (b0_2:Int) (b0_3:Int) (b0_4:Int) (b0_5:Int):j54_5 k  x0 x1 x137 b0_0 b0_1 b0_2 b0_3 b0_4 b0_5=if x137=true then if (8:Int)=0 then none else if (16:Int)=0 then none else some ([.agg [.int .i64 (wrap64 ((wrap64 ((2:Int)+x0)) - (5:Int))),.int .i64 x1,.int .i64 (0:Int),.int .i64 (wrap64 ((2:Int)+(wrap64 (((wrap64 (x1+(7:Int)))).tdiv (8:Int))))),.int .i64 (wrap64 ((1:Int)+(wrap64 (((wrap64 (x1+(15:Int)))).tdiv (16:Int))))),.int .i64 (wrap64 ((wrap64 ((8:Int)*x1))*x1))]],[]) else (evF T k 59 [.int .i64 x1,.int .i64 (0:Int),.int .i64 (0:Int)] []).bind fun r=>res59 r fun y57 y58 y59 y60 y61 y62=>some ([.agg [.int .i64 y57,.int .i64 y58,.int .i64 y59,.int .i64 y60,.int .i64 y61,.int .i64 y62]],[]):=by unfold j54_5;rw [jn_eq];kernel_rfl
theorem j54_4_eq (k:Nat) (x0:Int) (x1:Int) (x6:Int) (x12:Int) (x102:Bool) (b0_0:Int) (b0_1:Int) (b0_2:Int) (b0_3:Int) (b0_4:Int) (b0_5:Int):j54_4 k  x0 x1 x6 x12 x102 b0_0 b0_1 b0_2 b0_3 b0_4 b0_5=if x102=true then (evF T k 59 [.int .i64 x1,.int .i64 (wrap64 ((50:Int)+(wrap64 ((40:Int)*x6)))),.int .i64 (wrap64 ((wrap64 ((wrap64 ((4:Int)*x1))+(wrap64 ((wrap64 ((3:Int)*x1))*x6))))+(2:Int)))] []).bind fun r=>res59 r fun y45 y46 y47 y48 y49 y50=>some ([.agg [.int .i64 y45,.int .i64 y46,.int .i64 y47,.int .i64 y48,.int .i64 y49,.int .i64 y50]],[]) else if x12=(21:Int) then (evF T k 59 [.int .i64 x1,.int .i64 (50:Int),.int .i64 (wrap64 ((wrap64 ((3:Int)*x1))+(1:Int)))] []).bind fun r=>res59 r fun y51 y52 y53 y54 y55 y56=>some ([.agg [.int .i64 y51,.int .i64 y52,.int .i64 y53,.int .i64 y54,.int .i64 y55,.int .i64 y56]],[]) else if x12=(4:Int) then if (16:Int)=0 then none else some ([.agg [.int .i64 (1:Int),.int .i64 x1,.int .i64 (0:Int),.int .i64 (wrap64 ((1:Int)+(wrap64 (((wrap64 (x1+(15:Int)))).tdiv (16:Int))))),.int .i64 (1:Int),.int .i64 (wrap64 ((wrap64 ((6:Int)*x1))*x1))]],[]) else if x12=(5:Int) then j54_5 k x0 x1 (decide (x12=(5:Int))) b0_0 b0_1 b0_2 b0_3 b0_4 b0_5 else if x12=(6:Int) then j54_5 k x0 x1 (decide (x12=(6:Int))) b0_0 b0_1 b0_2 b0_3 b0_4 b0_5 else if x12=(7:Int) then j54_5 k x0 x1 (decide (x12=(7:Int))) b0_0 b0_1 b0_2 b0_3 b0_4 b0_5 else j54_5 k x0 x1 (decide (x12=(8:Int))) b0_0 b0_1 b0_2 b0_3 b0_4 b0_5:=by unfold j54_4;rw [jn_eq];kernel_rfl
theorem j54_3_eq (k:Nat) (x0:Int) (x1:Int) (x6:Int) (x12:Int) (x87:Bool) (b0_0:Int) (b0_1:Int) (b0_2:Int) (b0_3:Int) (b0_4:Int) (b0_5:Int):j54_3 k  x0 x1 x6 x12 x87 b0_0 b0_1 b0_2 b0_3 b0_4 b0_5=if x87=true then (evF T k 59 [.int .i64 x1,.int .i64 (wrap64 ((40:Int)+(wrap64 ((40:Int)*x6)))),.int .i64 (wrap64 ((wrap64 ((4:Int)*x1))+(wrap64 ((wrap64 ((3:Int)*x1))*x6))))] []).bind fun r=>res59 r fun y39 y40 y41 y42 y43 y44=>some ([.agg [.int .i64 y39,.int .i64 y40,.int .i64 y41,.int .i64 y42,.int .i64 y43,.int .i64 y44]],[]) else if x12=(19:Int) then j54_4 k x0 x1 x6 x12 (decide (x12=(19:Int))) b0_0 b0_1 b0_2 b0_3 b0_4 b0_5 else j54_4 k x0 x1 x6 x12 (decide (x12=(20:Int))) b0_0 b0_1 b0_2 b0_3 b0_4 b0_5:=by unfold j54_3;rw [jn_eq];kernel_rfl
theorem j54_2_eq (k:Nat) (x0:Int) (x1:Int) (x5:Int) (x6:Int) (x12:Int) (x77:Bool) (b0_0:Int) (b0_1:Int) (b0_2:Int) (b0_3:Int) (b0_4:Int) (b0_5:Int):j54_2 k  x0 x1 x5 x6 x12 x77 b0_0 b0_1 b0_2 b0_3 b0_4 b0_5=if x77=true then (evF T k 59 [.int .i64 x1,.int .i64 (wrap64 ((30:Int)+(wrap64 ((20:Int)*x5)))),.int .i64 (wrap64 ((2:Int)*x1))] []).bind fun r=>res59 r fun y33 y34 y35 y36 y37 y38=>some ([.agg [.int .i64 y33,.int .i64 y34,.int .i64 y35,.int .i64 y36,.int .i64 y37,.int .i64 y38]],[]) else if x12=(17:Int) then j54_3 k x0 x1 x6 x12 (decide (x12=(17:Int))) b0_0 b0_1 b0_2 b0_3 b0_4 b0_5 else j54_3 k x0 x1 x6 x12 (decide (x12=(18:Int))) b0_0 b0_1 b0_2 b0_3 b0_4 b0_5:=by unfold j54_2;rw [jn_eq];kernel_rfl
theorem j54_1_eq (k:Nat) (x0:Int) (x1:Int) (x5:Int) (x6:Int) (x12:Int) (x48:Bool) (b0_0:Int) (b0_1:Int) (b0_2:Int) (b0_3:Int) (b0_4:Int) (b0_5:Int):j54_1 k  x0 x1 x5 x6 x12 x48 b0_0 b0_1 b0_2 b0_3 b0_4 b0_5=if x48=true then (evF T k 59 [.int .i64 x1,.int .i64 (wrap64 ((30:Int)+(wrap64 ((40:Int)*x5)))),.int .i64 (wrap64 ((wrap64 ((2:Int)*x1))+(wrap64 ((wrap64 ((3:Int)*x1))*x5))))] []).bind fun r=>res59 r fun y21 y22 y23 y24 y25 y26=>some ([.agg [.int .i64 y21,.int .i64 y22,.int .i64 y23,.int .i64 y24,.int .i64 y25,.int .i64 y26]],[]) else if x12=(14:Int) then (evF T k 59 [.int .i64 x1,.int .i64 (wrap64 ((50:Int)+(wrap64 ((40:Int)*x5)))),.int .i64 (wrap64 ((wrap64 ((4:Int)*x1))+(wrap64 ((wrap64 ((3:Int)*x1))*x5))))] []).bind fun r=>res59 r fun y27 y28 y29 y30 y31 y32=>some ([.agg [.int .i64 y27,.int .i64 y28,.int .i64 y29,.int .i64 y30,.int .i64 y31,.int .i64 y32]],[]) else if x12=(15:Int) then j54_2 k x0 x1 x5 x6 x12 (decide (x12=(15:Int))) b0_0 b0_1 b0_2 b0_3 b0_4 b0_5 else j54_2 k x0 x1 x5 x6 x12 (decide (x12=(16:Int))) b0_0 b0_1 b0_2 b0_3 b0_4 b0_5:=by unfold j54_1;rw [jn_eq];kernel_rfl
theorem j54_0_eq (k:Nat) (x0:Int) (x1:Int) (x5:Int) (x6:Int) (x12:Int) (x41:Bool) (b0_0:Int) (b0_1:Int) (b0_2:Int) (b0_3:Int) (b0_4:Int) (b0_5:Int):j54_0 k  x0 x1 x5 x6 x12 x41 b0_0 b0_1 b0_2 b0_3 b0_4 b0_5=if x41=true then (evF T k 59 [.int .i64 x1,.int .i64 (20:Int),.int .i64 x1] []).bind fun r=>res59 r fun y15 y16 y17 y18 y19 y20=>some ([.agg [.int .i64 y15,.int .i64 y16,.int .i64 y17,.int .i64 y18,.int .i64 y19,.int .i64 y20]],[]) else if x12=(12:Int) then j54_1 k x0 x1 x5 x6 x12 (decide (x12=(12:Int))) b0_0 b0_1 b0_2 b0_3 b0_4 b0_5 else j54_1 k x0 x1 x5 x6 x12 (decide (x12=(13:Int))) b0_0 b0_1 b0_2 b0_3 b0_4 b0_5:=by unfold j54_0;rw [jn_eq];kernel_rfl
theorem f54_eq (k:Nat) (a0:Int) (a1:Int):evF T (k+1) 54 [.int .i64 a0,.int .i64 a1] []=(evF T k 51 [.int .i64 a1] []).bind fun r=>res51 r fun y1=>(evF T k 51 [.int .i64 (wrap64 (a1+(1:Int)))] []).bind fun r=>res51 r fun y2=>if a0=(2:Int) then (evF T k 59 [.int .i64 a1,.int .i64 (wrap64 ((40:Int)+(wrap64 ((40:Int)*y1)))),.int .i64 (wrap64 ((wrap64 ((3:Int)*a1))+(wrap64 ((wrap64 ((3:Int)*a1))*y1))))] []).bind fun r=>res59 r fun y3 y4 y5 y6 y7 y8=>some ([.agg [.int .i64 y3,.int .i64 y4,.int .i64 y5,.int .i64 y6,.int .i64 y7,.int .i64 y8]],[]) else if a0=(3:Int) then (evF T k 59 [.int .i64 a1,.int .i64 (wrap64 ((50:Int)+(wrap64 ((40:Int)*y1)))),.int .i64 (wrap64 ((wrap64 ((4:Int)*a1))+(wrap64 ((wrap64 ((3:Int)*a1))*y1))))] []).bind fun r=>res59 r fun y9 y10 y11 y12 y13 y14=>some ([.agg [.int .i64 y9,.int .i64 y10,.int .i64 y11,.int .i64 y12,.int .i64 y13,.int .i64 y14]],[]) else if a0=(9:Int) then j54_0 k a0 a1 y1 y2 a0 (decide (a0=(9:Int))) (0:Int) (0:Int) (0:Int) (0:Int) (0:Int) (0:Int) else if a0=(10:Int) then j54_0 k a0 a1 y1 y2 a0 (decide (a0=(10:Int))) (0:Int) (0:Int) (0:Int) (0:Int) (0:Int) (0:Int) else j54_0 k a0 a1 y1 y2 a0 (decide (a0=(11:Int))) (0:Int) (0:Int) (0:Int) (0:Int) (0:Int) (0:Int):=by kernel_rfl
theorem f38_eq (k:Nat) (a0_0:List UInt8) (a0_1:List Int) (a0_2:List S78) (a0_3:List S80) (a0_4:List Int) (a0_5:List S53) (a1_0:Int) (a1_1:Int) (a1_2:List Int) (a1_3:Int) (a1_4:Int):evF T (k+1) 38 [.agg [.str a0_0,.vsl none (.int .i64) a0_1,.vsl none (.named 78) a0_2,.vsl none (.named 80) a0_3,.vsl none (.int .i64) a0_4,.vsl none (.named 53) a0_5],.agg [.int .i64 a1_0,.int .i64 a1_1,.vsl none (.int .i64) a1_2,.int .u64 a1_3,.int .i64 a1_4]] []=(evF T k 53 [.agg [.str a0_0,.vsl none (.int .i64) a0_1,.vsl none (.named 78) a0_2,.vsl none (.named 80) a0_3,.vsl none (.int .i64) a0_4,.vsl none (.named 53) a0_5],.agg [.int .i64 a1_0,.int .i64 a1_1,.vsl none (.int .i64) a1_2,.int .u64 a1_3,.int .i64 a1_4]] []).bind fun r=>res53 r fun y1=>(evF T k 52 [.int .i64 a1_0] []).bind fun r=>res52 r fun y2=>if y2=true then (evF T k 54 [.int .i64 a1_0,.int .i64 y1] []).bind fun r=>res54 r fun y3 y4 y5 y6 y7 y8=>some ([.agg [.int .i64 y3,.int .i64 y4,.int .i64 y5,.int .i64 y6,.int .i64 y7,.int .i64 y8]],[]) else if a1_0=(25:Int) then some ([.agg [.int .i64 (0:Int),.int .i64 y1,.int .i64 (0:Int),.int .i64 (1:Int),.int .i64 (1:Int),.int .i64 (0:Int)]],[]) else if a1_0=(27:Int) then some ([.agg [.int .i64 (0:Int),.int .i64 y1,.int .i64 (0:Int),.int .i64 (1:Int),.int .i64 (1:Int),.int .i64 (0:Int)]],[]) else some ([.agg [.int .i64 (0:Int),.int .i64 y1,.int .i64 (0:Int),.int .i64 (0:Int),.int .i64 (0:Int),.int .i64 (0:Int)]],[]):=by kernel_rfl
noncomputable def l21_0 (k m:Nat) (x4:Int) (x5:Int) (b0_0:List UInt8) (b0_1:List Int) (b0_2:List S78) (b0_3:List S80) (b0_4:List Int) (b0_5:List S53) (b1_0:Int) (b1_1:Int) (b1_2:Int):Option (Ans N):=lp T 21 0 [1,1,1,0,1,0] k [] m ⟨[(1,.bptr 0 0),(3,.bptr 1 0),(4,.int .i64 x4),(5,.int .i64 x5)],[some (.box [.str b0_0,.vsl none (.int .i64) b0_1,.vsl none (.named 78) b0_2,.vsl none (.named 80) b0_3,.vsl none (.int .i64) b0_4,.vsl none (.named 53) b0_5]),some (.box [.int .i64 b1_0,.int .i64 b1_1,.int .i64 b1_2])]⟩
noncomputable def l21_1 (k m0 m:Nat) (x4:Int) (x5:Int) (x6:Int) (b0_0:List UInt8) (b0_1:List Int) (b0_2:List S78) (b0_3:List S80) (b0_4:List Int) (b0_5:List S53) (b1_0:Int) (b1_1:Int) (b1_2:Int):Option (Ans N):=lp T 21 0 [1,1,1,0,1,0,0,1,0,0,1,0] k [m0] m ⟨[(1,.bptr 0 0),(3,.bptr 1 0),(4,.int .i64 x4),(5,.int .i64 x5),(6,.int .i64 x6)],[some (.box [.str b0_0,.vsl none (.int .i64) b0_1,.vsl none (.named 78) b0_2,.vsl none (.named 80) b0_3,.vsl none (.int .i64) b0_4,.vsl none (.named 53) b0_5]),some (.box [.int .i64 b1_0,.int .i64 b1_1,.int .i64 b1_2])]⟩
theorem l21_1_eq (k m0 m:Nat) (x4:Int) (x5:Int) (x6:Int) (b0_0:List UInt8) (b0_1:List Int) (b0_2:List S78) (b0_3:List S80) (b0_4:List Int) (b0_5:List S53) (b1_0:Int) (b1_1:Int) (b1_2:Int):l21_1 k m0 (m+1) x4 x5 x6 b0_0 b0_1 b0_2 b0_3 b0_4 b0_5 b1_0 b1_1 b1_2=if 0≤x5 then if x5<(b0_5.length:Int) then if x6<(((b0_5.getD x5.toNat z53).f1).length:Int) then if 0≤x5 then if x5<(b0_5.length:Int) then if 0≤x6 then if x6<(((b0_5.getD x5.toNat z53).f1).length:Int) then (evF T k 38 [.agg [.str b0_0,.vsl none (.int .i64) b0_1,.vsl none (.named 78) b0_2,.vsl none (.named 80) b0_3,.vsl none (.int .i64) b0_4,.vsl none (.named 53) b0_5],.agg [.int .i64 ((((b0_5.getD x5.toNat z53).f1).getD x6.toNat z72).f0),.int .i64 ((((b0_5.getD x5.toNat z53).f1).getD x6.toNat z72).f1),.vsl none (.int .i64) ((((b0_5.getD x5.toNat z53).f1).getD x6.toNat z72).f2),.int .u64 ((((b0_5.getD x5.toNat z53).f1).getD x6.toNat z72).f3),.int .i64 ((((b0_5.getD x5.toNat z53).f1).getD x6.toNat z72).f4)]] []).bind fun r=>res38 r fun y5 y6 y7 y8 y9 y10=>l21_1 k m0 m (if x4<(wrap64 ((wrap64 (b1_0+y7))+b1_1)) then (wrap64 ((wrap64 (b1_0+y7))+b1_1)) else x4) x5 (wrap64 (x6+(1:Int))) b0_0 b0_1 b0_2 b0_3 b0_4 b0_5 b1_0 b1_1 b1_2 else none else none else none else none else l21_0 k m0 x4 (wrap64 (x5+(1:Int))) b0_0 b0_1 b0_2 b0_3 b0_4 b0_5 b1_0 b1_1 b1_2 else none else none:=by kernel_rfl
theorem l21_0_eq (k m:Nat) (x4:Int) (x5:Int) (b0_0:List UInt8) (b0_1:List Int) (b0_2:List S78) (b0_3:List S80) (b0_4:List Int) (b0_5:List S53) (b1_0:Int) (b1_1:Int) (b1_2:Int):l21_0 k (m+1) x4 x5 b0_0 b0_1 b0_2 b0_3 b0_4 b0_5 b1_0 b1_1 b1_2=if x5<(b0_5.length:Int) then l21_1 k m k x4 x5 (0:Int) b0_0 b0_1 b0_2 b0_3 b0_4 b0_5 b1_0 b1_1 b1_2 else some ([.int .i64 x4],[]):=by kernel_rfl
theorem f21_eq (k:Nat) (a0_0:List UInt8) (a0_1:List Int) (a0_2:List S78) (a0_3:List S80) (a0_4:List Int) (a0_5:List S53):evF T (k+1) 21 [.agg [.str a0_0,.vsl none (.int .i64) a0_1,.vsl none (.named 78) a0_2,.vsl none (.named 80) a0_3,.vsl none (.int .i64) a0_4,.vsl none (.named 53) a0_5]] []=(evF T k 36 [.agg [.str a0_0,.vsl none (.int .i64) a0_1,.vsl none (.named 78) a0_2,.vsl none (.named 80) a0_3,.vsl none (.int .i64) a0_4,.vsl none (.named 53) a0_5]] []).bind fun r=>res36 r fun y1=>(evF T k 35 [.int .i64 y1] []).bind fun r=>res35 r fun y2 y3 y4=>l21_0 k k (if y4<(wrap64 (y2+y3)) then (wrap64 (y2+y3)) else y4) (0:Int) a0_0 a0_1 a0_2 a0_3 a0_4 a0_5 y2 y3 y4:=by kernel_rfl
noncomputable def l39_0 (k m:Nat) (x4:Int) (x13:List S53) (x14:Int) (x15:Int) (b0_0:List UInt8) (b0_1:List Int) (b0_2:List S78) (b0_3:List S80) (b0_4:List Int) (b0_5:List S53) (b1_0:Int) (b1_1:Int) (b1_2:Int):Option (Ans N):=lp T 39 0 [1,1,1,0,1,0] k [] m ⟨[(1,.bptr 0 0),(3,.bptr 1 0),(4,.int .i64 x4),(13,.vsl none (.named 53) x13),(14,.int .i64 x14),(15,.int .i64 x15)],[some (.box [.str b0_0,.vsl none (.int .i64) b0_1,.vsl none (.named 78) b0_2,.vsl none (.named 80) b0_3,.vsl none (.int .i64) b0_4,.vsl none (.named 53) b0_5]),some (.box [.int .i64 b1_0,.int .i64 b1_1,.int .i64 b1_2])]⟩
noncomputable def l39_1 (k m0 m:Nat) (x4:Int) (x13:List S53) (x14:Int) (x15:Int) (x20:List S72) (x21:Int) (x22:Int) (b0_0:List UInt8) (b0_1:List Int) (b0_2:List S78) (b0_3:List S80) (b0_4:List Int) (b0_5:List S53) (b1_0:Int) (b1_1:Int) (b1_2:Int):Option (Ans N):=lp T 39 0 [1,1,1,0,1,0,0,1,1,0,0,1,1,0] k [m0] m ⟨[(1,.bptr 0 0),(3,.bptr 1 0),(4,.int .i64 x4),(13,.vsl none (.named 53) x13),(14,.int .i64 x14),(15,.int .i64 x15),(20,.vsl none (.named 72) x20),(21,.int .i64 x21),(22,.int .i64 x22)],[some (.box [.str b0_0,.vsl none (.int .i64) b0_1,.vsl none (.named 78) b0_2,.vsl none (.named 80) b0_3,.vsl none (.int .i64) b0_4,.vsl none (.named 53) b0_5]),some (.box [.int .i64 b1_0,.int .i64 b1_1,.int .i64 b1_2])]⟩
theorem l39_1_eq (k m0 m:Nat) (x4:Int) (x13:List S53) (x14:Int) (x15:Int) (x20:List S72) (x21:Int) (x22:Int) (b0_0:List UInt8) (b0_1:List Int) (b0_2:List S78) (b0_3:List S80) (b0_4:List Int) (b0_5:List S53) (b1_0:Int) (b1_1:Int) (b1_2:Int):l39_1 k m0 (m+1) x4 x13 x14 x15 x20 x21 x22 b0_0 b0_1 b0_2 b0_3 b0_4 b0_5 b1_0 b1_1 b1_2=if x22<x21 then if 0≤x22 then if x22<(x20.length:Int) then (evF T k 48 [.agg [.str b0_0,.vsl none (.int .i64) b0_1,.vsl none (.named 78) b0_2,.vsl none (.named 80) b0_3,.vsl none (.int .i64) b0_4,.vsl none (.named 53) b0_5],.agg [.int .i64 ((x20.getD x22.toNat z72).f0),.int .i64 ((x20.getD x22.toNat z72).f1),.vsl none (.int .i64) ((x20.getD x22.toNat z72).f2),.int .u64 ((x20.getD x22.toNat z72).f3),.int .i64 ((x20.getD x22.toNat z72).f4)]] []).bind fun r=>res48 r fun y5 y6 y7 y8 y9 y10=>l39_1 k m0 m (if x4<y7 then y7 else x4) x13 x14 x15 x20 x21 (wrap64 (x22+(1:Int))) b0_0 b0_1 b0_2 b0_3 b0_4 b0_5 b1_0 b1_1 b1_2 else none else none else l39_0 k m0 x4 x13 x14 (wrap64 (x15+(1:Int))) b0_0 b0_1 b0_2 b0_3 b0_4 b0_5 b1_0 b1_1 b1_2:=by kernel_rfl
theorem l39_0_eq (k m:Nat) (x4:Int) (x13:List S53) (x14:Int) (x15:Int) (b0_0:List UInt8) (b0_1:List Int) (b0_2:List S78) (b0_3:List S80) (b0_4:List Int) (b0_5:List S53) (b1_0:Int) (b1_1:Int) (b1_2:Int):l39_0 k (m+1) x4 x13 x14 x15 b0_0 b0_1 b0_2 b0_3 b0_4 b0_5 b1_0 b1_1 b1_2=if x15<x14 then if 0≤x15 then if x15<(x13.length:Int) then l39_1 k m k x4 x13 x14 x15 ((x13.getD x15.toNat z53).f1) (((x13.getD x15.toNat z53).f1).length:Int) (0:Int) b0_0 b0_1 b0_2 b0_3 b0_4 b0_5 b1_0 b1_1 b1_2 else none else none else some ([.int .i64 (if b1_2<(wrap64 ((wrap64 (b1_0+x4))+b1_1)) then (wrap64 ((wrap64 (b1_0+x4))+b1_1)) else b1_2)],[]):=by kernel_rfl
theorem f39_eq (k:Nat) (a0_0:List UInt8) (a0_1:List Int) (a0_2:List S78) (a0_3:List S80) (a0_4:List Int) (a0_5:List S53):evF T (k+1) 39 [.agg [.str a0_0,.vsl none (.int .i64) a0_1,.vsl none (.named 78) a0_2,.vsl none (.named 80) a0_3,.vsl none (.int .i64) a0_4,.vsl none (.named 53) a0_5]] []=(evF T k 33 [.agg [.str a0_0,.vsl none (.int .i64) a0_1,.vsl none (.named 78) a0_2,.vsl none (.named 80) a0_3,.vsl none (.int .i64) a0_4,.vsl none (.named 53) a0_5]] []).bind fun r=>res33 r fun y1=>(evF T k 32 [.int .i64 y1] []).bind fun r=>res32 r fun y2 y3 y4=>l39_0 k k (0:Int) a0_5 (a0_5.length:Int) (0:Int) a0_0 a0_1 a0_2 a0_3 a0_4 a0_5 y2 y3 y4:=by kernel_rfl
noncomputable def l22_0 (k m:Nat) (x9:Int) (x43:Int) (x44:Int) (b0_0:Int) (b0_1:Int) (b0_2:Int) (b0_3:List Bool) (b0_4:List Int) (b0_5:List (List Int)) (r1:List S64):Option (Ans N):=lp T 22 0 [1,1,1,1,1,1,0,1,0] k [] m ⟨[(8,.bptr 0 0),(9,.int .i64 x9),(10,.sl 1 0),(43,.int .i64 x43),(44,.int .i64 x44)],[some (.box [.int .i64 b0_0,.int .i64 b0_1,.int .i64 b0_2,.vsl none .bool b0_3,.vsl none (.int .i64) b0_4,.vsl none (.list (.int .i64)) b0_5]),some (.row 0 0 64 (.named 64) r1)]⟩
noncomputable def l22_1 (k m0 m:Nat) (x9:Int) (x11:Int) (x43:Int) (x44:Int) (x58:Int) (x59:Int) (b0_0:Int) (b0_1:Int) (b0_2:Int) (b0_3:List Bool) (b0_4:List Int) (b0_5:List (List Int)) (r1:List S64) (r2:List Int):Option (Ans N):=lp T 22 0 [1,1,1,1,1,1,0,1,0,0,1,1,0,0,1,1,1,1,0] k [m0] m ⟨[(8,.bptr 0 0),(9,.int .i64 x9),(10,.sl 1 0),(11,.int .i64 x11),(12,.sl 2 0),(43,.int .i64 x43),(44,.int .i64 x44),(58,.int .i64 x58),(59,.int .i64 x59)],[some (.box [.int .i64 b0_0,.int .i64 b0_1,.int .i64 b0_2,.vsl none .bool b0_3,.vsl none (.int .i64) b0_4,.vsl none (.list (.int .i64)) b0_5]),some (.row 0 0 64 (.named 64) r1),some (.row 0 0 3 (.int .i64) r2)]⟩
noncomputable def j22_0 (k m0 m1:Nat) (x9:Int) (x11:Int) (x13:Int) (x43:Int) (x44:Int) (x58:Int) (x59:Int) (b0_0:Int) (b0_1:Int) (b0_2:Int) (b0_3:List Bool) (b0_4:List Int) (b0_5:List (List Int)) (r1:List S64) (r2:List Int):Option (Ans N):=jn T 22 0 [1,1,1,1,1,1,0,1,0,0,1,1,0,0,1,1,1,1,0,0,1,1,0,0,1,1,1] k [m0,m1] ⟨[(8,.bptr 0 0),(9,.int .i64 x9),(10,.sl 1 0),(11,.int .i64 x11),(12,.sl 2 0),(13,.int .i64 x13),(43,.int .i64 x43),(44,.int .i64 x44),(58,.int .i64 x58),(59,.int .i64 x59)],[some (.box [.int .i64 b0_0,.int .i64 b0_1,.int .i64 b0_2,.vsl none .bool b0_3,.vsl none (.int .i64) b0_4,.vsl none (.list (.int .i64)) b0_5]),some (.row 0 0 64 (.named 64) r1),some (.row 0 0 3 (.int .i64) r2)]⟩
noncomputable def l22_2 (k m0 m1 m:Nat) (x9:Int) (x11:Int) (x13:Int) (x43:Int) (x44:Int) (x58:Int) (x59:Int) (x80:List Int) (x81:Int) (x82:Int) (b0_0:Int) (b0_1:Int) (b0_2:Int) (b0_3:List Bool) (b0_4:List Int) (b0_5:List (List Int)) (r1:List S64) (r2:List Int):Option (Ans N):=lp T 22 0 [1,1,1,1,1,1,0,1,0,0,1,1,0,0,1,1,1,1,0,0,1,1,0,0,1,1,1,0,1,0] k [m0,m1] m ⟨[(8,.bptr 0 0),(9,.int .i64 x9),(10,.sl 1 0),(11,.int .i64 x11),(12,.sl 2 0),(13,.int .i64 x13),(43,.int .i64 x43),(44,.int .i64 x44),(58,.int .i64 x58),(59,.int .i64 x59),(80,.vsl none (.int .i64) x80),(81,.int .i64 x81),(82,.int .i64 x82)],[some (.box [.int .i64 b0_0,.int .i64 b0_1,.int .i64 b0_2,.vsl none .bool b0_3,.vsl none (.int .i64) b0_4,.vsl none (.list (.int .i64)) b0_5]),some (.row 0 0 64 (.named 64) r1),some (.row 0 0 3 (.int .i64) r2)]⟩
theorem l22_2_eq (k m0 m1 m:Nat) (x9:Int) (x11:Int) (x13:Int) (x43:Int) (x44:Int) (x58:Int) (x59:Int) (x80:List Int) (x81:Int) (x82:Int) (b0_0:Int) (b0_1:Int) (b0_2:Int) (b0_3:List Bool) (b0_4:List Int) (b0_5:List (List Int)) (r1:List S64) (r2:List Int):l22_2 k m0 m1 (m+1) x9 x11 x13 x43 x44 x58 x59 x80 x81 x82 b0_0 b0_1 b0_2 b0_3 b0_4 b0_5 r1 r2=if x82<x81 then if 0≤x82 then if x82<(x80.length:Int) then if x13>x11 then if 0≤(x80.getD x82.toNat (0:Int)) then if (x80.getD x82.toNat (0:Int))<(r2.length:Int) then if (x80.getD x82.toNat (0:Int)).toNat<r2.length then if (r2.getD ((x80.getD x82.toNat (0:Int)).toNat) (0:Int))≥(0:Int) then if 0≤x13 then if x13<(r2.length:Int) then if x13.toNat<r2.length then if 0≤(x80.getD x82.toNat (0:Int)) then if (x80.getD x82.toNat (0:Int))<(r2.length:Int) then if (x80.getD x82.toNat (0:Int)).toNat<r2.length then if 0≤x13 then if x13<(b0_4.length:Int) then if 0≤x13 then if x13<(r2.length:Int) then l22_2 k m0 m1 m x9 x11 x13 x43 x44 x58 x59 x80 x81 (wrap64 (x82+(1:Int))) b0_0 b0_1 b0_2 b0_3 b0_4 b0_5 r1 (r2.set x13.toNat (if (r2.getD x13.toNat (0:Int))<(wrap64 ((r2.getD ((x80.getD x82.toNat (0:Int)).toNat) (0:Int))+(b0_4.getD x13.toNat (0:Int)))) then (wrap64 ((r2.getD ((x80.getD x82.toNat (0:Int)).toNat) (0:Int))+(b0_4.getD x13.toNat (0:Int)))) else (r2.getD x13.toNat (0:Int)))) else none else none else none else none else none else none else none else none else none else none else l22_2 k m0 m1 m x9 x11 x13 x43 x44 x58 x59 x80 x81 (wrap64 (x82+(1:Int))) b0_0 b0_1 b0_2 b0_3 b0_4 b0_5 r1 r2 else none else none else none else l22_2 k m0 m1 m x9 x11 x13 x43 x44 x58 x59 x80 x81 (wrap64 (x82+(1:Int))) b0_0 b0_1 b0_2 b0_3 b0_4 b0_5 r1 r2 else none else none else if 0≤x13 then if x13<(r2.length:Int) then if x13.toNat<r2.length then if (r2.getD x13.toNat (0:Int))>x9 then chk ((r1.length + [(⟨x11,x13,(1:Int),(0:Int)⟩:S64)].length)*32≤140737488355328) (l22_1 k m0 m1 x9 x11 x43 x44 x58 (wrap64 (x59+(1:Int))) b0_0 b0_1 b0_2 b0_3 b0_4 b0_5 (r1++[(⟨x11,x13,(1:Int),(0:Int)⟩:S64)]) r2) else l22_1 k m0 m1 x9 x11 x43 x44 x58 (wrap64 (x59+(1:Int))) b0_0 b0_1 b0_2 b0_3 b0_4 b0_5 r1 r2 else none else none else none:=by kernel_rfl
theorem j22_0_eq (k m0 m1:Nat) (x9:Int) (x11:Int) (x13:Int) (x43:Int) (x44:Int) (x58:Int) (x59:Int) (b0_0:Int) (b0_1:Int) (b0_2:Int) (b0_3:List Bool) (b0_4:List Int) (b0_5:List (List Int)) (r1:List S64) (r2:List Int):j22_0 k m0 m1 x9 x11 x13 x43 x44 x58 x59 b0_0 b0_1 b0_2 b0_3 b0_4 b0_5 r1 r2=if 0≤x13 then if x13<(b0_5.length:Int) then l22_2 k m0 m1 k x9 x11 x13 x43 x44 x58 x59 (b0_5.getD x13.toNat []) ((b0_5.getD x13.toNat []).length:Int) (0:Int) b0_0 b0_1 b0_2 b0_3 b0_4 b0_5 r1 r2 else none else none:=by unfold j22_0;rw [jn_eq];kernel_rfl
theorem l22_1_eq (k m0 m:Nat) (x9:Int) (x11:Int) (x43:Int) (x44:Int) (x58:Int) (x59:Int) (b0_0:Int) (b0_1:Int) (b0_2:Int) (b0_3:List Bool) (b0_4:List Int) (b0_5:List (List Int)) (r1:List S64) (r2:List Int):l22_1 k m0 (m+1) x9 x11 x43 x44 x58 x59 b0_0 b0_1 b0_2 b0_3 b0_4 b0_5 r1 r2=if x59<x58 then if 0≤x59 then if x59<(r2.length:Int) then if x59=x11 then if 0≤x11 then if x11<(b0_4.length:Int) then if 0≤x59 then if x59<((r2.set x59.toNat (-1:Int)).length:Int) then j22_0 k m0 m x9 x11 x59 x43 x44 x58 x59 b0_0 b0_1 b0_2 b0_3 b0_4 b0_5 r1 ((r2.set x59.toNat (-1:Int)).set x59.toNat (b0_4.getD x11.toNat (0:Int))) else none else none else none else none else j22_0 k m0 m x9 x11 x59 x43 x44 x58 x59 b0_0 b0_1 b0_2 b0_3 b0_4 b0_5 r1 (r2.set x59.toNat (-1:Int)) else none else none else l22_0 k m0 x9 x43 (wrap64 (x44+(1:Int))) b0_0 b0_1 b0_2 b0_3 b0_4 b0_5 r1:=by kernel_rfl
theorem l22_0_eq (k m:Nat) (x9:Int) (x43:Int) (x44:Int) (b0_0:Int) (b0_1:Int) (b0_2:Int) (b0_3:List Bool) (b0_4:List Int) (b0_5:List (List Int)) (r1:List S64):l22_0 k (m+1) x9 x43 x44 b0_0 b0_1 b0_2 b0_3 b0_4 b0_5 r1=if x44<x43 then if 0≤x44 then if x44<(b0_3.length:Int) then if (!(b0_3.getD x44.toNat false))=true then l22_0 k m x9 x43 (wrap64 (x44+(1:Int))) b0_0 b0_1 b0_2 b0_3 b0_4 b0_5 r1 else chk (0≤(b0_3.length:Int)) (chk ((b0_3.length:Int)≤(b0_3.length:Int)) (chk (((8:Nat):Int)*(b0_3.length:Int)≤281474976710656) (chk ((b0_3.length:Int)≤9223372036854775807) (l22_1 k m k x9 x44 x43 x44 ((List.replicate (b0_3.length:Int).toNat (0:Int)).length:Int) (0:Int) b0_0 b0_1 b0_2 b0_3 b0_4 b0_5 r1 (List.replicate (b0_3.length:Int).toNat (0:Int)))))) else none else none else some ([.vsl none (.named 64) r1,.int .i64 (0:Int)],[]):=by kernel_rfl
theorem f22_eq (k:Nat) (a0_0:List UInt8) (a0_1:List Int) (a0_2:List S78) (a0_3:List S80) (a0_4:List Int) (a0_5:List S53) (a1:Int) (a2:Int):evF T (k+1) 22 [.agg [.str a0_0,.vsl none (.int .i64) a0_1,.vsl none (.named 78) a0_2,.vsl none (.named 80) a0_3,.vsl none (.int .i64) a0_4,.vsl none (.named 53) a0_5],.int .i64 a1,.int .i64 a2] []=if a1<(0:Int) then some ([.vsl none (.named 64) [],.int .i64 (2:Int)],[]) else if a1≥(a0_5.length:Int) then some ([.vsl none (.named 64) [],.int .i64 (2:Int)],[]) else (evF T k 39 [.agg [.str a0_0,.vsl none (.int .i64) a0_1,.vsl none (.named 78) a0_2,.vsl none (.named 80) a0_3,.vsl none (.int .i64) a0_4,.vsl none (.named 53) a0_5]] []).bind fun r=>res39 r fun y1=>if a2<y1 then some ([.vsl none (.named 64) [],.int .i64 (15:Int)],[]) else (evF T k 29 [.agg [.str a0_0,.vsl none (.int .i64) a0_1,.vsl none (.named 78) a0_2,.vsl none (.named 80) a0_3,.vsl none (.int .i64) a0_4,.vsl none (.named 53) a0_5],.int .i64 a1] []).bind fun r=>res29 r fun y2 y3 y4 y5 y6 y7=>l22_0 k k (wrap64 ((wrap64 (a2 - y2)) - y3)) (y5.length:Int) (0:Int) y2 y3 y4 y5 y6 y7 []:=by kernel_rfl
noncomputable def l8_0 (k m:Nat) (x10:List S64) (x12:List S64) (x14:Int) (x66:Int) (x67:Int):Option (Ans N):=lp T 8 0 [1,1,1,1,1,1,1,1,1,0,1,0] k [] m ⟨[(10,.vsl none (.named 64) x10),(12,.vsl none (.named 64) x12),(14,.int .i64 x14),(66,.int .i64 x66),(67,.int .i64 x67)],[]⟩
noncomputable def l8_1 (k m0 m:Nat) (x10:List S64) (x12:List S64) (x14:Int) (x15:Int) (x66:Int) (x67:Int):Option (Ans N):=lp T 8 0 [1,1,1,1,1,1,1,1,1,0,1,0,0,1,1,0,0,1,0,0] k [m0] m ⟨[(10,.vsl none (.named 64) x10),(12,.vsl none (.named 64) x12),(14,.int .i64 x14),(15,.int .i64 x15),(66,.int .i64 x66),(67,.int .i64 x67)],[]⟩
theorem l8_1_eq (k m0 m:Nat) (x10:List S64) (x12:List S64) (x14:Int) (x15:Int) (x66:Int) (x67:Int):l8_1 k m0 (m+1) x10 x12 x14 x15 x66 x67=if x14<(x10.length:Int) then if 0≤x14 then if x14<(x10.length:Int) then if 0≤x15 then if x15<(x12.length:Int) then if ¬ ((x10.getD x14.toNat z64).f0=(x12.getD x15.toNat z64).f0∧(x10.getD x14.toNat z64).f1=(x12.getD x15.toNat z64).f1∧(x10.getD x14.toNat z64).f2=(x12.getD x15.toNat z64).f2∧(x10.getD x14.toNat z64).f3=(x12.getD x15.toNat z64).f3∧True) then l8_1 k m0 m x10 x12 (wrap64 (x14+(1:Int))) x15 x66 x67 else if x14=(x10.length:Int) then some ([.bool false],[]) else l8_0 k m0 x10 x12 x14 x66 (wrap64 (x67+(1:Int))) else none else none else none else none else if x14=(x10.length:Int) then some ([.bool false],[]) else l8_0 k m0 x10 x12 x14 x66 (wrap64 (x67+(1:Int))):=by kernel_rfl
theorem l8_0_eq (k m:Nat) (x10:List S64) (x12:List S64) (x14:Int) (x66:Int) (x67:Int):l8_0 k (m+1) x10 x12 x14 x66 x67=if x67<x66 then l8_1 k m k x10 x12 x14 x67 x66 x67 else some ([.bool true],[]):=by kernel_rfl
theorem f8_eq (k:Nat) (a0_0:List Int) (a0_1:List S66) (a0_2:List S66) (a0_3:List Int) (a0_4:List S75) (a1:Int) (a2_0:Int) (a2_1:Int):evF T (k+1) 8 [.agg [.vsl none (.int .u8) a0_0,.vsl none (.named 66) a0_1,.vsl none (.named 66) a0_2,.vsl none (.int .u8) a0_3,.vsl none (.named 75) a0_4],.int .u8 a1,.agg [.int .u16 a2_0,.int .u16 a2_1]] []=(evF T k 9 [] []).bind fun r=>res9 r fun y1=>if (!y1)=true then (evF T k 9 [] []).bind fun r=>res9 r fun y2=>some ([.bool y2],[]) else (evF T k 10 [.agg [.vsl none (.int .u8) a0_0,.vsl none (.named 66) a0_1,.vsl none (.named 66) a0_2,.vsl none (.int .u8) a0_3,.vsl none (.named 75) a0_4]] []).bind fun r=>res10 r fun y3=>if (!y3)=true then (evF T k 9 [] []).bind fun r=>res9 r fun y4=>some ([.bool y4],[]) else (evF T k 11 [.agg [.vsl none (.int .u8) a0_0,.vsl none (.named 66) a0_1,.vsl none (.named 66) a0_2,.vsl none (.int .u8) a0_3,.vsl none (.named 75) a0_4]] []).bind fun r=>res11 r fun y5 y6 y7 y8 y9 y10=>(evF T k 12 [.agg [.str y5,.vsl none (.int .i64) y6,.vsl none (.named 78) y7,.vsl none (.named 80) y8,.vsl none (.int .i64) y9,.vsl none (.named 53) y10],.int .u8 a1] []).bind fun r=>res12 r fun y11=>(evF T k 21 [.agg [.str y5,.vsl none (.int .i64) y6,.vsl none (.named 78) y7,.vsl none (.named 80) y8,.vsl none (.int .i64) y9,.vsl none (.named 53) y10]] []).bind fun r=>res21 r fun y12=>if 0≤(0:Int) then if (0:Int)<(2:Int) then if 0≤(1:Int) then if (1:Int)<(2:Int) then (evF T k 22 [.agg [.str y5,.vsl none (.int .i64) y6,.vsl none (.named 78) y7,.vsl none (.named 80) y8,.vsl none (.int .i64) y9,.vsl none (.named 53) y10],.int .i64 y11,.int .i64 (wrap64 (y12+(wrap64 ((if a2_1<a2_0 then a2_1 else a2_0)))))] []).bind fun r=>res22 r fun y13 y14=>if 0≤(0:Int) then if (0:Int)<(2:Int) then if 0≤(1:Int) then if (1:Int)<(2:Int) then (evF T k 22 [.agg [.str y5,.vsl none (.int .i64) y6,.vsl none (.named 78) y7,.vsl none (.named 80) y8,.vsl none (.int .i64) y9,.vsl none (.named 53) y10],.int .i64 y11,.int .i64 (wrap64 (y12+(wrap64 ((if a2_0<a2_1 then a2_1 else a2_0)))))] []).bind fun r=>res22 r fun y15 y16=>if y14≠(0:Int) then some ([.bool false],[]) else if y16≠(0:Int) then some ([.bool false],[]) else l8_0 k k y13 y15 (0:Int) (y15.length:Int) (0:Int) else none else none else none else none else none else none else none else none:=by kernel_rfl
end Go.Proofs.Ytabcdpddhmekkaa.vm
