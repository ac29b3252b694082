-- Written for this claim by programs of this session (wip in its repo). Lean checks it.
import Derived.Test.YtabcdpddhmekkaaM3
import Derived.Test.YtabcdpddhmekkaaWAll
set_option linter.all false
namespace Go.Vm
open Go Go.RowKit Go.Proofs.YtabcdpddhmekkaaW.PrintWords
section
variable {N:Nat→Type} {E:Enc N}
def oldS (w:World):Stab:=fun b _=>b<w.heap.size
theorem cell_lt {w:World} {a:Addr} {v:Value} (h:w.cell? a=some v):a.block<w.heap.size∧a.spot=none:=by
 unfold World.cell? at h
 cases hh:w.heap[a.block]? with
 | none=>rw [hh] at h;exact absurd h (by simp)
 | some o=>
  refine ⟨(Array.getElem?_eq_some_iff.1 hh).1,?_⟩
  rw [hh] at h
  cases o with
  | cells c e f=>
   dsimp only at h
   cases hs:a.spot with
   | none=>rfl
   | some k=>rw [hs] at h;exact absurd h (by simp)
  | _=>exact absurd h (by simp)
theorem Cx.old (w:World):Cx w (Xof noRho) (oldS w) noRho w:=
 ⟨.refl _ _,fun _ _ h=>h,fun _ _ _ h=>absurd h (by simp [noRho]),fun _ _ _ h=>absurd h (by simp [noRho]),fun _ _ _ _ _ h=>absurd h (by simp [noRho])⟩
theorem Calls.law {T:Tbl N} (hE:EncOK T.E) (hX:ExtOK T) (hI:InpOK T) (hm:T.P.follows .mixedOrders=true) {k:Nat} {f:FuncId} {pargs:List (PV N)} {args:Array Value} {w:World} {b:Bool} (hg:Glob T.gl w (fun _=>False)) (h:evF T k f pargs []=some ([.bool b],[])) (ha:VRs T.E (oldS w) w noRho pargs args.toList) :
  Calls T.P f args w fun e w'=>e = .returned (.bool b)∧Below w.heap.size w w':=by
 refine (evF_ok hE hX hI hm k f pargs [] _ h (oldS w) noRho w args (Cx.old w) (fun q hq=>(hg q hq).imp fun v h=>⟨h.1,h.2.1,fun ⟨_,_,h,_⟩=>absurd h (by simp [noRho])⟩) ha (fun _ _ h=>absurd h (by simp)) (fun _ _=>rfl)).mono ?_
 rintro e w' ⟨u,S',ρ',rfl,cx,_,_,hres,_⟩
 have hres:VR T.E S' w' ρ' (.bool b) u:=hres
 cases hres
 refine ⟨rfl,?_⟩
 have:=cx.bel
 exact ⟨this.os,this.tape,this.output,this.size,fun k hk=>this.block k hk (fun ⟨_,_,h,_⟩=>absurd h (by simp [noRho]))⟩
end
section
variable {N:Nat→Type} {E:Enc N}
structure Br {α : Type} (E:Enc N) (d:Kd α) (ps : α → List (PV N)):Prop where
 br:∀ {w:World} {x : α} {cs:List Value},d.K w x cs→VRs E (oldS w) w noRho (ps x) cs
theorem Br.scalarInt (k:IntKind):Br E (Kd.int k) (fun n=>[.int k n]):=⟨fun h=>by
 obtain rfl:_ = [Value.int k _]:=h
 exact .cons _ _ _ _ (.int _ _) .nil⟩
theorem Br.bool:Br E Kd.bool (fun b=>[.bool b]):=⟨fun h=>by
 obtain rfl:_ = [Value.bool _]:=h
 exact .cons _ _ _ _ (.bool _) .nil⟩
theorem Br.string:Br E Kd.string (fun s=>[.str s.data.toList]):=⟨fun h=>by
 obtain rfl:_ = [Value.string _]:=h
 exact .cons _ _ _ _ (.str _) .nil⟩
theorem Br.pair {α β : Type} {a:Kd α} {b:Kd β} {p : α → List (PV N)} {q : β → List (PV N)} (h:Br E a p) (k:Br E b q):Br E (Kd.pair a b) (fun x=>p x.1++q x.2):=⟨fun hx=>by
 obtain ⟨c0,c1,rfl,h0,h1⟩:=hx
 exact (h.br h0).append (k.br h1)⟩
theorem Br.iso {α β : Type} {a:Kd α} {p : α → List (PV N)} (h:Br E a p) (f : β → α):Br E (Kd.iso a f) (fun x=>p (f x)):=⟨fun hx=>h.br hx⟩
theorem Br.row {α : Type} {d:Kd α} {ps : α → List (PV N)} (h:Br E d ps) (c:TC) (conv : α → El N c) (hps:∀ x,encE E c (conv x)=ps x) (hsz:d.sz=sizeE E c) (hpos:0<d.sz) {w:World} {ρ : Rho} {A:Option Addr} {cap:Nat} {l:List α} (hr:Kd.C d w A l.length l) (hc:l.length≤cap) :
  VR E (oldS w) w ρ (.vsl none c (l.map conv)) (.slice A l.length cap):=by
 obtain ⟨-,-,h1⟩:=hr
 have key:∀ j (hj:j<l.length),∃ cs,cs.length=sizeE E c∧VRs E (oldS w) w noRho (encE E c (conv l[j])) cs∧(∀ u∈cs,u.oneCell'=true)∧∃ ad,A=some ad∧∀ i u,cs[i]? = some u→w.cell? (ad.add (j*sizeE E c+i))=some u:=by
  intro j hj
  obtain ⟨ad,e,h2⟩:=h1 (by omega)
  obtain ⟨cs,h3,h4,h5⟩:=h2 j _ (List.getElem?_eq_getElem hj)
  rw [hsz] at h3 h5
  exact ⟨cs,h3,by rw [hps];exact h.br h4,d.K_one h4,ad,e,h5⟩
 have hA:0<l.length→∃ b o,A=some ⟨b,o,none⟩:=fun hj=>by
  obtain ⟨cs,h2,-,-,ad,e,h4⟩:=key 0 hj
  have hcell:=h4 0 cs[0] (List.getElem?_eq_getElem (by omega))
  obtain ⟨b,o,sp⟩:=ad
  rw [show 0*sizeE E c+0=0 by omega] at hcell
  have h0:sp=none:=by simpa [Addr.add] using (cell_lt hcell).2
  subst h0
  exact ⟨b,o,e⟩
 let vs:Nat→List Value:=fun j=>if hj:j<l.length then (key j hj).choose else []
 have hvs:∀ j (hj:j<l.length),vs j=(key j hj).choose:=fun j hj=>dif_pos hj
 have at_:∀ (j:Nat) x,(l.map conv)[j]? = some x→∃ hj:j<l.length,x=conv l[j]:=fun j x hx=>by
  obtain ⟨y,hy,rfl⟩:=by simpa using hx
  obtain ⟨hj,rfl⟩:=List.getElem?_eq_some_iff.mp hy
  exact ⟨hj,rfl⟩
 have:=VR.vsl (E:=E) (S:=oldS w) (w:=w) (ρ := ρ) none c (l.map conv) A cap vs (fun j x hx=>by
  obtain ⟨hj,rfl⟩:=at_ j x hx
  rw [hvs j hj];exact (key j hj).choose_spec.1) (fun j x hx=>by
  obtain ⟨hj,rfl⟩:=at_ j x hx
  rw [hvs j hj];exact (key j hj).choose_spec.2.1) (fun j hj i u hu=>by
  rw [List.length_map] at hj
  rw [hvs j hj] at hu
  obtain ⟨k1,ad,e,h4⟩:=(key j hj).choose_spec.2.2
  have hcell:=h4 i u hu
  obtain ⟨b,o,e'⟩:=hA (by omega)
  rw [e',Option.some.injEq] at e
  subst e
  rw [Addr.add_mid] at hcell
  exact ⟨b,o,e',(cell_lt hcell).1,hcell,k1 u (List.mem_of_getElem? hu)⟩) (by rw [List.length_map];exact hA) (by rw [List.length_map];exact hc) (fun h=>absurd rfl h)
 rwa [List.length_map] at this
theorem Br.slice {α : Type} {d:Kd α} {ps : α → List (PV N)} (h:Br E d ps) (e:Nat) (c:TC) (conv : α → El N c) (hps:∀ x,encE E c (conv x)=ps x) (hsz:d.sz=sizeE E c) (hpos:0<d.sz):Br E (Kd.slice e d) (fun l=>[.vsl none c (l.map conv)]):=⟨fun hx=>by
 obtain ⟨A,cap,rfl,hl,hr⟩:=hx
 exact .cons _ _ _ _ (h.row c conv hps hsz hpos hr hl) .nil⟩
end
end Go.Vm
namespace Go.Proofs.Ytabcdpddhmekkaa.vm
open Go Go.RowKit Go.Vm Go.ChangeShapes Go.WideShapes Go.ChangeAt Go.Proofs.YtabcdpddhmekkaaW.PrintWords
structure SK where
 f0:List Int
 f1:List PAll.S66
 f2:List PAll.S66
 f3:List Int
 f4:List PAll.S75
def kSK:Kd SK:=Kd.iso (Kd.pair (Kd.slice 5 (Kd.int .u8)) (Kd.pair (Kd.slice 66 PAll.k66) (Kd.pair (Kd.slice 66 PAll.k66) (Kd.pair (Kd.slice 5 (Kd.int .u8)) (Kd.slice 75 PAll.k75))))) (fun x:SK=>(x.f0,x.f1,x.f2,x.f3,x.f4))
def Wu (v:Int):Prop:=(Lit.int .u8 v).wf=true
theorem wf_by {n:Int} (h:Wu n):By n:=by
 unfold Wu Lit.wf at h
 rw [Bool.and_eq_true] at h
 have h1:=of_decide_eq_true h.1
 have h2:=of_decide_eq_true h.2
 have e1:IntKind.u8.min=0:=rfl
 have e2:IntKind.u8.max=255:=rfl
 unfold By
 omega
theorem opens66:Opens Try.prog 66 PAll.k66 (fun x=>Wu x.f0∧Wu x.f1):=Opens.array2 (Opens.int Try.underlying5) Try.underlying66 (by kernel_rfl) (by kernel_rfl) (fun x=>⟨x.1,x.2⟩) (fun _=>rfl)
theorem opens87:Opens Try.prog 87 PAll.k87 (fun x=>Wu x.f0∧Wu x.f1∧Wu x.f2∧Wu x.f3∧Wu x.f4∧(Lit.int .u64 x.f5).wf=true):=Opens.struct Try.underlying87 rfl (OpensF.cons (Opens.int Try.underlying5) rfl rfl (by kernel_rfl) (o2:=1) (by kernel_rfl) (OpensF.cons (Opens.int Try.underlying5) rfl rfl (by kernel_rfl) (o2:=2) (by kernel_rfl) (OpensF.cons (Opens.int Try.underlying5) rfl rfl (by kernel_rfl) (o2:=3) (by kernel_rfl) (OpensF.cons (Opens.int Try.underlying5) rfl rfl (by kernel_rfl) (o2:=4) (by kernel_rfl) (OpensF.cons (Opens.int Try.underlying5) rfl rfl (by kernel_rfl) (o2:=5) (by kernel_rfl) (OpensF.one (Opens.int Try.underlying70) rfl rfl (by kernel_rfl))))))) (by kernel_rfl) (fun x=>⟨x.1,x.2.1,x.2.2.1,x.2.2.2.1,x.2.2.2.2.1,x.2.2.2.2.2⟩) (fun _=>rfl)
def Bd {α : Type} (l:List α) (B:Nat) (P : α → Prop):Prop:=l.length≤maxLen∧l.length*B≤140737488351232∧∀ y∈l,P y
theorem opens75:Opens Try.prog 75 PAll.k75 (fun x=>Bd x.f0 1 Wu∧Bd x.f1 16 (fun x=>Wu x.f0∧Wu x.f1∧Wu x.f2∧Wu x.f3∧Wu x.f4∧(Lit.int .u64 x.f5).wf=true)∧Wu x.f2∧Wu x.f3∧Wu x.f4∧Wu x.f5∧True):=Opens.struct Try.underlying75 rfl (OpensF.cons (Opens.slice (Opens.int Try.underlying5) Try.underlying22 (by kernel_rfl) (B:=1) (by kernel_rfl)) rfl rfl (by kernel_rfl) (o2:=1) (by kernel_rfl) (OpensF.cons (Opens.slice opens87 Try.underlying73 (by kernel_rfl) (B:=16) (by kernel_rfl)) rfl rfl (by kernel_rfl) (o2:=2) (by kernel_rfl) (OpensF.cons (Opens.int Try.underlying5) rfl rfl (by kernel_rfl) (o2:=3) (by kernel_rfl) (OpensF.cons (Opens.int Try.underlying5) rfl rfl (by kernel_rfl) (o2:=4) (by kernel_rfl) (OpensF.cons (Opens.int Try.underlying5) rfl rfl (by kernel_rfl) (o2:=5) (by kernel_rfl) (OpensF.cons (Opens.int Try.underlying5) rfl rfl (by kernel_rfl) (o2:=6) (by kernel_rfl) (OpensF.one (Opens.bool Try.underlying4) rfl rfl (by kernel_rfl)))))))) (by kernel_rfl) (fun x=>⟨x.1,x.2.1,x.2.2.1,x.2.2.2.1,x.2.2.2.2.1,x.2.2.2.2.2.1,x.2.2.2.2.2.2⟩) (fun _=>rfl)
def WSK (x:SK):Prop:=Bd x.f0 1 Wu∧Bd x.f1 2 (fun x=>Wu x.f0∧Wu x.f1)∧Bd x.f2 2 (fun x=>Wu x.f0∧Wu x.f1)∧Bd x.f3 1 Wu∧Bd x.f4 56 (fun x=>Bd x.f0 1 Wu∧Bd x.f1 16 (fun x=>Wu x.f0∧Wu x.f1∧Wu x.f2∧Wu x.f3∧Wu x.f4∧(Lit.int .u64 x.f5).wf=true)∧Wu x.f2∧Wu x.f3∧Wu x.f4∧Wu x.f5∧True)
theorem opensSK:Opens Try.prog 26 kSK WSK:=Opens.struct Try.underlying26 rfl (OpensF.cons (Opens.slice (Opens.int Try.underlying5) Try.underlying22 (by kernel_rfl) (B:=1) (by kernel_rfl)) rfl rfl (by kernel_rfl) (o2:=1) (by kernel_rfl) (OpensF.cons (Opens.slice opens66 Try.underlying23 (by kernel_rfl) (B:=2) (by kernel_rfl)) rfl rfl (by kernel_rfl) (o2:=2) (by kernel_rfl) (OpensF.cons (Opens.slice opens66 Try.underlying23 (by kernel_rfl) (B:=2) (by kernel_rfl)) rfl rfl (by kernel_rfl) (o2:=3) (by kernel_rfl) (OpensF.cons (Opens.slice (Opens.int Try.underlying5) Try.underlying22 (by kernel_rfl) (B:=1) (by kernel_rfl)) rfl rfl (by kernel_rfl) (o2:=4) (by kernel_rfl) (OpensF.one (Opens.slice opens75 Try.underlying24 (by kernel_rfl) (B:=56) (by kernel_rfl)) rfl rfl (by kernel_rfl)))))) (by kernel_rfl) (fun x=>⟨x.1,x.2.1,x.2.2.1,x.2.2.2.1,x.2.2.2.2⟩) (fun _=>rfl)
def j66 (x:PAll.S66):S66:=⟨x.f0,x.f1⟩
def j87 (x:PAll.S87):S87:=⟨x.f0,x.f1,x.f2,x.f3,x.f4,x.f5⟩
def j75 (x:PAll.S75):S75:=⟨x.f0,x.f1.map j87,x.f2,x.f3,x.f4,x.f5,x.f6⟩
theorem Br.ints (k:IntKind) (e:Nat):Br E (Kd.slice e (Kd.int k)) (fun l=>[.vsl none (.int k) l]):=⟨fun {w} {x} {cs} hx=>by
 have:=((Br.scalarInt (E:=E) k).slice e (.int k) (fun n:Int=>n) (fun _=>rfl) rfl Nat.zero_lt_one).br hx
 exact (congrArg (fun z:List Int=>VRs E (oldS w) w noRho [.vsl none (.int k) z] cs) (List.map_id' x)).mp this⟩
theorem br66:Br E PAll.k66 (fun x=>encE E (.named 66) (j66 x)):=((Br.scalarInt .u8).pair (Br.scalarInt .u8)).iso _
theorem br87:Br E PAll.k87 (fun x=>encE E (.named 87) (j87 x)):=((Br.scalarInt .u8).pair ((Br.scalarInt .u8).pair ((Br.scalarInt .u8).pair ((Br.scalarInt .u8).pair ((Br.scalarInt .u8).pair (Br.scalarInt .u64)))))).iso _
theorem br75:Br E PAll.k75 (fun x=>encE E (.named 75) (j75 x)):=((Br.ints .u8 5).pair ((br87.slice 87 (.named 87) j87 (fun _=>rfl) rfl (by decide)).pair ((Br.scalarInt .u8).pair ((Br.scalarInt .u8).pair ((Br.scalarInt .u8).pair ((Br.scalarInt .u8).pair Br.bool)))))).iso _
theorem brSK:Br E kSK (fun x=>[.vsl none (.int .u8) x.f0,.vsl none (.named 66) (x.f1.map j66),.vsl none (.named 66) (x.f2.map j66),.vsl none (.int .u8) x.f3,.vsl none (.named 75) (x.f4.map j75)]):=((Br.ints .u8 5).pair ((br66.slice 66 (.named 66) j66 (fun _=>rfl) rfl (by decide)).pair ((br66.slice 66 (.named 66) j66 (fun _=>rfl) rfl (by decide)).pair ((Br.ints .u8 5).pair (br75.slice 75 (.named 75) j75 (fun _=>rfl) rfl (by decide)))))).iso _
theorem skv_in {w:World} {v:Value} {x:SK} (h:kSK.K w x v.cells.toList):VR E (oldS w) w noRho (skv x.f0 (x.f1.map j66) (x.f2.map j66) x.f3 (x.f4.map j75)) v:=by
 have h2:=brSK.br h
 generalize hc:v.cells.toList=cs at h2
 rcases h2 with _ | ⟨_,v0,_,_,g0,h2⟩;rcases h2 with _ | ⟨_,v1,_,_,g1,h2⟩;rcases h2 with _ | ⟨_,v2,_,_,g2,h2⟩;rcases h2 with _ | ⟨_,v3,_,_,g3,h2⟩;rcases h2 with _ | ⟨_,v4,_,_,g4,h2⟩;cases h2
 obtain rfl:=agg_of_cells hc
 exact .agg _ _ (.cons _ _ _ _ g0 (.cons _ _ _ _ g1 (.cons _ _ _ _ g2 (.cons _ _ _ _ g3 (.cons _ _ _ _ g4 .nil)))))
theorem sk_in {x:SK} (h:WSK x):SkIn x.f0 (x.f1.map j66) (x.f2.map j66) x.f3 (x.f4.map j75)∧(x.f4.map j75).length<4000000000000:=by
 obtain ⟨h0,h1,h2,h3,h4⟩:=h
 refine ⟨⟨fun v hv=>wf_by (h0.2.2 v hv),fun y hy=>?_,fun y hy=>?_,fun v hv=>wf_by (h3.2.2 v hv),fun y hy=>?_⟩,?_⟩
 ·obtain ⟨z,hz,rfl⟩:=List.mem_map.mp hy
  exact ⟨wf_by (h1.2.2 z hz).1,wf_by (h1.2.2 z hz).2⟩
 ·obtain ⟨z,hz,rfl⟩:=List.mem_map.mp hy
  exact ⟨wf_by (h2.2.2 z hz).1,wf_by (h2.2.2 z hz).2⟩
 ·obtain ⟨z,hz,rfl⟩:=List.mem_map.mp hy
  obtain ⟨g0,g1,g2,g3,g4,g5,-⟩:=h4.2.2 z hz
  refine ⟨fun v hv=>wf_by (g0.2.2 v hv),fun y hy=>?_,wf_by g2,wf_by g3,wf_by g4,wf_by g5⟩
  obtain ⟨u,hu,rfl⟩:=List.mem_map.mp (show y∈z.f1.map j87 from hy)
  obtain ⟨q0,q1,q2,q3,q4,-⟩:=g1.2.2 u hu
  exact ⟨wf_by q0,wf_by q1,wf_by q2,wf_by q3,wf_by q4⟩
 ·rw [List.length_map]
  have:=h4.2.1
  omega
theorem wts_each {H:Type} {P:Program} {ts:List TypeId} {ds:List (DataW H)} (h:(DataW.weightsEach P ts ds).all (· ≤ reachBytes)=true) {j:Nat} {t:TypeId} {d:DataW H} (ht:ts[j]? = some t) (hd:ds[j]? = some d):Wts P t d:=by
 intro n hn
 have:=List.all_eq_true.1 h n (DataW.weights_mem_each ht hd n hn)
 simpa using this
end Go.Proofs.Ytabcdpddhmekkaa.vm
