-- Written for this claim by programs of this session (wip in its repo). Lean checks it.
import Derived.Test.YtabcdpddhmekkaaVmE
set_option linter.all false
namespace Go.Proofs.Ytabcdpddhmekkaa.vm
open Go Go.RowKit Go.Vm Go.Proofs.YtabcdpddhmekkaaW.PrintWords Go.Proofs.YtabcdpddhmekkaaW.PrintLast
section
variable {S:Stab} {ρ : Rho} {w w':World}
theorem post_of {r:List (PV N)} {u:Value} (cx:Cx w (Xof ρ) S ρ w) (hn:∀ b,([]:Heap N).length≤b → ρ b=none) (hb:Below w.heap.size w w') {S':Stab} (hS:∀ b o,S b o→S' b o) (hS2:∀ b o,S' b o→S b o∨w.heap.size≤b∧b<w'.heap.size) (hr:ResR E S' w' ρ r u):CallPost E w S ρ (nbOf ([]:Heap N)) (r,[]) (.returned u) w':=by
 have hn:∀ b,ρ b=none:=fun b=>hn b (Nat.zero_le _)
 refine ⟨u,S',ρ,rfl,⟨⟨hb.os,hb.tape,hb.output,hb.size,fun k hk _=>hb.block k hk⟩,fun b o h=>?_,?_,?_,?_⟩,fun b o h=>⟨hS b o h,hb.cell (cx.st b o h)⟩,fun b o h h'=>?_,hr,?_,fun b hb=>rfl,fun b _=>hn b⟩
 ·rcases hS2 b o h with h | h
  ·exact Nat.lt_of_lt_of_le (cx.st b o h) hb.size
  ·exact h.2
 ·intro b i q h;rw [hn] at h;exact absurd h (by simp)
 ·intro b i q h;rw [hn] at h;exact absurd h (by simp)
 ·intro b c i j q h;rw [hn] at h;exact absurd h (by simp)
 ·rcases hS2 b o h with h | h
  ·exact absurd h h'
  ·exact .inr h.1
 ·intro b blk h;exact absurd h (by simp)
theorem inv_int {k:IntKind} {n:Int} {v:Value} (h:VR E S w ρ (.int k n) v):v = .int k n:=by
 cases h with | int=>rfl
theorem inv_1 {p:PV N} {args:Array Value} (h:VRs E S w ρ [p] args.toList):∃ v,args = #[v]∧VR E S w ρ p v:=by
 obtain ⟨l⟩:=args
 cases h with | cons _ v _ _ h hs=>cases hs;exact ⟨v,rfl,h⟩
theorem row_in {α : Type} {d:Kd α} {c:TC} {inv:El N c → α} (hsz:d.sz=sizeE E c) {nl:Option TypeId} {l:List (El N c)} {v:Value} (hK:∀ x∈l,∀ cs,cs.length=sizeE E c→VRs E S w noRho (encE E c x) cs→d.K w (inv x) cs) (hl:l.length≤9223372036854775807) (h:VR E S w ρ (.vsl nl c l) v) :
  ∃ A cap,v = .slice A l.length cap∧l.length≤cap∧d.C w A l.length (l.map inv):=by
 cases h with
 | vsl _ _ _ A cap vs h1 h2 h3 hA hcap hnl=>
  refine ⟨A,cap,rfl,hcap,by rw [List.length_map],hl,fun h0=>?_⟩
  obtain ⟨b,o,rfl⟩:=hA h0
  refine ⟨_,rfl,fun j p hj=>?_⟩
  rw [List.getElem?_map] at hj
  obtain ⟨x,hx,rfl⟩:=Option.map_eq_some_iff.mp hj
  have hlt:j<l.length:=(List.getElem?_eq_some_iff.mp hx).1
  refine ⟨vs j,(h1 j x hx).trans hsz.symm,hK x (List.mem_of_getElem? hx) _ (h1 j x hx) (h2 j x hx),fun i u hu=>?_⟩
  obtain ⟨b',o',e,_,hc,_⟩:=h3 j hlt i u hu
  injection e with e;injection e with e1 e2;subst e1 e2
  rw [hsz,Addr.add_mid]
  exact hc
theorem in_u8 {k:IntKind} {n:Int} {cs:List Value} (h:VRs E S w noRho [.int k n] cs):(Kd.int k).K w n cs:=by
 cases h with | cons _ v _ _ h hs=>cases hs;cases h;rfl
theorem row_ints {k:IntKind} {nl:Option TypeId} {l:List Int} {v:Value} (hl:l.length≤9223372036854775807) (h:VR E S w ρ (.vsl nl (.int k) l) v):∃ A cap,v = .slice A l.length cap∧l.length≤cap∧(Kd.int k).C w A l.length l:=by
 obtain ⟨A,cap,e,h1,h2⟩:=row_in (d:=Kd.int k) (c:=.int k) (inv:=fun n=>n) rfl (fun x _ cs _ h=>in_u8 h) hl h
 exact ⟨A,cap,e,h1,(congrArg (fun z:List Int=>(Kd.int k).C w A l.length z) (List.map_id' l)).mp h2⟩
theorem in66 {x:S66} {cs:List Value} (h:VRs E S w noRho (encE E (.named 66) x) cs):PAll.k66.K w (i66 x) cs:=by
 replace h:VRs E S w noRho [.int .u8 x.f0,.int .u8 x.f1] cs:=h
 rcases h with _ | ⟨_,_,_,_,g0,h⟩;rcases h with _ | ⟨_,_,_,_,g1,h⟩;cases h;cases g0;cases g1
 exact ⟨[_],[_],rfl,rfl,rfl⟩
theorem in87 {x:S87} {cs:List Value} (h:VRs E S w noRho (encE E (.named 87) x) cs):PAll.k87.K w (i87 x) cs:=by
 replace h:VRs E S w noRho [.int .u8 x.f0,.int .u8 x.f1,.int .u8 x.f2,.int .u8 x.f3,.int .u8 x.f4,.int .u64 x.f5] cs:=h
 rcases h with _ | ⟨_,_,_,_,g0,h⟩;rcases h with _ | ⟨_,_,_,_,g1,h⟩;rcases h with _ | ⟨_,_,_,_,g2,h⟩;rcases h with _ | ⟨_,_,_,_,g3,h⟩;rcases h with _ | ⟨_,_,_,_,g4,h⟩;rcases h with _ | ⟨_,_,_,_,g5,h⟩;cases h;cases g0;cases g1;cases g2;cases g3;cases g4;cases g5
 exact ⟨[_],_,rfl,rfl,[_],_,rfl,rfl,[_],_,rfl,rfl,[_],_,rfl,rfl,[_],[_],rfl,rfl,rfl⟩
theorem in75 {x:S75} (hx:x.f0.length≤5∧x.f1.length≤14) {cs:List Value} (h:VRs E S w noRho (encE E (.named 75) x) cs):PAll.k75.K w (i75 x) cs:=by
 replace h:VRs E S w noRho [.vsl none (.int .u8) x.f0,.vsl none (.named 87) x.f1,.int .u8 x.f2,.int .u8 x.f3,.int .u8 x.f4,.int .u8 x.f5,.bool x.f6] cs:=h
 rcases h with _ | ⟨_,_,_,_,g0,h⟩;rcases h with _ | ⟨_,_,_,_,g1,h⟩;rcases h with _ | ⟨_,_,_,_,g2,h⟩;rcases h with _ | ⟨_,_,_,_,g3,h⟩;rcases h with _ | ⟨_,_,_,_,g4,h⟩;rcases h with _ | ⟨_,_,_,_,g5,h⟩;rcases h with _ | ⟨_,_,_,_,g6,h⟩;cases h;cases g2;cases g3;cases g4;cases g5;cases g6
 obtain ⟨A0,c0,rfl,l0,h0⟩:=row_ints (by omega) g0
 obtain ⟨A1,c1,rfl,l1,h1⟩:=row_in (d:=PAll.k87) (c:=.named 87) (inv:=i87) rfl (fun x _ cs _ h=>in87 h) (Nat.le_trans hx.2 (by decide)) g1
 have e1:(x.f1.map i87).length=x.f1.length:=List.length_map _
 refine ⟨[_],_,rfl,⟨A0,c0,rfl,l0,h0⟩,[.slice A1 x.f1.length c1],_,rfl,⟨A1,c1,?_,?_,?_⟩,[_],_,rfl,rfl,[_],_,rfl,rfl,[_],_,rfl,rfl,[_],[_],rfl,rfl,rfl⟩
 ·show _ = [Value.slice A1 (x.f1.map i87).length c1]
  rw [e1]
 ·show (x.f1.map i87).length≤c1
  rw [e1];exact l1
 ·show PAll.k87.C w A1 (x.f1.map i87).length (x.f1.map i87)
  rw [e1];exact h1
def newS (base:Nat) (w:World):Stab:=fun b _=>base≤b∧b<w.heap.size
structure Bm {α : Type} (d:Kd α) (ps : α → List (PV N)):Prop where
 bm:∀ {w:World} {base:Nat} {ok:Nat→Prop} {x : α} {cs:List Value},d.M w base ok x cs→VRs E (newS base w) w noRho (ps x) cs
theorem Bm.int (k:IntKind):Bm (Kd.int k) (fun n=>[.int k n]):=⟨fun h=>by
 obtain rfl:_ = [Value.int k _]:=h
 exact .cons _ _ _ _ (.int _ _) .nil⟩
theorem Bm.bool:Bm Kd.bool (fun b=>[.bool b]):=⟨fun h=>by
 obtain rfl:_ = [Value.bool _]:=h
 exact .cons _ _ _ _ (.bool _) .nil⟩
theorem Bm.string:Bm Kd.string (fun s=>[.str s.data.toList]):=⟨fun h=>by
 obtain rfl:_ = [Value.string _]:=h
 exact .cons _ _ _ _ (.str _) .nil⟩
theorem Bm.pair {α β : Type} {a:Kd α} {b:Kd β} {p : α → List (PV N)} {q : β → List (PV N)} (h:Bm a p) (k:Bm b q):Bm (Kd.pair a b) (fun x=>p x.1++q x.2):=⟨fun hx=>by
 obtain ⟨c0,c1,rfl,h0,h1⟩:=hx
 exact (h.bm h0).append (k.bm h1)⟩
theorem Bm.iso {α β : Type} {a:Kd α} {p : α → List (PV N)} (h:Bm a p) (f : β → α):Bm (Kd.iso a f) (fun x=>p (f x)):=⟨fun hx=>h.bm hx⟩
theorem Bm.row {α : Type} {d:Kd α} {ps : α → List (PV N)} (h:Bm d ps) (c:TC) (conv : α → El N c) (hps:∀ x,encE E c (conv x)=ps x) (hsz:d.sz=sizeE E c) {e:Nat} {w:World} {base:Nat} {ok:Nat→Prop} {v:Value} {xs:List α} {ρ : Rho} (hr:d.R e w base ok v xs):VR E (newS base w) w ρ (.vsl none c (xs.map conv)) v:=by
 obtain ⟨-,inner,⟨ho1,ho⟩,hi,hr⟩:=hr
 have fin:∀ (A:Option Addr) (cap:Nat),v = .slice A xs.length cap→xs.length≤cap→(0<xs.length→∃ g,A=some ⟨g,0,none⟩∧base≤g∧g<w.heap.size∧∀ q u,inner[q]? = some u→w.cell? ⟨g,q,none⟩=some u)→VR E (newS base w) w ρ (.vsl none c (xs.map conv)) v:=by
  rintro A cap rfl hcap hA
  have:=VR.vsl (E:=E) (S:=newS base w) (w:=w) (ρ := ρ) none c (xs.map conv) A cap (fun j=>(inner.drop (j*d.sz)).take d.sz) (fun j x hx=>?_) (fun j x hx=>?_) (fun j hj q u hu=>?_) (fun h0=>?_) (by rw [List.length_map];exact hcap) (fun h=>absurd rfl h)
  ·rwa [List.length_map] at this
  ·rw [List.getElem?_map] at hx
   obtain ⟨y,hy,rfl⟩:=Option.map_eq_some_iff.mp hx
   exact (d.K_len (d.K_of_M (hr j y hy))).trans hsz
  ·rw [List.getElem?_map] at hx
   obtain ⟨y,hy,rfl⟩:=Option.map_eq_some_iff.mp hx
   rw [hps]
   exact h.bm (hr j y hy)
  ·rw [List.length_map] at hj
   obtain ⟨g,rfl,hb,hlt,hc⟩:=hA (by omega)
   have hq:q<d.sz:=by
    have:=(List.getElem?_eq_some_iff.mp hu).1
    rw [List.length_take] at this;omega
   have hu2:inner[j*d.sz+q]? = some u:=by
    rw [List.getElem?_take_of_lt hq,List.getElem?_drop] at hu
    exact hu
   rw [← hsz]
   refine ⟨g,0,rfl,⟨hb,hlt⟩,?_,?_⟩
   ·rw [Nat.zero_add];exact hc _ u hu2
   ·exact d.K_one (d.K_of_M (hr j _ (List.getElem?_eq_getElem hj))) u (List.mem_of_getElem? hu)
  ·rw [List.length_map] at h0
   obtain ⟨g,rfl,_⟩:=hA h0
   exact ⟨g,0,rfl⟩
 rcases ho with ⟨rfl,h0⟩ | ⟨g,cap,cur,rfl,hb,hh,hcap,hm,hs,ht⟩
 ·refine fin none 0 (by rw [h0]) (by omega) (fun h=>by omega)
 ·refine fin _ cap rfl hcap (fun h=>⟨g,rfl,hb,(Array.getElem?_eq_some_iff.1 hh).1,fun q u hu=>?_⟩)
  rw [cell_of hh]
  have hq:=(List.getElem?_eq_some_iff.mp hu).1
  rw [← ht] at hu
  rw [List.getElem?_take_of_lt (by omega)] at hu
  rw [← Array.getElem?_toList]
  exact hu
theorem Bm.slice {α : Type} {d:Kd α} {ps : α → List (PV N)} (h:Bm d ps) (e:Nat) (c:TC) (conv : α → El N c) (hps:∀ x,encE E c (conv x)=ps x) (hsz:d.sz=sizeE E c):Bm (Kd.slice e d) (fun l=>[.vsl none c (l.map conv)]):=⟨fun hx=>by
 obtain ⟨v,rfl,hr⟩:=hx
 exact .cons _ _ _ _ (h.row c conv hps hsz hr) .nil⟩
theorem ints_row {k:IntKind} {e:Nat} {w:World} {base:Nat} {ok:Nat→Prop} {v:Value} {xs:List Int} {ρ : Rho} (hr:(Kd.int k).R e w base ok v xs):VR E (newS base w) w ρ (.vsl none (.int k) xs) v:=by
 have:=(Bm.int k).row (.int k) (fun n:Int=>n) (fun _=>rfl) rfl (ρ := ρ) hr
 exact (congrArg (fun z:List Int=>VR E (newS base w) w ρ (.vsl none (.int k) z) v) (List.map_id' xs)).mp this
theorem Bm.ints (k:IntKind) (e:Nat):Bm (Kd.slice e (Kd.int k)) (fun l=>[.vsl none (.int k) l]):=⟨fun hx=>by
 obtain ⟨v,rfl,hr⟩:=hx
 exact .cons _ _ _ _ (ints_row hr) .nil⟩
theorem bm72:Bm PAll.k72 (fun x=>encE E (.named 72) (c72 x)):=((Bm.int .i64).pair ((Bm.int .i64).pair ((Bm.ints .i64 3).pair ((Bm.int .u64).pair (Bm.int .i64))))).iso _
theorem bm111:Bm PAll.k111 (fun x=>encE E (.named 111) (c111 x)):=((Bm.int .i64).pair (Bm.ints .i64 3)).iso _
theorem bm53:Bm PAll.k53 (fun x=>encE E (.named 53) (c53 x)):=((Bm.ints .i64 3).pair ((bm72.slice 72 (.named 72) c72 (fun _=>rfl) rfl).pair ((((Bm.int .i64).pair ((Bm.int .i64).pair ((bm111.slice 111 (.named 111) c111 (fun _=>rfl) rfl).pair (Bm.ints .i64 3)))).iso _).pair ((Bm.int .i64).pair ((Bm.int .i64).pair (Bm.int .i64)))))).iso _
theorem bm78:Bm PAll.k78 (fun x=>encE E (.named 78) (c78 x)):=(Bm.string.pair ((Bm.int .i64).pair ((Bm.int .i64).pair ((Bm.int .i64).pair (Bm.int .i64))))).iso _
theorem bm80:Bm PAll.k80 (fun x=>encE E (.named 80) (c80 x)):=(Bm.string.pair ((Bm.int .i64).pair Bm.bool)).iso _
theorem fewB_ok {s0:List Int} {s1 s2:List S66} {s3:List Int} {s4:List S75}:fewB s0 s1 s2 s3 s4=true↔s0.length≤4∧s1.length≤3∧s2.length≤4∧s3.length≤3∧s4.length≤5∧∀ p∈s4,p.f0.length≤5∧p.f1.length≤14:=by
 unfold fewB
 simp only [Bool.and_eq_true,decide_eq_true_eq,List.all_eq_true,and_assoc]
theorem func_ok {s0:List Int} {s1 s2:List S66} {s3:List Int} {s4:List S75} {F:PAll.FN} {v:Value} (hf:fewB s0 s1 s2 s3 s4=true) (hF:PAll.mkFunc 70 s0 (s1.map i66) (s2.map i66) s3 (s4.map i75)=some F) (cx:Cx w (Xof ρ) S ρ w) (hn:∀ b,([]:Heap N).length≤b → ρ b=none)
  (h:VR E S w ρ (.agg [.vsl none (.int .u8) s0,.vsl none (.named 66) s1,.vsl none (.named 66) s2,.vsl none (.int .u8) s3,.vsl none (.named 75) s4]) v):Calls Try.prog 11 #[v] w (CallPost E w S ρ (nbOf ([]:Heap N)) ([pvFN F],[])):=by
 obtain ⟨f0,f1,f2,f3,f4,f5⟩:=fewB_ok.1 hf
 cases h with
 | agg _ vs h=>
  obtain ⟨vs⟩:=vs
  rcases h with _ | ⟨_,v0,_,_,g0,h⟩;rcases h with _ | ⟨_,v1,_,_,g1,h⟩;rcases h with _ | ⟨_,v2,_,_,g2,h⟩;rcases h with _ | ⟨_,v3,_,_,g3,h⟩;rcases h with _ | ⟨_,v4,_,_,g4,h⟩;cases h
  obtain ⟨A0,k0,rfl,-,r0⟩:=row_ints (by omega) g0
  obtain ⟨A1,k1,rfl,-,r1⟩:=row_in (d:=PAll.k66) (c:=.named 66) (inv:=i66) rfl (fun x _ cs _ h=>in66 h) (Nat.le_trans f1 (by decide)) g1
  obtain ⟨A2,k2,rfl,-,r2⟩:=row_in (d:=PAll.k66) (c:=.named 66) (inv:=i66) rfl (fun x _ cs _ h=>in66 h) (Nat.le_trans f2 (by decide)) g2
  obtain ⟨A3,k3,rfl,-,r3⟩:=row_ints (by omega) g3
  obtain ⟨A4,k4,rfl,-,r4⟩:=row_in (d:=PAll.k75) (c:=.named 75) (inv:=i75) rfl (fun x hx cs _ h=>in75 (f5 x hx) h) (Nat.le_trans f4 (by decide)) g4
  have hc:=PAll.mkFunc_calls (c0:=k0) (c1:=k1) (c2:=k2) (c3:=k3) (c4:=k4) r0 (by rw [List.length_map];exact r1) (by rw [List.length_map];exact r2) r3 (by rw [List.length_map];exact r4) hF
  rw [List.length_map,List.length_map,List.length_map] at hc
  refine hc.mono ?_
  rintro e w' ⟨v1,v2,v3,v4,v5,rfl,q1,q2,q3,q4,q5,bel⟩
  have mono:∀ {p:PV N} {u:Value},VR E (newS w.heap.size w') w' ρ p u→VR E (fun b o=>S b o∨newS w.heap.size w' b o) w' ρ p u:=fun h=>VR.mono (fun b o h=>⟨.inr h,rfl⟩) (Rle.refl _) h
  exact post_of cx hn bel (S':=fun b o=>S b o∨newS w.heap.size w' b o) (fun b o h=>.inl h) (fun b o h=>h) (.agg _ _ (.cons _ _ _ _ (.str _) (.cons _ _ _ _ (mono (ints_row q1)) (.cons _ _ _ _ (mono (bm78.row (.named 78) c78 (fun _=>rfl) rfl q2)) (.cons _ _ _ _ (mono (bm80.row (.named 80) c80 (fun _=>rfl) rfl q3)) (.cons _ _ _ _ (mono (ints_row q4)) (.cons _ _ _ _ (mono (bm53.row (.named 53) c53 (fun _=>rfl) rfl q5)) .nil)))))))
end
end Go.Proofs.Ytabcdpddhmekkaa.vm
