-- Written for this claim by programs of this session (wip in its repo). Lean checks it.
import Derived.Test.YtabcdpddhmekkaaP2
set_option linter.all false
namespace Go.Proofs.Ytabcdpddhmekkaa.vm
open Go Go.RowKit Go.Vm
def lkB (a b:S72):Bool:=combB a.f0&&combB b.f0&&decide (a.f1∈b.f2)
def szB (b:S53):Int:=1+(b.f0.length:Int)+(b.f1.length:Int)+(b.f4.length:Int)
def szL:List S53→Int
 | []=>0
 | b::l=>szB b+szL l
theorem szL_nn:∀ l:List S53,0≤szL l
 | []=>Int.le_refl _
 | b::l=>by have:=szL_nn l;unfold szL szB;omega
theorem drop_cons {α : Type} (l:List α) (z : α) {i:Nat} (h:i<l.length):l.drop i=l.getD i z::l.drop (i+1):=by
 rw [List.drop_eq_getElem_cons h,List.getD_eq_getElem?_getD,List.getElem?_eq_getElem h];rfl
theorem l33 (k:Nat) (bl:List S53):∀ (m i:Nat) (x:Int),i≤bl.length→bl.length - i<m→0≤x→x+szL (bl.drop i)<1000000000→bl.length<1000000000 →
  l33_0 k m x bl (bl.length:Int) (i:Int)=some ([.int .i64 (x+szL (bl.drop i))],[])
 | 0,_,_,_,h,_,_,_=>absurd h (by omega)
 | m+1,i,x,hi,hm,h0,hx,hl=>by
  rw [l33_0_eq]
  by_cases c:i<bl.length
  ·rw [if_pos (by omega),if_pos (by omega),if_pos (by omega),Int.toNat_natCast]
   rw [drop_cons bl z53 c] at hx ⊢
   have n0:=szL_nn (bl.drop (i+1))
   have eb:szL (bl.getD i z53::bl.drop (i+1))=szB (bl.getD i z53)+szL (bl.drop (i+1)):=rfl
   rw [eb] at hx ⊢
   have hb:szB (bl.getD i z53)=1+((bl.getD i z53).f0.length:Int)+((bl.getD i z53).f1.length:Int)+((bl.getD i z53).f4.length:Int):=rfl
   have e4:wrap64 (x+wrap64 (wrap64 (wrap64 (1+((bl.getD i z53).f0.length:Int))+((bl.getD i z53).f1.length:Int))+((bl.getD i z53).f4.length:Int)))=x+szB (bl.getD i z53):=by
    rw [w64 (x:=1+((bl.getD i z53).f0.length:Int)) (by omega) (by omega),w64 (x:=1+((bl.getD i z53).f0.length:Int)+((bl.getD i z53).f1.length:Int)) (by omega) (by omega),← hb,w64 (x:=szB (bl.getD i z53)) (by omega) (by omega),w64 (by omega) (by omega)]
   rw [e4,w64 (x:=(i:Int)+1) (by omega) (by omega),show (i:Int)+1=((i+1:Nat):Int) from rfl]
   rw [l33 k bl m (i+1) (x+szB (bl.getD i z53)) (by omega) (by omega) (by omega) (by omega) hl,Int.add_assoc]
  ·rw [if_neg (by omega),List.drop_eq_nil_of_le (by omega)]
   simp [szL]
theorem l36 (k:Nat) (F:FV):∀ (m i:Nat) (x:Int),i≤F.bl.length→F.bl.length - i<m→0≤x→x+szL (F.bl.drop i)<1000000000→F.bl.length<1000000000 →
  l36_0 k m x (i:Int) F.nm F.ws F.ar F.st F.rt F.bl=some ([.int .i64 (x+szL (F.bl.drop i))],[])
 | 0,_,_,_,h,_,_,_=>absurd h (by omega)
 | m+1,i,x,hi,hm,h0,hx,hl=>by
  rw [l36_0_eq]
  by_cases c:i<F.bl.length
  ·rw [if_pos (by omega),if_pos (by omega),if_pos (by omega),Int.toNat_natCast]
   rw [drop_cons F.bl z53 c] at hx ⊢
   have n0:=szL_nn (F.bl.drop (i+1))
   have eb:szL (F.bl.getD i z53::F.bl.drop (i+1))=szB (F.bl.getD i z53)+szL (F.bl.drop (i+1)):=rfl
   rw [eb] at hx ⊢
   have hb:szB (F.bl.getD i z53)=1+((F.bl.getD i z53).f0.length:Int)+((F.bl.getD i z53).f1.length:Int)+((F.bl.getD i z53).f4.length:Int):=rfl
   have e4:wrap64 (x+wrap64 (wrap64 (wrap64 (1+((F.bl.getD i z53).f0.length:Int))+((F.bl.getD i z53).f1.length:Int))+((F.bl.getD i z53).f4.length:Int)))=x+szB (F.bl.getD i z53):=by
    rw [w64 (x:=1+((F.bl.getD i z53).f0.length:Int)) (by omega) (by omega),w64 (x:=1+((F.bl.getD i z53).f0.length:Int)+((F.bl.getD i z53).f1.length:Int)) (by omega) (by omega),← hb,w64 (x:=szB (F.bl.getD i z53)) (by omega) (by omega),w64 (by omega) (by omega)]
   rw [e4,w64 (x:=(i:Int)+1) (by omega) (by omega),show (i:Int)+1=((i+1:Nat):Int) from rfl]
   rw [l36 k F m (i+1) (x+szB (F.bl.getD i z53)) (by omega) (by omega) (by omega) (by omega) hl,Int.add_assoc]
  ·rw [if_neg (by omega),List.drop_eq_nil_of_le (by omega)]
   simp [szL]
theorem pl_bigs:∀ a b:Fin 73,pl 40 (((a.val*73+b.val:Nat):Int)+1) 0 1=some (Lib.bitLen (a.val*73+b.val):Nat):=by decide +kernel
theorem pl_big (w:Nat) (h:w<5200):pl 40 ((w:Int)+1) 0 1=some (Lib.bitLen w:Nat):=by
 have:=pl_bigs ⟨w / 73,by omega⟩ ⟨w % 73,by omega⟩
 simp only [] at this
 rw [show w / 73*73+w % 73=w from by omega] at this
 exact this
theorem lev50 (k:Nat) (w:Int) (h0:1≤w) (h1:w≤5200):evF T (k+2) 50 [.int .i64 w] []=some ([.int .i64 (Lib.bitLen (w - 1).toNat:Nat)],[]):=by
 rw [f50_eq,if_neg (by omega),w64 (x:=w - 1) (by omega) (by omega),wu64 (x:=w - 1) (by omega) (by omega),e29 _ _ ⟨by omega,by omega⟩]
 rfl
theorem lev51 (k:Nat) (w:Int) (h0:1≤w) (h1:w≤5200):evF T (k+41) 51 [.int .i64 w] []=some ([.int .i64 (Lib.bitLen (w - 1).toNat:Nat)],[]):=by
 have h:=pl_big (w - 1).toNat (by omega)
 rw [show ((w - 1).toNat:Int)+1=w from by omega] at h
 exact (f51_eq (k+40) w).trans (l17_pl (k+40) (k+40) w 0 1 _ (pl_mono k 40 _ _ _ _ h))
def lvZ (n:Int):Int:=(Lib.bitLen (n - 1).toNat:Nat)
def endZ (n:Int):Int:=300+20*lvZ n
def frzZ (n:Int):Int:=320+40*lvZ n
theorem lvZ_ok {n:Int} (h0:1≤n) (h1:n≤5200):0≤lvZ n∧lvZ n≤13:=by
 have:=Lib.bitLen_le (n - 1).toNat 13 (by omega) (by omega)
 unfold lvZ;omega
theorem resv {n:Int} (h0:1≤n) (h1:n≤5200):wrap64 (300+wrap64 (20*lvZ n))=endZ n∧wrap64 (320+wrap64 (40*lvZ n))=frzZ n:=by
 have:=lvZ_ok h0 h1
 unfold endZ frzZ
 refine ⟨?_,?_⟩
 ·rw [w64 (x:=20*lvZ n) (by omega) (by omega),w64 (by omega) (by omega)]
 ·rw [w64 (x:=40*lvZ n) (by omega) (by omega),w64 (by omega) (by omega)]
theorem c32 (k:Nat) {n:Int} (h0:1≤n) (h1:n≤5200):evF T (k+3) 32 [.int .i64 n] []=some ([.agg [.int .i64 30,.int .i64 (endZ n),.int .i64 (frzZ n)]],[]):=by
 rw [f32_eq,lev50 k n h0 h1,Option.bind_some,res50_eq,Option.bind_some,res50_eq]
 have:=resv h0 h1
 unfold lvZ at this
 rw [this.1,this.2]
theorem c35 (k:Nat) {n:Int} (h0:1≤n) (h1:n≤5200):evF T (k+42) 35 [.int .i64 n] []=some ([.agg [.int .i64 30,.int .i64 (endZ n),.int .i64 (frzZ n)]],[]):=by
 rw [f35_eq,lev51 k n h0 h1,Option.bind_some,res51_eq,Option.bind_some,res51_eq]
 have:=resv h0 h1
 unfold lvZ at this
 rw [this.1,this.2]
end Go.Proofs.Ytabcdpddhmekkaa.vm
