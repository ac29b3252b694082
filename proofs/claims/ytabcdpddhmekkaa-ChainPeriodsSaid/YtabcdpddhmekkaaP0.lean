-- Written for this claim by programs of this session (wip/print2 in its repo: a changed printer, a shortener, a packer). Lean checks it.
import Derived.Test.YtabcdpddhmekkaaWAll
import Derived.Test.YtabcdpddhmekkaaProg
import Derived.Below
import Derived.Deep.Draws
import Derived.Deep.AppendLies
import Derived.Maps.AppendAt
import Derived.OwnWalk
import Derived.Laws.BytesArg
import Derived.Laws.MakeOwn
import Derived.Laws.OwnMore
import Derived.Deep.OwnRows
import Derived.Tactics
import Derived.Lib.ConvBytes
import Derived.Laws.Slices
import Derived.WalkKit
import Derived.KernelRfl
import Derived.RowKit3
import Derived.Deep.LoopGhost
import Derived.Deep.QuietTactic
import Derived.BigQuiet
import Derived.WideLaws
import Derived.Deep.DeepCutAuto
import Derived.Deep.CutBlock
import Derived.Deep.RegionHeld3
import Derived.Laws.Rows
import Derived.Lib.AppendStr
import Derived.ArgAppend
import Derived.Laws.IdiomCopy
import Derived.OrdersHeld
import Derived.Laws.BitsLemmas
import Derived.RowKit
set_option linter.all false
namespace Go.Proofs.Ytabcdpddhmekkaa.PAll
open Go.RowKit Go.Proofs.YtabcdpddhmekkaaW.PrintWords Go.Proofs.YtabcdpddhmekkaaW.PrintLast Go.Proofs.YtabcdpddhmekkaaW.PrintMore
attribute [local go_sem] max2_int min2_int max_two min_two max_three min_three max_four min_four
set_option linter.unusedVariables false
set_option linter.unusedSimpArgs false
def errW:Option Int→Value
 | none=>.nilIface
 | some c=>.iface 0 (.int .i64 c)
theorem errW_none:errW none = .nilIface:=rfl
theorem errW_some (c:Int):errW (some c) = .iface 0 (.int .i64 c):=rfl
theorem info3:(Try.prog.info? 3).map (fun i=>(i.zero,i.size,i.bytes))=some (some (.int .i64 0),1,8):=by kernel_rfl
structure S66 where
 f0:Int
 f1:Int
def z66:S66:=⟨(0:Int),(0:Int)⟩
def k66:Kd S66:=Kd.iso (Kd.pair (Kd.int .u8) (Kd.int .u8)) (fun x:S66=>(x.f0,x.f1))
theorem k66_open {w:World} {x:S66} {cs:List Value} (h:k66.K w x cs):cs = [.int .u8 x.f0,.int .u8 x.f1]:=by
 obtain ⟨_,_,rfl,rfl,rfl⟩:=h
 exact rfl
def rd_T66 (xs:List S66) (i:Int):S66:=xs.getD i.toNat z66
theorem at_T66 {w:World} {A:Option Addr} {n:Nat} {xs:List S66} (h:Kd.C k66 w A n xs) (i:Int) (h0:0≤i) (h1:i<n):∃ ad , A=some ad∧w.cell? (ad.add (i.toNat*2))=some (.int .u8 (rd_T66 xs i).f0)∧w.cell? ⟨(ad.add (i.toNat*2)).block,(ad.add (i.toNat*2)).off+1,none⟩=some (.int .u8 (rd_T66 xs i).f1):=by
 obtain ⟨ad,c,e,_,hK,hc0⟩:=Kd.C_get h z66 i h0 h1
 have hc:∀ j u,c[j]? = some u→w.cell? (ad.add (i.toNat*2+j))=some u:=hc0
 obtain rfl:=k66_open hK
 exact ⟨ad,e,hc 0 _ rfl,by rw [← add_field _ _ 1 (by omega)];exact hc 1 _ rfl⟩
structure S87 where
 f0:Int
 f1:Int
 f2:Int
 f3:Int
 f4:Int
 f5:Int
def z87:S87:=⟨(0:Int),(0:Int),(0:Int),(0:Int),(0:Int),(0:Int)⟩
def k87:Kd S87:=Kd.iso (Kd.pair (Kd.int .u8) (Kd.pair (Kd.int .u8) (Kd.pair (Kd.int .u8) (Kd.pair (Kd.int .u8) (Kd.pair (Kd.int .u8) (Kd.int .u64)))))) (fun x:S87=>(x.f0,x.f1,x.f2,x.f3,x.f4,x.f5))
theorem k87_open {w:World} {x:S87} {cs:List Value} (h:k87.K w x cs):cs = [.int .u8 x.f0,.int .u8 x.f1,.int .u8 x.f2,.int .u8 x.f3,.int .u8 x.f4,.int .u64 x.f5]:=by
 obtain ⟨_,_,rfl,rfl,⟨_,_,rfl,rfl,⟨_,_,rfl,rfl,⟨_,_,rfl,rfl,⟨_,_,rfl,rfl,rfl⟩⟩⟩⟩⟩:=h
 exact rfl
def rd_T87 (xs:List S87) (i:Int):S87:=xs.getD i.toNat z87
theorem at_T87 {w:World} {A:Option Addr} {n:Nat} {xs:List S87} (h:Kd.C k87 w A n xs) (i:Int) (h0:0≤i) (h1:i<n):∃ ad , A=some ad∧w.cell? (ad.add (i.toNat*6))=some (.int .u8 (rd_T87 xs i).f0)∧w.cell? ⟨(ad.add (i.toNat*6)).block,(ad.add (i.toNat*6)).off+1,none⟩=some (.int .u8 (rd_T87 xs i).f1)∧w.cell? ⟨(ad.add (i.toNat*6)).block,(ad.add (i.toNat*6)).off+2,none⟩=some (.int .u8 (rd_T87 xs i).f2)∧w.cell? ⟨(ad.add (i.toNat*6)).block,(ad.add (i.toNat*6)).off+3,none⟩=some (.int .u8 (rd_T87 xs i).f3)∧w.cell? ⟨(ad.add (i.toNat*6)).block,(ad.add (i.toNat*6)).off+4,none⟩=some (.int .u8 (rd_T87 xs i).f4)∧w.cell? ⟨(ad.add (i.toNat*6)).block,(ad.add (i.toNat*6)).off+5,none⟩=some (.int .u64 (rd_T87 xs i).f5):=by
 obtain ⟨ad,c,e,_,hK,hc0⟩:=Kd.C_get h z87 i h0 h1
 have hc:∀ j u,c[j]? = some u→w.cell? (ad.add (i.toNat*6+j))=some u:=hc0
 obtain rfl:=k87_open hK
 exact ⟨ad,e,hc 0 _ rfl,by rw [← add_field _ _ 1 (by omega)];exact hc 1 _ rfl,by rw [← add_field _ _ 2 (by omega)];exact hc 2 _ rfl,by rw [← add_field _ _ 3 (by omega)];exact hc 3 _ rfl,by rw [← add_field _ _ 4 (by omega)];exact hc 4 _ rfl,by rw [← add_field _ _ 5 (by omega)];exact hc 5 _ rfl⟩
structure S75 where
 f0:(List Int)
 f1:(List S87)
 f2:Int
 f3:Int
 f4:Int
 f5:Int
 f6:Bool
def z75:S75:=⟨([]:List Int),([]:List S87),(0:Int),(0:Int),(0:Int),(0:Int),false⟩
def k75:Kd S75:=Kd.iso (Kd.pair (Kd.slice 5 (Kd.int .u8)) (Kd.pair (Kd.slice 87 k87) (Kd.pair (Kd.int .u8) (Kd.pair (Kd.int .u8) (Kd.pair (Kd.int .u8) (Kd.pair (Kd.int .u8) Kd.bool)))))) (fun x:S75=>(x.f0,x.f1,x.f2,x.f3,x.f4,x.f5,x.f6))
theorem k75_open {w:World} {x:S75} {cs:List Value} (h:k75.K w x cs):∃ A0 c0 A1 c1,cs = [.slice A0 x.f0.length c0,.slice A1 x.f1.length c1,.int .u8 x.f2,.int .u8 x.f3,.int .u8 x.f4,.int .u8 x.f5,.bool x.f6]∧x.f0.length≤c0∧(Kd.int .u8).C w A0 x.f0.length x.f0∧x.f1.length≤c1∧k87.C w A1 x.f1.length x.f1:=by
 obtain ⟨_,_,rfl,⟨A0,c0,rfl,l0,g0⟩,⟨_,_,rfl,⟨A1,c1,rfl,l1,g1⟩,⟨_,_,rfl,rfl,⟨_,_,rfl,rfl,⟨_,_,rfl,rfl,⟨_,_,rfl,rfl,rfl⟩⟩⟩⟩⟩⟩:=h
 exact ⟨A0,c0,A1,c1,rfl,l0,g0,l1,g1⟩
def rd_T75 (xs:List S75) (i:Int):S75:=xs.getD i.toNat z75
theorem at_T75 {w:World} {A:Option Addr} {n:Nat} {xs:List S75} (h:Kd.C k75 w A n xs) (i:Int) (h0:0≤i) (h1:i<n):∃ ad A0 c0 A1 c1,A=some ad∧w.cell? (ad.add (i.toNat*7))=some (.slice A0 (rd_T75 xs i).f0.length c0)∧w.cell? ⟨(ad.add (i.toNat*7)).block,(ad.add (i.toNat*7)).off+1,none⟩=some (.slice A1 (rd_T75 xs i).f1.length c1)∧w.cell? ⟨(ad.add (i.toNat*7)).block,(ad.add (i.toNat*7)).off+2,none⟩=some (.int .u8 (rd_T75 xs i).f2)∧w.cell? ⟨(ad.add (i.toNat*7)).block,(ad.add (i.toNat*7)).off+3,none⟩=some (.int .u8 (rd_T75 xs i).f3)∧w.cell? ⟨(ad.add (i.toNat*7)).block,(ad.add (i.toNat*7)).off+4,none⟩=some (.int .u8 (rd_T75 xs i).f4)∧w.cell? ⟨(ad.add (i.toNat*7)).block,(ad.add (i.toNat*7)).off+5,none⟩=some (.int .u8 (rd_T75 xs i).f5)∧w.cell? ⟨(ad.add (i.toNat*7)).block,(ad.add (i.toNat*7)).off+6,none⟩=some (.bool (rd_T75 xs i).f6)∧(rd_T75 xs i).f0.length≤c0∧(Kd.int .u8).C w A0 (rd_T75 xs i).f0.length (rd_T75 xs i).f0∧(rd_T75 xs i).f1.length≤c1∧k87.C w A1 (rd_T75 xs i).f1.length (rd_T75 xs i).f1:=by
 obtain ⟨ad,c,e,_,hK,hc0⟩:=Kd.C_get h z75 i h0 h1
 have hc:∀ j u,c[j]? = some u→w.cell? (ad.add (i.toNat*7+j))=some u:=hc0
 obtain ⟨A0,c0,A1,c1,rfl,l0,g0,l1,g1⟩:=k75_open hK
 exact ⟨ad,A0,c0,A1,c1,e,hc 0 _ rfl,by rw [← add_field _ _ 1 (by omega)];exact hc 1 _ rfl,by rw [← add_field _ _ 2 (by omega)];exact hc 2 _ rfl,by rw [← add_field _ _ 3 (by omega)];exact hc 3 _ rfl,by rw [← add_field _ _ 4 (by omega)];exact hc 4 _ rfl,by rw [← add_field _ _ 5 (by omega)];exact hc 5 _ rfl,by rw [← add_field _ _ 6 (by omega)];exact hc 6 _ rfl,l0,g0,l1,g1⟩
structure S78 where
 f0:ByteArray
 f1:Int
 f2:Int
 f3:Int
 f4:Int
def z78:S78:=⟨(⟨#[]⟩:ByteArray),(0:Int),(0:Int),(0:Int),(0:Int)⟩
def k78:Kd S78:=Kd.iso (Kd.pair Kd.string (Kd.pair (Kd.int .i64) (Kd.pair (Kd.int .i64) (Kd.pair (Kd.int .i64) (Kd.int .i64))))) (fun x:S78=>(x.f0,x.f1,x.f2,x.f3,x.f4))
theorem k78_open {w:World} {x:S78} {cs:List Value} (h:k78.K w x cs):cs = [.string x.f0,.int .i64 x.f1,.int .i64 x.f2,.int .i64 x.f3,.int .i64 x.f4]:=by
 obtain ⟨_,_,rfl,rfl,⟨_,_,rfl,rfl,⟨_,_,rfl,rfl,⟨_,_,rfl,rfl,rfl⟩⟩⟩⟩:=h
 exact rfl
theorem k78_mkM (w:World) (base:Nat) (ok:Nat→Prop) (x:S78)  : k78.M w base ok x [.string x.f0,.int .i64 x.f1,.int .i64 x.f2,.int .i64 x.f3,.int .i64 x.f4]:=⟨[.string x.f0],[.int .i64 x.f1,.int .i64 x.f2,.int .i64 x.f3,.int .i64 x.f4],rfl,rfl,⟨[.int .i64 x.f1],[.int .i64 x.f2,.int .i64 x.f3,.int .i64 x.f4],rfl,rfl,⟨[.int .i64 x.f2],[.int .i64 x.f3,.int .i64 x.f4],rfl,rfl,⟨[.int .i64 x.f3],[.int .i64 x.f4],rfl,rfl,rfl⟩⟩⟩⟩
def rd_T78 (xs:List S78) (i:Int):S78:=xs.getD i.toNat z78
theorem at_T78 {w:World} {A:Option Addr} {n:Nat} {xs:List S78} (h:Kd.C k78 w A n xs) (i:Int) (h0:0≤i) (h1:i<n):∃ ad , A=some ad∧w.cell? (ad.add (i.toNat*5))=some (.string (rd_T78 xs i).f0)∧w.cell? ⟨(ad.add (i.toNat*5)).block,(ad.add (i.toNat*5)).off+1,none⟩=some (.int .i64 (rd_T78 xs i).f1)∧w.cell? ⟨(ad.add (i.toNat*5)).block,(ad.add (i.toNat*5)).off+2,none⟩=some (.int .i64 (rd_T78 xs i).f2)∧w.cell? ⟨(ad.add (i.toNat*5)).block,(ad.add (i.toNat*5)).off+3,none⟩=some (.int .i64 (rd_T78 xs i).f3)∧w.cell? ⟨(ad.add (i.toNat*5)).block,(ad.add (i.toNat*5)).off+4,none⟩=some (.int .i64 (rd_T78 xs i).f4):=by
 obtain ⟨ad,c,e,_,hK,hc0⟩:=Kd.C_get h z78 i h0 h1
 have hc:∀ j u,c[j]? = some u→w.cell? (ad.add (i.toNat*5+j))=some u:=hc0
 obtain rfl:=k78_open hK
 exact ⟨ad,e,hc 0 _ rfl,by rw [← add_field _ _ 1 (by omega)];exact hc 1 _ rfl,by rw [← add_field _ _ 2 (by omega)];exact hc 2 _ rfl,by rw [← add_field _ _ 3 (by omega)];exact hc 3 _ rfl,by rw [← add_field _ _ 4 (by omega)];exact hc 4 _ rfl⟩
structure S80 where
 f0:ByteArray
 f1:Int
 f2:Bool
def z80:S80:=⟨(⟨#[]⟩:ByteArray),(0:Int),false⟩
def k80:Kd S80:=Kd.iso (Kd.pair Kd.string (Kd.pair (Kd.int .i64) Kd.bool)) (fun x:S80=>(x.f0,x.f1,x.f2))
theorem k80_open {w:World} {x:S80} {cs:List Value} (h:k80.K w x cs):cs = [.string x.f0,.int .i64 x.f1,.bool x.f2]:=by
 obtain ⟨_,_,rfl,rfl,⟨_,_,rfl,rfl,rfl⟩⟩:=h
 exact rfl
theorem k80_mkM (w:World) (base:Nat) (ok:Nat→Prop) (x:S80)  : k80.M w base ok x [.string x.f0,.int .i64 x.f1,.bool x.f2]:=⟨[.string x.f0],[.int .i64 x.f1,.bool x.f2],rfl,rfl,⟨[.int .i64 x.f1],[.bool x.f2],rfl,rfl,rfl⟩⟩
def rd_T80 (xs:List S80) (i:Int):S80:=xs.getD i.toNat z80
theorem at_T80 {w:World} {A:Option Addr} {n:Nat} {xs:List S80} (h:Kd.C k80 w A n xs) (i:Int) (h0:0≤i) (h1:i<n):∃ ad , A=some ad∧w.cell? (ad.add (i.toNat*3))=some (.string (rd_T80 xs i).f0)∧w.cell? ⟨(ad.add (i.toNat*3)).block,(ad.add (i.toNat*3)).off+1,none⟩=some (.int .i64 (rd_T80 xs i).f1)∧w.cell? ⟨(ad.add (i.toNat*3)).block,(ad.add (i.toNat*3)).off+2,none⟩=some (.bool (rd_T80 xs i).f2):=by
 obtain ⟨ad,c,e,_,hK,hc0⟩:=Kd.C_get h z80 i h0 h1
 have hc:∀ j u,c[j]? = some u→w.cell? (ad.add (i.toNat*3+j))=some u:=hc0
 obtain rfl:=k80_open hK
 exact ⟨ad,e,hc 0 _ rfl,by rw [← add_field _ _ 1 (by omega)];exact hc 1 _ rfl,by rw [← add_field _ _ 2 (by omega)];exact hc 2 _ rfl⟩
structure S72 where
 f0:Int
 f1:Int
 f2:(List Int)
 f3:Int
 f4:Int
def k72:Kd S72:=Kd.iso (Kd.pair (Kd.int .i64) (Kd.pair (Kd.int .i64) (Kd.pair (Kd.slice 3 (Kd.int .i64)) (Kd.pair (Kd.int .u64) (Kd.int .i64))))) (fun x:S72=>(x.f0,x.f1,x.f2,x.f3,x.f4))
theorem k72_mkM (w:World) (base:Nat) (ok:Nat→Prop) (x:S72) {v2:Value} (g2:(Kd.int .i64).R 3 w base ok v2 x.f2):k72.M w base ok x [.int .i64 x.f0,.int .i64 x.f1,v2,.int .u64 x.f3,.int .i64 x.f4]:=⟨[.int .i64 x.f0],[.int .i64 x.f1,v2,.int .u64 x.f3,.int .i64 x.f4],rfl,rfl,⟨[.int .i64 x.f1],[v2,.int .u64 x.f3,.int .i64 x.f4],rfl,rfl,⟨[v2],[.int .u64 x.f3,.int .i64 x.f4],rfl,⟨v2,rfl,g2⟩,⟨[.int .u64 x.f3],[.int .i64 x.f4],rfl,rfl,rfl⟩⟩⟩⟩
structure S111 where
 f0:Int
 f1:(List Int)
def k111:Kd S111:=Kd.iso (Kd.pair (Kd.int .i64) (Kd.slice 3 (Kd.int .i64))) (fun x:S111=>(x.f0,x.f1))
theorem k111_mkM (w:World) (base:Nat) (ok:Nat→Prop) (x:S111) {v1:Value} (g1:(Kd.int .i64).R 3 w base ok v1 x.f1):k111.M w base ok x [.int .i64 x.f0,v1]:=⟨[.int .i64 x.f0],[v1],rfl,rfl,⟨v1,rfl,g1⟩⟩
structure S51 where
 f0:Int
 f1:Int
 f2:(List S111)
 f3:(List Int)
def z51:S51:=⟨(0:Int),(0:Int),([]:List S111),([]:List Int)⟩
def k51:Kd S51:=Kd.iso (Kd.pair (Kd.int .i64) (Kd.pair (Kd.int .i64) (Kd.pair (Kd.slice 111 k111) (Kd.slice 3 (Kd.int .i64))))) (fun x:S51=>(x.f0,x.f1,x.f2,x.f3))
theorem k51_openM {w:World} {base:Nat} {ok:Nat→Prop} {x:S51} {cs:List Value} (h:k51.M w base ok x cs):∃ v2 v3,cs = [.int .i64 x.f0,.int .i64 x.f1,v2,v3]∧k111.R 111 w base ok v2 x.f2∧(Kd.int .i64).R 3 w base ok v3 x.f3:=by
 obtain ⟨_,_,rfl,rfl,⟨_,_,rfl,rfl,⟨_,_,rfl,⟨v2,rfl,g2⟩,⟨v3,rfl,g3⟩⟩⟩⟩:=h
 exact ⟨v2,v3,rfl,g2,g3⟩
theorem k51_mkM (w:World) (base:Nat) (ok:Nat→Prop) (x:S51) {v2:Value} (g2:k111.R 111 w base ok v2 x.f2) {v3:Value} (g3:(Kd.int .i64).R 3 w base ok v3 x.f3):k51.M w base ok x [.int .i64 x.f0,.int .i64 x.f1,v2,v3]:=⟨[.int .i64 x.f0],[.int .i64 x.f1,v2,v3],rfl,rfl,⟨[.int .i64 x.f1],[v2,v3],rfl,rfl,⟨[v2],[v3],rfl,⟨v2,rfl,g2⟩,⟨v3,rfl,g3⟩⟩⟩⟩
structure S53 where
 f0:(List Int)
 f1:(List S72)
 f2:S51
 f3:Int
 f4:Int
 f5:Int
def z53:S53:=⟨([]:List Int),([]:List S72),z51,(0:Int),(0:Int),(0:Int)⟩
def k53:Kd S53:=Kd.iso (Kd.pair (Kd.slice 3 (Kd.int .i64)) (Kd.pair (Kd.slice 72 k72) (Kd.pair k51 (Kd.pair (Kd.int .i64) (Kd.pair (Kd.int .i64) (Kd.int .i64)))))) (fun x:S53=>(x.f0,x.f1,x.f2,x.f3,x.f4,x.f5))
theorem k53_openM {w:World} {base:Nat} {ok:Nat→Prop} {x:S53} {cs:List Value} (h:k53.M w base ok x cs):∃ v0 v1 v4 v5,cs = [v0,v1,.int .i64 x.f2.f0,.int .i64 x.f2.f1,v4,v5,.int .i64 x.f3,.int .i64 x.f4,.int .i64 x.f5]∧(Kd.int .i64).R 3 w base ok v0 x.f0∧k72.R 72 w base ok v1 x.f1∧k111.R 111 w base ok v4 x.f2.f2∧(Kd.int .i64).R 3 w base ok v5 x.f2.f3:=by
 obtain ⟨_,_,rfl,⟨v0,rfl,g0⟩,⟨_,_,rfl,⟨v1,rfl,g1⟩,⟨_,_,rfl,s2,⟨_,_,rfl,rfl,⟨_,_,rfl,rfl,rfl⟩⟩⟩⟩⟩:=h
 obtain ⟨v4,v5,rfl,g4,g5⟩:=k51_openM s2
 exact ⟨v0,v1,v4,v5,rfl,g0,g1,g4,g5⟩
theorem k53_mkM (w:World) (base:Nat) (ok:Nat→Prop) (x:S53) {v0:Value} (g0:(Kd.int .i64).R 3 w base ok v0 x.f0) {v1:Value} (g1:k72.R 72 w base ok v1 x.f1) {v4:Value} (g4:k111.R 111 w base ok v4 x.f2.f2) {v5:Value} (g5:(Kd.int .i64).R 3 w base ok v5 x.f2.f3):k53.M w base ok x [v0,v1,.int .i64 x.f2.f0,.int .i64 x.f2.f1,v4,v5,.int .i64 x.f3,.int .i64 x.f4,.int .i64 x.f5]:=⟨[v0],[v1,.int .i64 x.f2.f0,.int .i64 x.f2.f1,v4,v5,.int .i64 x.f3,.int .i64 x.f4,.int .i64 x.f5],rfl,⟨v0,rfl,g0⟩,⟨[v1],[.int .i64 x.f2.f0,.int .i64 x.f2.f1,v4,v5,.int .i64 x.f3,.int .i64 x.f4,.int .i64 x.f5],rfl,⟨v1,rfl,g1⟩,⟨[.int .i64 x.f2.f0,.int .i64 x.f2.f1,v4,v5],[.int .i64 x.f3,.int .i64 x.f4,.int .i64 x.f5],rfl,(k51_mkM w base ok x.f2 g4 g5),⟨[.int .i64 x.f3],[.int .i64 x.f4,.int .i64 x.f5],rfl,rfl,⟨[.int .i64 x.f4],[.int .i64 x.f5],rfl,rfl,rfl⟩⟩⟩⟩⟩
def rd_T53 (xs:List S53) (i:Int):S53:=xs.getD i.toNat z53
end Go.Proofs.Ytabcdpddhmekkaa.PAll
