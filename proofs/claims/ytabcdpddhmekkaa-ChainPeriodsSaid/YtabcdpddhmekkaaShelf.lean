-- Contracts of Go's library at this program, laid by the kit's lay-shelf.mjs and lay-plain.mjs. Lean checks it.
import Derived.Shelf.Small.Bits
import Derived.Shelf.Slices.Reverse
import Derived.Test.YtabcdpddhmekkaaProg
set_option linter.all false
namespace Go.Proofs
open Go.Shelf
def Try.lays125_ren:Go.Shelf.Ren:=⟨fun | 125=>58 | 128=>61 | 129=>62 | n=>n,fun | 46=>123 | 3=>3 | 51=>126 | 53=>70 | 4=>4 | 5=>5 | 9=>9 | n=>n,fun | n=>n⟩
theorem Try.lays125:Go.Proofs.Lays.n125 Try.prog Try.lays125_ren:={
 mixed:=by kernel_rfl
 f125:=Try.func58.trans (congrArg some (by kernel_rfl))
 f128:=Try.func61.trans (congrArg some (by kernel_rfl))
 f129:=Try.func62.trans (congrArg some (by kernel_rfl))
 t3:=Try.underlying3
 a3:=Try.isAgg3
 z3:=Try.sizeOf3
 v3:=Try.zeroValue3
 t4:=Try.underlying4
 a4:=Try.isAgg4
 z4:=Try.sizeOf4
 v4:=Try.zeroValue4
 t5:=Try.underlying5
 a5:=Try.isAgg5
 z5:=Try.sizeOf5
 v5:=Try.zeroValue5
 t9:=Try.underlying9
 a9:=Try.isAgg9
 z9:=Try.sizeOf9
 v9:=Try.zeroValue9
 t46:=Try.underlying123
 a46:=Try.isAgg123
 z46:=Try.sizeOf123
 v46:=Try.zeroValue123
 t51:=Try.underlying126
 a51:=Try.isAgg126
 z51:=Try.sizeOf126
 v51:=Try.zeroValue126
 t53:=Try.underlying70
 a53:=Try.isAgg70
 z53:=Try.sizeOf70
 v53:=Try.zeroValue70 }
theorem Try.bits_Len (x:Int) (w:World) (h0:0≤x) (h1:x≤18446744073709551615) :
  Calls Try.prog 58 #[.int .u64 x] w fun e w'=>e = .returned (.int .i64 (Lib.bitLen x.toNat))∧w'=w:=Any.bits_Len Try.lays125 x w h0 h1
def Try.lays112_ren:Go.Shelf.Ren:=⟨fun | 112=>34 | n=>n,fun | 28=>29 | 3=>3 | 4=>4 | 0=>0 | n=>n,fun | n=>n⟩
theorem Try.lays112:Go.Proofs.Lays.n112 Try.prog Try.lays112_ren:={
 mixed:=by kernel_rfl
 f112:=Try.func34.trans (congrArg some (by kernel_rfl))
 t0:=Try.underlying0
 a0:=Try.isAgg0
 z0:=Try.sizeOf0
 v0:=Try.zeroValue0
 t3:=Try.underlying3
 a3:=Try.isAgg3
 z3:=Try.sizeOf3
 v3:=Try.zeroValue3
 t4:=Try.underlying4
 a4:=Try.isAgg4
 z4:=Try.sizeOf4
 v4:=Try.zeroValue4
 t28:=Try.underlying29
 a28:=Try.isAgg29
 z28:=Try.sizeOf29
 v28:=Try.zeroValue29 }
open Go.RowKit Go.Lib Go.Sort in
theorem Try.slices_Reverse_int (blk off cap:Nat) (zs:List Int) (w:World) (hH:Holds (Value.int .i64) w blk off zs.toArray) (hsz:zs.length≤9223372036854775807) :
  Calls Try.prog 34 #[.slice (some ⟨blk,off,none⟩) zs.length cap] w fun e w'=>e = .returned (.tuple #[])∧∃ n,w'=putRow (Value.int .i64) (Sort.ahead w n) blk off zs.reverse.toArray:=Any.slices_Reverse_int Try.lays112 blk off cap zs w hH hsz
open Go.RowKit Go.Lib Go.Sort in
theorem Try.slices_Reverse_int_empty (a:Option Addr) (cap:Nat) (w:World) :
  Calls Try.prog 34 #[.slice a 0 cap] w fun e w'=>e = .returned (.tuple #[])∧w'=w:=Any.slices_Reverse_int_empty Try.lays112 a cap w
end Go.Proofs
