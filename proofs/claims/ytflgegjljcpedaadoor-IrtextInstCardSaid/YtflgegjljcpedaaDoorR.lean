import Derived.Test.YtflgegjljcpedaaDoorRows
import Derived.Test.YtflgegjljcpedaaDoorX
import Derived.Test.YtflgegjljcpedaaDoorBr
import Derived.ProofKit
import Derived.OpenShut
import Derived.ShutString
import Derived.ChangeOld
import Derived.Below
import Derived.SizedLaws
import Derived.LaidMore
import Derived.MakeChecks
import Derived.Stop.LaidErr
import Derived.Lay
set_option linter.all false
namespace Go.Proofs.YtflgegjljcpedaaDoor
open Go Go.RowKit Go.Vm
theorem own : ownKnob Tryd.prog.godebug = none := by kernel_rfl
theorem laidOut : laidOutB Tryd.prog = true := by kernel_rfl
theorem mixed : Tryd.prog.follows .mixedOrders = true := by kernel_rfl
theorem g0T : (Tryd.prog.globals[0]?).map (·.type) = some 75 := by kernel_rfl
abbrev laidL : List (String × DataW Unit) := [("math/bits.deBruijn32tab", Rows.laid_math_bits_deBruijn32tab), ("math/bits.deBruijn64tab", Rows.laid_math_bits_deBruijn64tab), ("internal/strconv.uint64pow10", Rows.laid_internal_strconv_uint64pow10)]
theorem pow_is : (Rows.laid_internal_strconv_uint64pow10 : DataW Unit) = Lib.tabData .u64 Lib.pow10Tab := by kernel_rfl
theorem var_obj {W : World} {n : String} {g : Nat} {cs : Array Value} (hg : Tryd.prog.globalNamed n = some g) (h : W.var? Tryd.prog n = some cs) : ∃ t z, W.heap[g]? = some (.cells cs t z) := by
  unfold World.var? at h
  rw [hg, Option.bind_some] at h
  split at h
  · rename_i c t z hc
    injection h with h; subst h
    exact ⟨t, z, hc⟩
  · exact absurd h (by simp)
/-- What the rows list gives the machine. -/
theorem glob_of_laid {W : World} (h : laidMetH Tryd.prog laidL W) : Glob glT W (fun _ => False) := by
  rw [MakeChecks.laidMetH_plain _ _ _ (by kernel_rfl)] at h
  have ht := h.tail.tail
  rw [pow_is] at ht
  have h0 : Lib.TabIs Tryd.prog W "internal/strconv.uint64pow10" .u64 Lib.pow10Tab := Lib.tabIs_of_head g0 g0T Tryd.underlying75 (by kernel_rfl) (by kernel_rfl) (by kernel_rfl) ht
  intro q hq
  rcases List.mem_cons.mp hq with rfl | hq
  · obtain ⟨t, z, ho⟩ := var_obj g0 h0
    exact ⟨_, ho, ⟨t, z, rfl⟩, fun h => h⟩
  · exact absurd hq (by simp)
/-- A world that holds what the rows list. -/
theorem laid_met (os : Os) (args : Array Value) : laidMetH Tryd.prog laidL ((World.laidAll Tryd.prog os laidL).forCall (fun _ _ => 0) ⟨#[], args, []⟩).memory := by
  rw [MakeChecks.laidMetH_plain _ _ _ (by kernel_rfl)]
  exact laidMet_laidAll _ (by kernel_rfl) (by kernel_rfl)
end Go.Proofs.YtflgegjljcpedaaDoor
