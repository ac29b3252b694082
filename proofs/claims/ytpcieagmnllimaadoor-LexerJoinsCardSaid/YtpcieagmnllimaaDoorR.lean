import Derived.Test.YtpcieagmnllimaaDoorRows
import Derived.Test.YtpcieagmnllimaaDoorX
import Derived.Test.YtpcieagmnllimaaDoorBr
import Derived.ProofKit
import Derived.OpenShut
import Derived.ShutString
import Derived.ChangeOld
import Derived.Below
import Derived.SizedLaws
import Derived.LaidMore
import Derived.MakeChecks
import Derived.Stop.LaidErr
set_option linter.all false
namespace Go.Proofs.YtpcieagmnllimaaDoor
open Go Go.RowKit Go.Vm
theorem own : ownKnob Tryd.prog.godebug = none := by kernel_rfl
theorem laidOut : laidOutB Tryd.prog = true := by kernel_rfl
theorem mixed : Tryd.prog.follows .mixedOrders = true := by kernel_rfl
theorem gES : Tryd.prog.globalNamed "strconv.ErrSyntax" = some 1 := by kernel_rfl
theorem gER : Tryd.prog.globalNamed "strconv.ErrRange" = some 2 := by kernel_rfl
theorem gEST : (Tryd.prog.globals[1]?).map (·.type) = some 57 := by kernel_rfl
theorem gERT : (Tryd.prog.globals[2]?).map (·.type) = some 57 := by kernel_rfl
theorem cells108 : Tryd.prog.cellsOf 108 = 1 := by kernel_rfl
theorem cells9 : Tryd.prog.cellsOf 9 = 1 := by kernel_rfl
theorem star : "*" ++ "errors.errorString" = "*errors.errorString" := by decide
theorem row106 (u : TypeId) (h : Tryd.prog.typeName? 3 u = some "*errors.errorString") : u = 106 :=
  typeName_ptr_named (nm := "errors.errorString") (by rw [star]; kernel_rfl) (by kernel_rfl) (by decide) u (by rw [star]; exact h)
abbrev laidL : List (String × DataW Unit) := [("math/bits.deBruijn32tab", Rows.laid_math_bits_deBruijn32tab), ("math/bits.deBruijn64tab", Rows.laid_math_bits_deBruijn64tab), ("internal/strconv.uint64pow10", Rows.laid_internal_strconv_uint64pow10), ("strconv.ErrRange", Rows.laid_strconv_ErrRange), ("strconv.ErrSyntax", Rows.laid_strconv_ErrSyntax)]
/-- What the rows list gives the machine. -/
theorem glob_of_laid {W : World} (h : laidMetH Tryd.prog laidL W) : Glob glT W (fun _ => False) := by
  rw [MakeChecks.laidMetH_plain _ _ _ (by kernel_rfl)] at h
  obtain ⟨a1, s1, h1, -, -, -⟩ := laid_sentinel h.tail.tail.tail gER gERT Tryd.underlying57 row106 Tryd.underlying106 Tryd.underlying108 rfl rfl Tryd.underlying9 cells108 cells9
  obtain ⟨a2, s2, h2, -, -, -⟩ := laid_sentinel h.tail.tail.tail.tail gES gEST Tryd.underlying57 row106 Tryd.underlying106 Tryd.underlying108 rfl rfl Tryd.underlying9 cells108 cells9
  intro q hq
  rcases List.mem_cons.mp hq with rfl | hq
  · exact ⟨_, by have := World.var?_cell gES h2 0; simpa using this, .inr ⟨_, _, rfl⟩, fun h => h⟩
  · rcases List.mem_cons.mp hq with rfl | hq
    · exact ⟨_, by have := World.var?_cell gER h1 0; simpa using this, .inr ⟨_, _, rfl⟩, fun h => h⟩
    · exact absurd hq (by simp)
theorem wf_bounds {k : IntKind} {n : Int} (h : (Lit.int k n).wf = true) : k.min ≤ n ∧ n ≤ k.max := by
  unfold Lit.wf at h
  rw [Bool.and_eq_true] at h
  exact ⟨of_decide_eq_true h.1, of_decide_eq_true h.2⟩
theorem wf_u8 {n : Int} (h : (Lit.int .u8 n).wf = true) : 0 ≤ n ∧ n < 256 := by
  obtain ⟨h1, h2⟩ := wf_bounds h
  have e1 : IntKind.u8.min = 0 := rfl
  have e2 : IntKind.u8.max = 255 := rfl
  omega
theorem wf_u64 {n : Int} (h : (Lit.int .u64 n).wf = true) : 0 ≤ n ∧ n < 18446744073709551616 := by
  obtain ⟨h1, h2⟩ := wf_bounds h
  have e1 : IntKind.u64.min = 0 := rfl
  have e2 : IntKind.u64.max = 18446744073709551615 := rfl
  omega
/-- The door's own run meets what the rows list. -/
theorem door_met (os : Os) (args : Array Value) : laidMetH Tryd.prog laidL ((World.doorLaid Tryd.prog 400 os).forCall (fun _ _ => 0) ⟨#[], args, []⟩).memory :=
  laidMetH_of_parts3 (fuel := 8) (laidMet_of_run' 8 (by kernel_rfl) (by kernel_rfl)) (by kernel_rfl) (by kernel_rfl)
end Go.Proofs.YtpcieagmnllimaaDoor
