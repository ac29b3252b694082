/-
  No cell of these rows narrows 'for every input' (looked for: loops, veiled, ifaces, maps, wideKeys, modest, calm, conditions, laid).
  DERIVED. THE GIVEN ROWS OF THIS SEAT. 7 by the template 'for every input the law returns true; each argument reads behind the call as it read before'; 0 by the template 'total and deterministic' (their statements: YtmacdopdogodoaaTotals.lean).
  GIVEN WITH THE SEED: the statements are not yours to turn. If you find one false, say at which input.
  Laid BY PROGRAM, IN A SANDBOX (cutbox-rows.mjs): the forced cells as the released guide's own fill.sh prints them over the translation 3155195139c3cbad… (all of the seat's roots in one cut). By AI agents, Wed Nov 11 2026. No macro, syntax, notation, axiom, sorry.
-/
import Derived.Test.YtmacdopdogodoaaChecked
import GoSem.Claim
import GoSem.ClaimJoined
import GoSem.ClaimMapViews
import Derived.JoinedTies
import Derived.KernelRfl
namespace Go.Proofs.Ytmacdopdogodoaa
/- THE CELL 'sum', in the pinned program and in every row, IS THE sha256 OF THE DUMP (.gsa) THAT YtmacdopdogodoaaProg.lean LOADS. Nothing in Lean hashes anything: it is a label: what it is worth is what the hold of that sum in a sandbox is worth. -/
noncomputable def Try.pinned : Pinned := { name := "ytmacdopdogodoaa", sum := "3155195139c3cbad8a8e605d7af6042eb7f25a746cd572f1ee8a8203287d262a", checked := Try.checked }
namespace Rows
def none {H : Type} : Left H := { results := [], args := [] }

/-- 'jacquardlaw27.LibraryTable': WHATEVER THE INPUT: true; the input reads as it did. -/
def libraryTableSpec : ChangeSpec := { name := "libraryTable", fn := fun _ => fun
  | [d1, d2] => { results := [.lit (.bool true)], args := [d1, d2] }
  | _ => none }
def libraryTableRow : OpenClaim := { program := "ytmacdopdogodoaa", sum := "3155195139c3cbad8a8e605d7af6042eb7f25a746cd572f1ee8a8203287d262a", func := "jacquard/jacquardlaw27.LibraryTable", spec := "libraryTable", apart := false }
def LibraryTableSaid : Prop := libraryTableRow.holds Try.pinned (OpenSpec.ofChange libraryTableSpec)

/-- ITS FALSE NEIGHBOUR: 'it returns false'. Refute it at one input. -/
def libraryTableWrong : ChangeSpec := { name := "libraryTable", fn := fun _ => fun
  | [d1, d2] => { results := [.lit (.bool false)], args := [d1, d2] }
  | _ => none }
def LibraryTableWrongFalsely : Prop := libraryTableRow.holds Try.pinned (OpenSpec.ofChange libraryTableWrong)

/-- 'jacquardlaw27.LibraryGrows': WHATEVER THE INPUT: true; the input reads as it did. -/
def libraryGrowsSpec : ChangeSpec := { name := "libraryGrows", fn := fun _ => fun
  | [d1, d2, d3] => { results := [.lit (.bool true)], args := [d1, d2, d3] }
  | _ => none }
def libraryGrowsRow : OpenClaim := { program := "ytmacdopdogodoaa", sum := "3155195139c3cbad8a8e605d7af6042eb7f25a746cd572f1ee8a8203287d262a", func := "jacquard/jacquardlaw27.LibraryGrows", spec := "libraryGrows", apart := false }
def LibraryGrowsSaid : Prop := libraryGrowsRow.holds Try.pinned (OpenSpec.ofChange libraryGrowsSpec)

/-- ITS FALSE NEIGHBOUR: 'it returns false'. Refute it at one input. -/
def libraryGrowsWrong : ChangeSpec := { name := "libraryGrows", fn := fun _ => fun
  | [d1, d2, d3] => { results := [.lit (.bool false)], args := [d1, d2, d3] }
  | _ => none }
def LibraryGrowsWrongFalsely : Prop := libraryGrowsRow.holds Try.pinned (OpenSpec.ofChange libraryGrowsWrong)

/-- 'jacquardlaw27.LibraryLevels': WHATEVER THE INPUT: true; the input reads as it did. -/
def libraryLevelsSpec : ChangeSpec := { name := "libraryLevels", fn := fun _ => fun
  | [d] => { results := [.lit (.bool true)], args := [d] }
  | _ => none }
def libraryLevelsRow : OpenClaim := { program := "ytmacdopdogodoaa", sum := "3155195139c3cbad8a8e605d7af6042eb7f25a746cd572f1ee8a8203287d262a", func := "jacquard/jacquardlaw27.LibraryLevels", spec := "libraryLevels", apart := false }
def LibraryLevelsSaid : Prop := libraryLevelsRow.holds Try.pinned (OpenSpec.ofChange libraryLevelsSpec)

/-- ITS FALSE NEIGHBOUR: 'it returns false'. Refute it at one input. -/
def libraryLevelsWrong : ChangeSpec := { name := "libraryLevels", fn := fun _ => fun
  | [d] => { results := [.lit (.bool false)], args := [d] }
  | _ => none }
def LibraryLevelsWrongFalsely : Prop := libraryLevelsRow.holds Try.pinned (OpenSpec.ofChange libraryLevelsWrong)

/-- 'jacquardlaw27.LibraryCounts': WHATEVER THE INPUT: true; the input reads as it did. -/
def libraryCountsSpec : ChangeSpec := { name := "libraryCounts", fn := fun _ => fun
  | [d1, d2] => { results := [.lit (.bool true)], args := [d1, d2] }
  | _ => none }
def libraryCountsRow : OpenClaim := { program := "ytmacdopdogodoaa", sum := "3155195139c3cbad8a8e605d7af6042eb7f25a746cd572f1ee8a8203287d262a", func := "jacquard/jacquardlaw27.LibraryCounts", spec := "libraryCounts", apart := false }
def LibraryCountsSaid : Prop := libraryCountsRow.holds Try.pinned (OpenSpec.ofChange libraryCountsSpec)

/-- ITS FALSE NEIGHBOUR: 'it returns false'. Refute it at one input. -/
def libraryCountsWrong : ChangeSpec := { name := "libraryCounts", fn := fun _ => fun
  | [d1, d2] => { results := [.lit (.bool false)], args := [d1, d2] }
  | _ => none }
def LibraryCountsWrongFalsely : Prop := libraryCountsRow.holds Try.pinned (OpenSpec.ofChange libraryCountsWrong)

/-- 'jacquardlaw27.LibraryReserves': WHATEVER THE INPUT: true; the input reads as it did. -/
def libraryReservesSpec : ChangeSpec := { name := "libraryReserves", fn := fun _ => fun
  | [d1, d2] => { results := [.lit (.bool true)], args := [d1, d2] }
  | _ => none }
def libraryReservesRow : OpenClaim := { program := "ytmacdopdogodoaa", sum := "3155195139c3cbad8a8e605d7af6042eb7f25a746cd572f1ee8a8203287d262a", func := "jacquard/jacquardlaw27.LibraryReserves", spec := "libraryReserves", apart := false }
def LibraryReservesSaid : Prop := libraryReservesRow.holds Try.pinned (OpenSpec.ofChange libraryReservesSpec)

/-- ITS FALSE NEIGHBOUR: 'it returns false'. Refute it at one input. -/
def libraryReservesWrong : ChangeSpec := { name := "libraryReserves", fn := fun _ => fun
  | [d1, d2] => { results := [.lit (.bool false)], args := [d1, d2] }
  | _ => none }
def LibraryReservesWrongFalsely : Prop := libraryReservesRow.holds Try.pinned (OpenSpec.ofChange libraryReservesWrong)

/-- 'jacquardlaw27.LibraryInst': WHATEVER THE INPUT: true; the input reads as it did. -/
def libraryInstSpec : ChangeSpec := { name := "libraryInst", fn := fun _ => fun
  | [d1, d2] => { results := [.lit (.bool true)], args := [d1, d2] }
  | _ => none }
def libraryInstRow : OpenClaim := { program := "ytmacdopdogodoaa", sum := "3155195139c3cbad8a8e605d7af6042eb7f25a746cd572f1ee8a8203287d262a", func := "jacquard/jacquardlaw27.LibraryInst", spec := "libraryInst", apart := false }
def LibraryInstSaid : Prop := libraryInstRow.holds Try.pinned (OpenSpec.ofChange libraryInstSpec)

/-- ITS FALSE NEIGHBOUR: 'it returns false'. Refute it at one input. -/
def libraryInstWrong : ChangeSpec := { name := "libraryInst", fn := fun _ => fun
  | [d1, d2] => { results := [.lit (.bool false)], args := [d1, d2] }
  | _ => none }
def LibraryInstWrongFalsely : Prop := libraryInstRow.holds Try.pinned (OpenSpec.ofChange libraryInstWrong)

/-- 'jacquardlaw27.LibraryLeast': WHATEVER THE INPUT: true; the input reads as it did. -/
def libraryLeastSpec : ChangeSpec := { name := "libraryLeast", fn := fun _ => fun
  | [d1, d2, d3] => { results := [.lit (.bool true)], args := [d1, d2, d3] }
  | _ => none }
def libraryLeastRow : OpenClaim := { program := "ytmacdopdogodoaa", sum := "3155195139c3cbad8a8e605d7af6042eb7f25a746cd572f1ee8a8203287d262a", func := "jacquard/jacquardlaw27.LibraryLeast", spec := "libraryLeast", apart := false }
def LibraryLeastSaid : Prop := libraryLeastRow.holds Try.pinned (OpenSpec.ofChange libraryLeastSpec)

/-- ITS FALSE NEIGHBOUR: 'it returns false'. Refute it at one input. -/
def libraryLeastWrong : ChangeSpec := { name := "libraryLeast", fn := fun _ => fun
  | [d1, d2, d3] => { results := [.lit (.bool false)], args := [d1, d2, d3] }
  | _ => none }
def LibraryLeastWrongFalsely : Prop := libraryLeastRow.holds Try.pinned (OpenSpec.ofChange libraryLeastWrong)

/- THE SECOND FORM. 'bulk': how many values and letters a reading holds, each counted each time it is reached (what is shared counts as often as it is met; a slice's spare places count too). A statement '..UptoSaid' is the law's where the arguments, and the package variables that the reading takes, are together of bulk at most 1048576: NARROWER than '..Said'. Prove '..Said' where nothing that the law and all that it calls make is longer than what came in: it says more and counts as full. Else prove '..UptoSaid'. A law counts once. -/
mutual
def uptoBulk {H : Type} : DataW H → Nat
  | .lit (.string bytes) => bytes.length + 1
  | .lit _ => 1
  | .nil => 1
  | .ptr d => uptoBulk d + 1
  | .slice elems spare => uptoBulkAll elems + uptoBulkAll spare + 1
  | .agg parts => uptoBulkAll parts + 1
  | .iface _ d => uptoBulk d + 1
  | .map entries => uptoBulkEntries entries + 1
  | .held _ => 1
def uptoBulkAll {H : Type} : List (DataW H) → Nat
  | [] => 0
  | d :: r => uptoBulk d + uptoBulkAll r
def uptoBulkEntries {H : Type} : List (Lit × DataW H) → Nat
  | [] => 0
  | x :: r => uptoBulkEntry x + uptoBulkEntries r
def uptoBulkEntry {H : Type} : Lit × DataW H → Nat
  | (.string bytes, d) => bytes.length + uptoBulk d + 1
  | (_, d) => uptoBulk d + 1
 end
def uptoSmall : (H : Type) → List (DataW H) → Bool := fun _ ds => decide (uptoBulkAll ds ≤ 1048576)
def OpenSpec.upto (s : _root_.Go.ChangeSpec) : _root_.Go.OpenSpec := { _root_.Go.OpenSpec.ofChange s with cond := some uptoSmall }

/-- 'jacquardlaw27.LibraryTable', WHERE WHAT IT READS IS OF BULK AT MOST 1048576: true; the input reads as it did. -/
def libraryTableUptoRow : OpenClaim := { program := "ytmacdopdogodoaa", sum := "3155195139c3cbad8a8e605d7af6042eb7f25a746cd572f1ee8a8203287d262a", func := "jacquard/jacquardlaw27.LibraryTable", spec := "libraryTable", apart := false, narrowed := true }
def LibraryTableUptoSaid : Prop := libraryTableUptoRow.holds Try.pinned (OpenSpec.upto libraryTableSpec)

/-- 'jacquardlaw27.LibraryGrows', WHERE WHAT IT READS IS OF BULK AT MOST 1048576: true; the input reads as it did. -/
def libraryGrowsUptoRow : OpenClaim := { program := "ytmacdopdogodoaa", sum := "3155195139c3cbad8a8e605d7af6042eb7f25a746cd572f1ee8a8203287d262a", func := "jacquard/jacquardlaw27.LibraryGrows", spec := "libraryGrows", apart := false, narrowed := true }
def LibraryGrowsUptoSaid : Prop := libraryGrowsUptoRow.holds Try.pinned (OpenSpec.upto libraryGrowsSpec)

/-- 'jacquardlaw27.LibraryLevels', WHERE WHAT IT READS IS OF BULK AT MOST 1048576: true; the input reads as it did. -/
def libraryLevelsUptoRow : OpenClaim := { program := "ytmacdopdogodoaa", sum := "3155195139c3cbad8a8e605d7af6042eb7f25a746cd572f1ee8a8203287d262a", func := "jacquard/jacquardlaw27.LibraryLevels", spec := "libraryLevels", apart := false, narrowed := true }
def LibraryLevelsUptoSaid : Prop := libraryLevelsUptoRow.holds Try.pinned (OpenSpec.upto libraryLevelsSpec)

/-- 'jacquardlaw27.LibraryCounts', WHERE WHAT IT READS IS OF BULK AT MOST 1048576: true; the input reads as it did. -/
def libraryCountsUptoRow : OpenClaim := { program := "ytmacdopdogodoaa", sum := "3155195139c3cbad8a8e605d7af6042eb7f25a746cd572f1ee8a8203287d262a", func := "jacquard/jacquardlaw27.LibraryCounts", spec := "libraryCounts", apart := false, narrowed := true }
def LibraryCountsUptoSaid : Prop := libraryCountsUptoRow.holds Try.pinned (OpenSpec.upto libraryCountsSpec)

/-- 'jacquardlaw27.LibraryReserves', WHERE WHAT IT READS IS OF BULK AT MOST 1048576: true; the input reads as it did. -/
def libraryReservesUptoRow : OpenClaim := { program := "ytmacdopdogodoaa", sum := "3155195139c3cbad8a8e605d7af6042eb7f25a746cd572f1ee8a8203287d262a", func := "jacquard/jacquardlaw27.LibraryReserves", spec := "libraryReserves", apart := false, narrowed := true }
def LibraryReservesUptoSaid : Prop := libraryReservesUptoRow.holds Try.pinned (OpenSpec.upto libraryReservesSpec)

/-- 'jacquardlaw27.LibraryInst', WHERE WHAT IT READS IS OF BULK AT MOST 1048576: true; the input reads as it did. -/
def libraryInstUptoRow : OpenClaim := { program := "ytmacdopdogodoaa", sum := "3155195139c3cbad8a8e605d7af6042eb7f25a746cd572f1ee8a8203287d262a", func := "jacquard/jacquardlaw27.LibraryInst", spec := "libraryInst", apart := false, narrowed := true }
def LibraryInstUptoSaid : Prop := libraryInstUptoRow.holds Try.pinned (OpenSpec.upto libraryInstSpec)

/-- 'jacquardlaw27.LibraryLeast', WHERE WHAT IT READS IS OF BULK AT MOST 1048576: true; the input reads as it did. -/
def libraryLeastUptoRow : OpenClaim := { program := "ytmacdopdogodoaa", sum := "3155195139c3cbad8a8e605d7af6042eb7f25a746cd572f1ee8a8203287d262a", func := "jacquard/jacquardlaw27.LibraryLeast", spec := "libraryLeast", apart := false, narrowed := true }
def LibraryLeastUptoSaid : Prop := libraryLeastUptoRow.holds Try.pinned (OpenSpec.upto libraryLeastSpec)

end Rows
end Go.Proofs.Ytmacdopdogodoaa
