/-
  No cell of these rows narrows 'for every input' (looked for: loops, veiled, ifaces, maps, wideKeys, modest, calm, conditions, laid).
  DERIVED. THE GIVEN ROWS OF THIS SEAT. 6 by the template 'for every input the law returns true; each argument reads behind the call as it read before'; 0 by the template 'total and deterministic' (their statements: YtmefaegcoogmiaaTotals.lean).
  GIVEN WITH THE SEED: the statements are not yours to turn. If you find one false, say at which input.
  Laid BY PROGRAM, IN A SANDBOX (cutbox-rows.mjs): the forced cells as the released guide's own fill.sh prints them over the translation 87943136b63927cf… (all of the seat's roots in one cut). By AI agents, Wed Nov 11 2026. No macro, syntax, notation, axiom, sorry.
-/
import Derived.Test.YtmefaegcoogmiaaChecked
import GoSem.Claim
import GoSem.ClaimJoined
import GoSem.ClaimMapViews
import Derived.JoinedTies
import Derived.KernelRfl
namespace Go.Proofs.Ytmefaegcoogmiaa
/- THE CELL 'sum', in the pinned program and in every row, IS THE sha256 OF THE DUMP (.gsa) THAT YtmefaegcoogmiaaProg.lean LOADS. Nothing in Lean hashes anything: it is a label: what it is worth is what the hold of that sum in a sandbox is worth. -/
noncomputable def Try.pinned : Pinned := { name := "ytmefaegcoogmiaa", sum := "87943136b63927cfcdf6176e808d20eb8dd186245469091f7693cf712e8c626c", checked := Try.checked }
namespace Rows
def none {H : Type} : Left H := { results := [], args := [] }

/-- 'jacquardlaw36.CyclesSelf': WHATEVER THE INPUT: true; the input reads as it did. -/
def cyclesSelfSpec : ChangeSpec := { name := "cyclesSelf", fn := fun _ => fun
  | [d1, d2, d3] => { results := [.lit (.bool true)], args := [d1, d2, d3] }
  | _ => none }
def cyclesSelfRow : OpenClaim := { program := "ytmefaegcoogmiaa", sum := "87943136b63927cfcdf6176e808d20eb8dd186245469091f7693cf712e8c626c", func := "jacquard/jacquardlaw36.CyclesSelf", spec := "cyclesSelf", apart := false }
def CyclesSelfSaid : Prop := cyclesSelfRow.holds Try.pinned (OpenSpec.ofChange cyclesSelfSpec)

/-- ITS FALSE NEIGHBOUR: 'it returns false'. Refute it at one input. -/
def cyclesSelfWrong : ChangeSpec := { name := "cyclesSelf", fn := fun _ => fun
  | [d1, d2, d3] => { results := [.lit (.bool false)], args := [d1, d2, d3] }
  | _ => none }
def CyclesSelfWrongFalsely : Prop := cyclesSelfRow.holds Try.pinned (OpenSpec.ofChange cyclesSelfWrong)

/-- 'jacquardlaw36.CyclesSplits': WHATEVER THE INPUT: true; the input reads as it did. -/
def cyclesSplitsSpec : ChangeSpec := { name := "cyclesSplits", fn := fun _ => fun
  | [d1, d2, d3] => { results := [.lit (.bool true)], args := [d1, d2, d3] }
  | _ => none }
def cyclesSplitsRow : OpenClaim := { program := "ytmefaegcoogmiaa", sum := "87943136b63927cfcdf6176e808d20eb8dd186245469091f7693cf712e8c626c", func := "jacquard/jacquardlaw36.CyclesSplits", spec := "cyclesSplits", apart := false }
def CyclesSplitsSaid : Prop := cyclesSplitsRow.holds Try.pinned (OpenSpec.ofChange cyclesSplitsSpec)

/-- ITS FALSE NEIGHBOUR: 'it returns false'. Refute it at one input. -/
def cyclesSplitsWrong : ChangeSpec := { name := "cyclesSplits", fn := fun _ => fun
  | [d1, d2, d3] => { results := [.lit (.bool false)], args := [d1, d2, d3] }
  | _ => none }
def CyclesSplitsWrongFalsely : Prop := cyclesSplitsRow.holds Try.pinned (OpenSpec.ofChange cyclesSplitsWrong)

/-- 'jacquardlaw36.CyclesVisits': WHATEVER THE INPUT: true; the input reads as it did. -/
def cyclesVisitsSpec : ChangeSpec := { name := "cyclesVisits", fn := fun _ => fun
  | [d1, d2] => { results := [.lit (.bool true)], args := [d1, d2] }
  | _ => none }
def cyclesVisitsRow : OpenClaim := { program := "ytmefaegcoogmiaa", sum := "87943136b63927cfcdf6176e808d20eb8dd186245469091f7693cf712e8c626c", func := "jacquard/jacquardlaw36.CyclesVisits", spec := "cyclesVisits", apart := false }
def CyclesVisitsSaid : Prop := cyclesVisitsRow.holds Try.pinned (OpenSpec.ofChange cyclesVisitsSpec)

/-- ITS FALSE NEIGHBOUR: 'it returns false'. Refute it at one input. -/
def cyclesVisitsWrong : ChangeSpec := { name := "cyclesVisits", fn := fun _ => fun
  | [d1, d2] => { results := [.lit (.bool false)], args := [d1, d2] }
  | _ => none }
def CyclesVisitsWrongFalsely : Prop := cyclesVisitsRow.holds Try.pinned (OpenSpec.ofChange cyclesVisitsWrong)

/-- 'jacquardlaw36.CyclesCounts': WHATEVER THE INPUT: true; the input reads as it did. -/
def cyclesCountsSpec : ChangeSpec := { name := "cyclesCounts", fn := fun _ => fun
  | [d1, d2, d3] => { results := [.lit (.bool true)], args := [d1, d2, d3] }
  | _ => none }
def cyclesCountsRow : OpenClaim := { program := "ytmefaegcoogmiaa", sum := "87943136b63927cfcdf6176e808d20eb8dd186245469091f7693cf712e8c626c", func := "jacquard/jacquardlaw36.CyclesCounts", spec := "cyclesCounts", apart := false }
def CyclesCountsSaid : Prop := cyclesCountsRow.holds Try.pinned (OpenSpec.ofChange cyclesCountsSpec)

/-- ITS FALSE NEIGHBOUR: 'it returns false'. Refute it at one input. -/
def cyclesCountsWrong : ChangeSpec := { name := "cyclesCounts", fn := fun _ => fun
  | [d1, d2, d3] => { results := [.lit (.bool false)], args := [d1, d2, d3] }
  | _ => none }
def CyclesCountsWrongFalsely : Prop := cyclesCountsRow.holds Try.pinned (OpenSpec.ofChange cyclesCountsWrong)

/-- 'jacquardlaw36.CyclesRefuses': WHATEVER THE INPUT: true; the input reads as it did. -/
def cyclesRefusesSpec : ChangeSpec := { name := "cyclesRefuses", fn := fun _ => fun
  | [d1, d2, d3] => { results := [.lit (.bool true)], args := [d1, d2, d3] }
  | _ => none }
def cyclesRefusesRow : OpenClaim := { program := "ytmefaegcoogmiaa", sum := "87943136b63927cfcdf6176e808d20eb8dd186245469091f7693cf712e8c626c", func := "jacquard/jacquardlaw36.CyclesRefuses", spec := "cyclesRefuses", apart := false }
def CyclesRefusesSaid : Prop := cyclesRefusesRow.holds Try.pinned (OpenSpec.ofChange cyclesRefusesSpec)

/-- ITS FALSE NEIGHBOUR: 'it returns false'. Refute it at one input. -/
def cyclesRefusesWrong : ChangeSpec := { name := "cyclesRefuses", fn := fun _ => fun
  | [d1, d2, d3] => { results := [.lit (.bool false)], args := [d1, d2, d3] }
  | _ => none }
def CyclesRefusesWrongFalsely : Prop := cyclesRefusesRow.holds Try.pinned (OpenSpec.ofChange cyclesRefusesWrong)

/-- 'jacquardlaw36.CyclesIssues': WHATEVER THE INPUT: true; the input reads as it did. -/
def cyclesIssuesSpec : ChangeSpec := { name := "cyclesIssues", fn := fun _ => fun
  | [d1, d2, d3] => { results := [.lit (.bool true)], args := [d1, d2, d3] }
  | _ => none }
def cyclesIssuesRow : OpenClaim := { program := "ytmefaegcoogmiaa", sum := "87943136b63927cfcdf6176e808d20eb8dd186245469091f7693cf712e8c626c", func := "jacquard/jacquardlaw36.CyclesIssues", spec := "cyclesIssues", apart := false }
def CyclesIssuesSaid : Prop := cyclesIssuesRow.holds Try.pinned (OpenSpec.ofChange cyclesIssuesSpec)

/-- ITS FALSE NEIGHBOUR: 'it returns false'. Refute it at one input. -/
def cyclesIssuesWrong : ChangeSpec := { name := "cyclesIssues", fn := fun _ => fun
  | [d1, d2, d3] => { results := [.lit (.bool false)], args := [d1, d2, d3] }
  | _ => none }
def CyclesIssuesWrongFalsely : Prop := cyclesIssuesRow.holds Try.pinned (OpenSpec.ofChange cyclesIssuesWrong)

/- THE SECOND FORM. 'bulk': how many values and letters a reading holds, each counted each time it is reached (what is shared counts as often as it is met; a slice's spare places count too). A statement '..UptoSaid' is the law's where the arguments, and the package variables that the reading takes, are together of bulk at most 1048576: NARROWER than '..Said'. Prove '..Said' where nothing that the law and all that it calls make is longer than what came in: it says more and counts as full. Else prove '..UptoSaid'. A law counts once. -/
mutual
def uptoBulk {H : Type} : DataW H → Nat
  | .lit (.string bytes) => bytes.length + 1
  | .lit _ => 1
  | .nil => 1
  | .ptr d => uptoBulk d + 1
  | .slice elems spare => uptoBulkAll elems + uptoBulkAll spare + 1
  | .agg parts => uptoBulkAll parts + 1
  | .iface _ d => uptoBulk d + 1
  | .map entries => uptoBulkEntries entries + 1
  | .held _ => 1
def uptoBulkAll {H : Type} : List (DataW H) → Nat
  | [] => 0
  | d :: r => uptoBulk d + uptoBulkAll r
def uptoBulkEntries {H : Type} : List (Lit × DataW H) → Nat
  | [] => 0
  | x :: r => uptoBulkEntry x + uptoBulkEntries r
def uptoBulkEntry {H : Type} : Lit × DataW H → Nat
  | (.string bytes, d) => bytes.length + uptoBulk d + 1
  | (_, d) => uptoBulk d + 1
 end
def uptoSmall : (H : Type) → List (DataW H) → Bool := fun _ ds => decide (uptoBulkAll ds ≤ 1048576)
def OpenSpec.upto (s : _root_.Go.ChangeSpec) : _root_.Go.OpenSpec := { _root_.Go.OpenSpec.ofChange s with cond := some uptoSmall }

/-- 'jacquardlaw36.CyclesSelf', WHERE WHAT IT READS IS OF BULK AT MOST 1048576: true; the input reads as it did. -/
def cyclesSelfUptoRow : OpenClaim := { program := "ytmefaegcoogmiaa", sum := "87943136b63927cfcdf6176e808d20eb8dd186245469091f7693cf712e8c626c", func := "jacquard/jacquardlaw36.CyclesSelf", spec := "cyclesSelf", apart := false, narrowed := true }
def CyclesSelfUptoSaid : Prop := cyclesSelfUptoRow.holds Try.pinned (OpenSpec.upto cyclesSelfSpec)

/-- 'jacquardlaw36.CyclesSplits', WHERE WHAT IT READS IS OF BULK AT MOST 1048576: true; the input reads as it did. -/
def cyclesSplitsUptoRow : OpenClaim := { program := "ytmefaegcoogmiaa", sum := "87943136b63927cfcdf6176e808d20eb8dd186245469091f7693cf712e8c626c", func := "jacquard/jacquardlaw36.CyclesSplits", spec := "cyclesSplits", apart := false, narrowed := true }
def CyclesSplitsUptoSaid : Prop := cyclesSplitsUptoRow.holds Try.pinned (OpenSpec.upto cyclesSplitsSpec)

/-- 'jacquardlaw36.CyclesVisits', WHERE WHAT IT READS IS OF BULK AT MOST 1048576: true; the input reads as it did. -/
def cyclesVisitsUptoRow : OpenClaim := { program := "ytmefaegcoogmiaa", sum := "87943136b63927cfcdf6176e808d20eb8dd186245469091f7693cf712e8c626c", func := "jacquard/jacquardlaw36.CyclesVisits", spec := "cyclesVisits", apart := false, narrowed := true }
def CyclesVisitsUptoSaid : Prop := cyclesVisitsUptoRow.holds Try.pinned (OpenSpec.upto cyclesVisitsSpec)

/-- 'jacquardlaw36.CyclesCounts', WHERE WHAT IT READS IS OF BULK AT MOST 1048576: true; the input reads as it did. -/
def cyclesCountsUptoRow : OpenClaim := { program := "ytmefaegcoogmiaa", sum := "87943136b63927cfcdf6176e808d20eb8dd186245469091f7693cf712e8c626c", func := "jacquard/jacquardlaw36.CyclesCounts", spec := "cyclesCounts", apart := false, narrowed := true }
def CyclesCountsUptoSaid : Prop := cyclesCountsUptoRow.holds Try.pinned (OpenSpec.upto cyclesCountsSpec)

/-- 'jacquardlaw36.CyclesRefuses', WHERE WHAT IT READS IS OF BULK AT MOST 1048576: true; the input reads as it did. -/
def cyclesRefusesUptoRow : OpenClaim := { program := "ytmefaegcoogmiaa", sum := "87943136b63927cfcdf6176e808d20eb8dd186245469091f7693cf712e8c626c", func := "jacquard/jacquardlaw36.CyclesRefuses", spec := "cyclesRefuses", apart := false, narrowed := true }
def CyclesRefusesUptoSaid : Prop := cyclesRefusesUptoRow.holds Try.pinned (OpenSpec.upto cyclesRefusesSpec)

/-- 'jacquardlaw36.CyclesIssues', WHERE WHAT IT READS IS OF BULK AT MOST 1048576: true; the input reads as it did. -/
def cyclesIssuesUptoRow : OpenClaim := { program := "ytmefaegcoogmiaa", sum := "87943136b63927cfcdf6176e808d20eb8dd186245469091f7693cf712e8c626c", func := "jacquard/jacquardlaw36.CyclesIssues", spec := "cyclesIssues", apart := false, narrowed := true }
def CyclesIssuesUptoSaid : Prop := cyclesIssuesUptoRow.holds Try.pinned (OpenSpec.upto cyclesIssuesSpec)

end Rows
end Go.Proofs.Ytmefaegcoogmiaa
