/-
  No cell of these rows narrows 'for every input' (looked for: loops, veiled, ifaces, maps, wideKeys, modest, calm, conditions, laid).
  DERIVED. THE GIVEN ROWS OF THIS SEAT. 6 by the template 'for every input the law returns true; each argument reads behind the call as it read before'; 0 by the template 'total and deterministic' (their statements: YtabcdpddhmekkaaTotals.lean).
  GIVEN WITH THE SEED: the statements are not yours to turn. If you find one false, say at which input.
  Laid BY PROGRAM, IN A SANDBOX (cutbox-rows.mjs): the forced cells as the released guide's own fill.sh prints them over the translation 20b9d19be91bd926… (all of the seat's roots in one cut). By AI agents, Wed Nov 11 2026. No macro, syntax, notation, axiom, sorry.
-/
import Derived.Test.YtabcdpddhmekkaaChecked
import GoSem.Claim
import GoSem.ClaimJoined
import GoSem.ClaimMapViews
import Derived.JoinedTies
import Derived.KernelRfl
namespace Go.Proofs.Ytabcdpddhmekkaa
/- THE CELL 'sum', in the pinned program and in every row, IS THE sha256 OF THE DUMP (.gsa) THAT YtabcdpddhmekkaaProg.lean LOADS. Nothing in Lean hashes anything: it is a label: what it is worth is what the hold of that sum in a sandbox is worth. -/
noncomputable def Try.pinned : Pinned := { name := "ytabcdpddhmekkaa", sum := "20b9d19be91bd926760b0b0045433a8bc3c69414f5b8a5acdb385c05f9c0f714", checked := Try.checked }
namespace Rows
def none {H : Type} : Left H := { results := [], args := [] }

/-- 'jacquardlaw29.ChainArrivals': WHATEVER THE INPUT: true; the input reads as it did. -/
def chainArrivalsSpec : ChangeSpec := { name := "chainArrivals", fn := fun _ => fun
  | [d1, d2, d3] => { results := [.lit (.bool true)], args := [d1, d2, d3] }
  | _ => none }
def chainArrivalsRow : OpenClaim := { program := "ytabcdpddhmekkaa", sum := "20b9d19be91bd926760b0b0045433a8bc3c69414f5b8a5acdb385c05f9c0f714", func := "jacquard/jacquardlaw29.ChainArrivals", spec := "chainArrivals", apart := false }
def ChainArrivalsSaid : Prop := chainArrivalsRow.holds Try.pinned (OpenSpec.ofChange chainArrivalsSpec)

/-- ITS FALSE NEIGHBOUR: 'it returns false'. Refute it at one input. -/
def chainArrivalsWrong : ChangeSpec := { name := "chainArrivals", fn := fun _ => fun
  | [d1, d2, d3] => { results := [.lit (.bool false)], args := [d1, d2, d3] }
  | _ => none }
def ChainArrivalsWrongFalsely : Prop := chainArrivalsRow.holds Try.pinned (OpenSpec.ofChange chainArrivalsWrong)

/-- 'jacquardlaw29.ChainWorst': WHATEVER THE INPUT: true; the input reads as it did. -/
def chainWorstSpec : ChangeSpec := { name := "chainWorst", fn := fun _ => fun
  | [d1, d2, d3] => { results := [.lit (.bool true)], args := [d1, d2, d3] }
  | _ => none }
def chainWorstRow : OpenClaim := { program := "ytabcdpddhmekkaa", sum := "20b9d19be91bd926760b0b0045433a8bc3c69414f5b8a5acdb385c05f9c0f714", func := "jacquard/jacquardlaw29.ChainWorst", spec := "chainWorst", apart := false }
def ChainWorstSaid : Prop := chainWorstRow.holds Try.pinned (OpenSpec.ofChange chainWorstSpec)

/-- ITS FALSE NEIGHBOUR: 'it returns false'. Refute it at one input. -/
def chainWorstWrong : ChangeSpec := { name := "chainWorst", fn := fun _ => fun
  | [d1, d2, d3] => { results := [.lit (.bool false)], args := [d1, d2, d3] }
  | _ => none }
def ChainWorstWrongFalsely : Prop := chainWorstRow.holds Try.pinned (OpenSpec.ofChange chainWorstWrong)

/-- 'jacquardlaw29.ChainApart': WHATEVER THE INPUT: true; the input reads as it did. -/
def chainApartSpec : ChangeSpec := { name := "chainApart", fn := fun _ => fun
  | [d1, d2] => { results := [.lit (.bool true)], args := [d1, d2] }
  | _ => none }
def chainApartRow : OpenClaim := { program := "ytabcdpddhmekkaa", sum := "20b9d19be91bd926760b0b0045433a8bc3c69414f5b8a5acdb385c05f9c0f714", func := "jacquard/jacquardlaw29.ChainApart", spec := "chainApart", apart := false }
def ChainApartSaid : Prop := chainApartRow.holds Try.pinned (OpenSpec.ofChange chainApartSpec)

/-- ITS FALSE NEIGHBOUR: 'it returns false'. Refute it at one input. -/
def chainApartWrong : ChangeSpec := { name := "chainApart", fn := fun _ => fun
  | [d1, d2] => { results := [.lit (.bool false)], args := [d1, d2] }
  | _ => none }
def ChainApartWrongFalsely : Prop := chainApartRow.holds Try.pinned (OpenSpec.ofChange chainApartWrong)

/-- 'jacquardlaw29.ChainArcs': WHATEVER THE INPUT: true; the input reads as it did. -/
def chainArcsSpec : ChangeSpec := { name := "chainArcs", fn := fun _ => fun
  | [d1, d2, d3] => { results := [.lit (.bool true)], args := [d1, d2, d3] }
  | _ => none }
def chainArcsRow : OpenClaim := { program := "ytabcdpddhmekkaa", sum := "20b9d19be91bd926760b0b0045433a8bc3c69414f5b8a5acdb385c05f9c0f714", func := "jacquard/jacquardlaw29.ChainArcs", spec := "chainArcs", apart := false }
def ChainArcsSaid : Prop := chainArcsRow.holds Try.pinned (OpenSpec.ofChange chainArcsSpec)

/-- ITS FALSE NEIGHBOUR: 'it returns false'. Refute it at one input. -/
def chainArcsWrong : ChangeSpec := { name := "chainArcs", fn := fun _ => fun
  | [d1, d2, d3] => { results := [.lit (.bool false)], args := [d1, d2, d3] }
  | _ => none }
def ChainArcsWrongFalsely : Prop := chainArcsRow.holds Try.pinned (OpenSpec.ofChange chainArcsWrong)

/-- 'jacquardlaw29.ChainFits': WHATEVER THE INPUT: true; the input reads as it did. -/
def chainFitsSpec : ChangeSpec := { name := "chainFits", fn := fun _ => fun
  | [d1, d2, d3] => { results := [.lit (.bool true)], args := [d1, d2, d3] }
  | _ => none }
def chainFitsRow : OpenClaim := { program := "ytabcdpddhmekkaa", sum := "20b9d19be91bd926760b0b0045433a8bc3c69414f5b8a5acdb385c05f9c0f714", func := "jacquard/jacquardlaw29.ChainFits", spec := "chainFits", apart := false }
def ChainFitsSaid : Prop := chainFitsRow.holds Try.pinned (OpenSpec.ofChange chainFitsSpec)

/-- ITS FALSE NEIGHBOUR: 'it returns false'. Refute it at one input. -/
def chainFitsWrong : ChangeSpec := { name := "chainFits", fn := fun _ => fun
  | [d1, d2, d3] => { results := [.lit (.bool false)], args := [d1, d2, d3] }
  | _ => none }
def ChainFitsWrongFalsely : Prop := chainFitsRow.holds Try.pinned (OpenSpec.ofChange chainFitsWrong)

/-- 'jacquardlaw29.ChainPeriods': WHATEVER THE INPUT: true; the input reads as it did. -/
def chainPeriodsSpec : ChangeSpec := { name := "chainPeriods", fn := fun _ => fun
  | [d1, d2, d3] => { results := [.lit (.bool true)], args := [d1, d2, d3] }
  | _ => none }
def chainPeriodsRow : OpenClaim := { program := "ytabcdpddhmekkaa", sum := "20b9d19be91bd926760b0b0045433a8bc3c69414f5b8a5acdb385c05f9c0f714", func := "jacquard/jacquardlaw29.ChainPeriods", spec := "chainPeriods", apart := false }
def ChainPeriodsSaid : Prop := chainPeriodsRow.holds Try.pinned (OpenSpec.ofChange chainPeriodsSpec)

/-- ITS FALSE NEIGHBOUR: 'it returns false'. Refute it at one input. -/
def chainPeriodsWrong : ChangeSpec := { name := "chainPeriods", fn := fun _ => fun
  | [d1, d2, d3] => { results := [.lit (.bool false)], args := [d1, d2, d3] }
  | _ => none }
def ChainPeriodsWrongFalsely : Prop := chainPeriodsRow.holds Try.pinned (OpenSpec.ofChange chainPeriodsWrong)

/- THE SECOND FORM. 'bulk': how many values and letters a reading holds, each counted each time it is reached (what is shared counts as often as it is met; a slice's spare places count too). A statement '..UptoSaid' is the law's where the arguments, and the package variables that the reading takes, are together of bulk at most 1048576: NARROWER than '..Said'. Prove '..Said' where nothing that the law and all that it calls make is longer than what came in: it says more and counts as full. Else prove '..UptoSaid'. A law counts once. -/
mutual
def uptoBulk {H : Type} : DataW H → Nat
  | .lit (.string bytes) => bytes.length + 1
  | .lit _ => 1
  | .nil => 1
  | .ptr d => uptoBulk d + 1
  | .slice elems spare => uptoBulkAll elems + uptoBulkAll spare + 1
  | .agg parts => uptoBulkAll parts + 1
  | .iface _ d => uptoBulk d + 1
  | .map entries => uptoBulkEntries entries + 1
  | .held _ => 1
def uptoBulkAll {H : Type} : List (DataW H) → Nat
  | [] => 0
  | d :: r => uptoBulk d + uptoBulkAll r
def uptoBulkEntries {H : Type} : List (Lit × DataW H) → Nat
  | [] => 0
  | x :: r => uptoBulkEntry x + uptoBulkEntries r
def uptoBulkEntry {H : Type} : Lit × DataW H → Nat
  | (.string bytes, d) => bytes.length + uptoBulk d + 1
  | (_, d) => uptoBulk d + 1
 end
def uptoSmall : (H : Type) → List (DataW H) → Bool := fun _ ds => decide (uptoBulkAll ds ≤ 1048576)
def OpenSpec.upto (s : _root_.Go.ChangeSpec) : _root_.Go.OpenSpec := { _root_.Go.OpenSpec.ofChange s with cond := some uptoSmall }

/-- 'jacquardlaw29.ChainArrivals', WHERE WHAT IT READS IS OF BULK AT MOST 1048576: true; the input reads as it did. -/
def chainArrivalsUptoRow : OpenClaim := { program := "ytabcdpddhmekkaa", sum := "20b9d19be91bd926760b0b0045433a8bc3c69414f5b8a5acdb385c05f9c0f714", func := "jacquard/jacquardlaw29.ChainArrivals", spec := "chainArrivals", apart := false, narrowed := true }
def ChainArrivalsUptoSaid : Prop := chainArrivalsUptoRow.holds Try.pinned (OpenSpec.upto chainArrivalsSpec)

/-- 'jacquardlaw29.ChainWorst', WHERE WHAT IT READS IS OF BULK AT MOST 1048576: true; the input reads as it did. -/
def chainWorstUptoRow : OpenClaim := { program := "ytabcdpddhmekkaa", sum := "20b9d19be91bd926760b0b0045433a8bc3c69414f5b8a5acdb385c05f9c0f714", func := "jacquard/jacquardlaw29.ChainWorst", spec := "chainWorst", apart := false, narrowed := true }
def ChainWorstUptoSaid : Prop := chainWorstUptoRow.holds Try.pinned (OpenSpec.upto chainWorstSpec)

/-- 'jacquardlaw29.ChainApart', WHERE WHAT IT READS IS OF BULK AT MOST 1048576: true; the input reads as it did. -/
def chainApartUptoRow : OpenClaim := { program := "ytabcdpddhmekkaa", sum := "20b9d19be91bd926760b0b0045433a8bc3c69414f5b8a5acdb385c05f9c0f714", func := "jacquard/jacquardlaw29.ChainApart", spec := "chainApart", apart := false, narrowed := true }
def ChainApartUptoSaid : Prop := chainApartUptoRow.holds Try.pinned (OpenSpec.upto chainApartSpec)

/-- 'jacquardlaw29.ChainArcs', WHERE WHAT IT READS IS OF BULK AT MOST 1048576: true; the input reads as it did. -/
def chainArcsUptoRow : OpenClaim := { program := "ytabcdpddhmekkaa", sum := "20b9d19be91bd926760b0b0045433a8bc3c69414f5b8a5acdb385c05f9c0f714", func := "jacquard/jacquardlaw29.ChainArcs", spec := "chainArcs", apart := false, narrowed := true }
def ChainArcsUptoSaid : Prop := chainArcsUptoRow.holds Try.pinned (OpenSpec.upto chainArcsSpec)

/-- 'jacquardlaw29.ChainFits', WHERE WHAT IT READS IS OF BULK AT MOST 1048576: true; the input reads as it did. -/
def chainFitsUptoRow : OpenClaim := { program := "ytabcdpddhmekkaa", sum := "20b9d19be91bd926760b0b0045433a8bc3c69414f5b8a5acdb385c05f9c0f714", func := "jacquard/jacquardlaw29.ChainFits", spec := "chainFits", apart := false, narrowed := true }
def ChainFitsUptoSaid : Prop := chainFitsUptoRow.holds Try.pinned (OpenSpec.upto chainFitsSpec)

/-- 'jacquardlaw29.ChainPeriods', WHERE WHAT IT READS IS OF BULK AT MOST 1048576: true; the input reads as it did. -/
def chainPeriodsUptoRow : OpenClaim := { program := "ytabcdpddhmekkaa", sum := "20b9d19be91bd926760b0b0045433a8bc3c69414f5b8a5acdb385c05f9c0f714", func := "jacquard/jacquardlaw29.ChainPeriods", spec := "chainPeriods", apart := false, narrowed := true }
def ChainPeriodsUptoSaid : Prop := chainPeriodsUptoRow.holds Try.pinned (OpenSpec.upto chainPeriodsSpec)

end Rows
end Go.Proofs.Ytabcdpddhmekkaa
