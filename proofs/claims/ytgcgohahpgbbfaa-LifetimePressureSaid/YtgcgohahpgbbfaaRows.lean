/-
  No cell of these rows narrows 'for every input' (looked for: loops, veiled, ifaces, maps, wideKeys, modest, calm, conditions, laid).
  DERIVED. THE GIVEN ROWS OF THIS SEAT. 6 by the template 'for every input the law returns true; each argument reads behind the call as it read before'; 0 by the template 'total and deterministic' (their statements: YtgcgohahpgbbfaaTotals.lean).
  GIVEN WITH THE SEED: the statements are not yours to turn. If you find one false, say at which input.
  Laid BY PROGRAM, IN A SANDBOX (cutbox-rows.mjs): the forced cells as the released guide's own fill.sh prints them over the translation c36cb3d9376ec82a… (all of the seat's roots in one cut). By AI agents, Wed Nov 11 2026. No macro, syntax, notation, axiom, sorry.
-/
import Derived.Test.YtgcgohahpgbbfaaChecked
import GoSem.Claim
import GoSem.ClaimJoined
import GoSem.ClaimMapViews
import Derived.JoinedTies
import Derived.KernelRfl
namespace Go.Proofs.Ytgcgohahpgbbfaa
/- THE CELL 'sum', in the pinned program and in every row, IS THE sha256 OF THE DUMP (.gsa) THAT YtgcgohahpgbbfaaProg.lean LOADS. Nothing in Lean hashes anything: it is a label: what it is worth is what the hold of that sum in a sandbox is worth. -/
noncomputable def Try.pinned : Pinned := { name := "ytgcgohahpgbbfaa", sum := "c36cb3d9376ec82a8da84e56eab6ca3b641b4bd97a00b16205ac88134617b537", checked := Try.checked }
namespace Rows
def none {H : Type} : Left H := { results := [], args := [] }

/-- 'jacquardlaw37.LifetimeSpans': WHATEVER THE INPUT: true; the input reads as it did. -/
def lifetimeSpansSpec : ChangeSpec := { name := "lifetimeSpans", fn := fun _ => fun
  | [d1, d2] => { results := [.lit (.bool true)], args := [d1, d2] }
  | _ => none }
def lifetimeSpansRow : OpenClaim := { program := "ytgcgohahpgbbfaa", sum := "c36cb3d9376ec82a8da84e56eab6ca3b641b4bd97a00b16205ac88134617b537", func := "jacquard/jacquardlaw37.LifetimeSpans", spec := "lifetimeSpans", apart := false }
def LifetimeSpansSaid : Prop := lifetimeSpansRow.holds Try.pinned (OpenSpec.ofChange lifetimeSpansSpec)

/-- ITS FALSE NEIGHBOUR: 'it returns false'. Refute it at one input. -/
def lifetimeSpansWrong : ChangeSpec := { name := "lifetimeSpans", fn := fun _ => fun
  | [d1, d2] => { results := [.lit (.bool false)], args := [d1, d2] }
  | _ => none }
def LifetimeSpansWrongFalsely : Prop := lifetimeSpansRow.holds Try.pinned (OpenSpec.ofChange lifetimeSpansWrong)

/-- 'jacquardlaw37.LifetimePressure': WHATEVER THE INPUT: true; the input reads as it did. -/
def lifetimePressureSpec : ChangeSpec := { name := "lifetimePressure", fn := fun _ => fun
  | [d1, d2] => { results := [.lit (.bool true)], args := [d1, d2] }
  | _ => none }
def lifetimePressureRow : OpenClaim := { program := "ytgcgohahpgbbfaa", sum := "c36cb3d9376ec82a8da84e56eab6ca3b641b4bd97a00b16205ac88134617b537", func := "jacquard/jacquardlaw37.LifetimePressure", spec := "lifetimePressure", apart := false }
def LifetimePressureSaid : Prop := lifetimePressureRow.holds Try.pinned (OpenSpec.ofChange lifetimePressureSpec)

/-- ITS FALSE NEIGHBOUR: 'it returns false'. Refute it at one input. -/
def lifetimePressureWrong : ChangeSpec := { name := "lifetimePressure", fn := fun _ => fun
  | [d1, d2] => { results := [.lit (.bool false)], args := [d1, d2] }
  | _ => none }
def LifetimePressureWrongFalsely : Prop := lifetimePressureRow.holds Try.pinned (OpenSpec.ofChange lifetimePressureWrong)

/-- 'jacquardlaw37.LifetimeLives': WHATEVER THE INPUT: true; the input reads as it did. -/
def lifetimeLivesSpec : ChangeSpec := { name := "lifetimeLives", fn := fun _ => fun
  | [d] => { results := [.lit (.bool true)], args := [d] }
  | _ => none }
def lifetimeLivesRow : OpenClaim := { program := "ytgcgohahpgbbfaa", sum := "c36cb3d9376ec82a8da84e56eab6ca3b641b4bd97a00b16205ac88134617b537", func := "jacquard/jacquardlaw37.LifetimeLives", spec := "lifetimeLives", unfollowed := true, recurses := true, apart := false }
def LifetimeLivesSaid : Prop := lifetimeLivesRow.holds Try.pinned (OpenSpec.ofChange lifetimeLivesSpec)

/-- ITS FALSE NEIGHBOUR: 'it returns false'. Refute it at one input. -/
def lifetimeLivesWrong : ChangeSpec := { name := "lifetimeLives", fn := fun _ => fun
  | [d] => { results := [.lit (.bool false)], args := [d] }
  | _ => none }
def LifetimeLivesWrongFalsely : Prop := lifetimeLivesRow.holds Try.pinned (OpenSpec.ofChange lifetimeLivesWrong)

/-- 'jacquardlaw37.LifetimeFits': WHATEVER THE INPUT: true; the input reads as it did. -/
def lifetimeFitsSpec : ChangeSpec := { name := "lifetimeFits", fn := fun _ => fun
  | [d1, d2, d3] => { results := [.lit (.bool true)], args := [d1, d2, d3] }
  | _ => none }
def lifetimeFitsRow : OpenClaim := { program := "ytgcgohahpgbbfaa", sum := "c36cb3d9376ec82a8da84e56eab6ca3b641b4bd97a00b16205ac88134617b537", func := "jacquard/jacquardlaw37.LifetimeFits", spec := "lifetimeFits", unfollowed := true, recurses := true, apart := false }
def LifetimeFitsSaid : Prop := lifetimeFitsRow.holds Try.pinned (OpenSpec.ofChange lifetimeFitsSpec)

/-- ITS FALSE NEIGHBOUR: 'it returns false'. Refute it at one input. -/
def lifetimeFitsWrong : ChangeSpec := { name := "lifetimeFits", fn := fun _ => fun
  | [d1, d2, d3] => { results := [.lit (.bool false)], args := [d1, d2, d3] }
  | _ => none }
def LifetimeFitsWrongFalsely : Prop := lifetimeFitsRow.holds Try.pinned (OpenSpec.ofChange lifetimeFitsWrong)

/-- 'jacquardlaw37.LifetimeWhere': WHATEVER THE INPUT: true; the input reads as it did. -/
def lifetimeWhereSpec : ChangeSpec := { name := "lifetimeWhere", fn := fun _ => fun
  | [d1, d2, d3] => { results := [.lit (.bool true)], args := [d1, d2, d3] }
  | _ => none }
def lifetimeWhereRow : OpenClaim := { program := "ytgcgohahpgbbfaa", sum := "c36cb3d9376ec82a8da84e56eab6ca3b641b4bd97a00b16205ac88134617b537", func := "jacquard/jacquardlaw37.LifetimeWhere", spec := "lifetimeWhere", unfollowed := true, recurses := true, apart := false }
def LifetimeWhereSaid : Prop := lifetimeWhereRow.holds Try.pinned (OpenSpec.ofChange lifetimeWhereSpec)

/-- ITS FALSE NEIGHBOUR: 'it returns false'. Refute it at one input. -/
def lifetimeWhereWrong : ChangeSpec := { name := "lifetimeWhere", fn := fun _ => fun
  | [d1, d2, d3] => { results := [.lit (.bool false)], args := [d1, d2, d3] }
  | _ => none }
def LifetimeWhereWrongFalsely : Prop := lifetimeWhereRow.holds Try.pinned (OpenSpec.ofChange lifetimeWhereWrong)

/-- 'jacquardlaw37.LifetimeReads': WHATEVER THE INPUT: true; the input reads as it did. -/
def lifetimeReadsSpec : ChangeSpec := { name := "lifetimeReads", fn := fun _ => fun
  | [d] => { results := [.lit (.bool true)], args := [d] }
  | _ => none }
def lifetimeReadsRow : OpenClaim := { program := "ytgcgohahpgbbfaa", sum := "c36cb3d9376ec82a8da84e56eab6ca3b641b4bd97a00b16205ac88134617b537", func := "jacquard/jacquardlaw37.LifetimeReads", spec := "lifetimeReads", unfollowed := true, recurses := true, apart := false }
def LifetimeReadsSaid : Prop := lifetimeReadsRow.holds Try.pinned (OpenSpec.ofChange lifetimeReadsSpec)

/-- ITS FALSE NEIGHBOUR: 'it returns false'. Refute it at one input. -/
def lifetimeReadsWrong : ChangeSpec := { name := "lifetimeReads", fn := fun _ => fun
  | [d] => { results := [.lit (.bool false)], args := [d] }
  | _ => none }
def LifetimeReadsWrongFalsely : Prop := lifetimeReadsRow.holds Try.pinned (OpenSpec.ofChange lifetimeReadsWrong)

/- THE SECOND FORM. 'bulk': how many values and letters a reading holds, each counted each time it is reached (what is shared counts as often as it is met; a slice's spare places count too). A statement '..UptoSaid' is the law's where the arguments, and the package variables that the reading takes, are together of bulk at most 1048576: NARROWER than '..Said'. Prove '..Said' where nothing that the law and all that it calls make is longer than what came in: it says more and counts as full. Else prove '..UptoSaid'. A law counts once. -/
mutual
def uptoBulk {H : Type} : DataW H → Nat
  | .lit (.string bytes) => bytes.length + 1
  | .lit _ => 1
  | .nil => 1
  | .ptr d => uptoBulk d + 1
  | .slice elems spare => uptoBulkAll elems + uptoBulkAll spare + 1
  | .agg parts => uptoBulkAll parts + 1
  | .iface _ d => uptoBulk d + 1
  | .map entries => uptoBulkEntries entries + 1
  | .held _ => 1
def uptoBulkAll {H : Type} : List (DataW H) → Nat
  | [] => 0
  | d :: r => uptoBulk d + uptoBulkAll r
def uptoBulkEntries {H : Type} : List (Lit × DataW H) → Nat
  | [] => 0
  | x :: r => uptoBulkEntry x + uptoBulkEntries r
def uptoBulkEntry {H : Type} : Lit × DataW H → Nat
  | (.string bytes, d) => bytes.length + uptoBulk d + 1
  | (_, d) => uptoBulk d + 1
 end
def uptoSmall : (H : Type) → List (DataW H) → Bool := fun _ ds => decide (uptoBulkAll ds ≤ 1048576)
def OpenSpec.upto (s : _root_.Go.ChangeSpec) : _root_.Go.OpenSpec := { _root_.Go.OpenSpec.ofChange s with cond := some uptoSmall }

/-- 'jacquardlaw37.LifetimeSpans', WHERE WHAT IT READS IS OF BULK AT MOST 1048576: true; the input reads as it did. -/
def lifetimeSpansUptoRow : OpenClaim := { program := "ytgcgohahpgbbfaa", sum := "c36cb3d9376ec82a8da84e56eab6ca3b641b4bd97a00b16205ac88134617b537", func := "jacquard/jacquardlaw37.LifetimeSpans", spec := "lifetimeSpans", apart := false, narrowed := true }
def LifetimeSpansUptoSaid : Prop := lifetimeSpansUptoRow.holds Try.pinned (OpenSpec.upto lifetimeSpansSpec)

/-- 'jacquardlaw37.LifetimePressure', WHERE WHAT IT READS IS OF BULK AT MOST 1048576: true; the input reads as it did. -/
def lifetimePressureUptoRow : OpenClaim := { program := "ytgcgohahpgbbfaa", sum := "c36cb3d9376ec82a8da84e56eab6ca3b641b4bd97a00b16205ac88134617b537", func := "jacquard/jacquardlaw37.LifetimePressure", spec := "lifetimePressure", apart := false, narrowed := true }
def LifetimePressureUptoSaid : Prop := lifetimePressureUptoRow.holds Try.pinned (OpenSpec.upto lifetimePressureSpec)

/-- 'jacquardlaw37.LifetimeLives', WHERE WHAT IT READS IS OF BULK AT MOST 1048576: true; the input reads as it did. -/
def lifetimeLivesUptoRow : OpenClaim := { program := "ytgcgohahpgbbfaa", sum := "c36cb3d9376ec82a8da84e56eab6ca3b641b4bd97a00b16205ac88134617b537", func := "jacquard/jacquardlaw37.LifetimeLives", spec := "lifetimeLives", unfollowed := true, recurses := true, apart := false, narrowed := true }
def LifetimeLivesUptoSaid : Prop := lifetimeLivesUptoRow.holds Try.pinned (OpenSpec.upto lifetimeLivesSpec)

/-- 'jacquardlaw37.LifetimeFits', WHERE WHAT IT READS IS OF BULK AT MOST 1048576: true; the input reads as it did. -/
def lifetimeFitsUptoRow : OpenClaim := { program := "ytgcgohahpgbbfaa", sum := "c36cb3d9376ec82a8da84e56eab6ca3b641b4bd97a00b16205ac88134617b537", func := "jacquard/jacquardlaw37.LifetimeFits", spec := "lifetimeFits", unfollowed := true, recurses := true, apart := false, narrowed := true }
def LifetimeFitsUptoSaid : Prop := lifetimeFitsUptoRow.holds Try.pinned (OpenSpec.upto lifetimeFitsSpec)

/-- 'jacquardlaw37.LifetimeWhere', WHERE WHAT IT READS IS OF BULK AT MOST 1048576: true; the input reads as it did. -/
def lifetimeWhereUptoRow : OpenClaim := { program := "ytgcgohahpgbbfaa", sum := "c36cb3d9376ec82a8da84e56eab6ca3b641b4bd97a00b16205ac88134617b537", func := "jacquard/jacquardlaw37.LifetimeWhere", spec := "lifetimeWhere", unfollowed := true, recurses := true, apart := false, narrowed := true }
def LifetimeWhereUptoSaid : Prop := lifetimeWhereUptoRow.holds Try.pinned (OpenSpec.upto lifetimeWhereSpec)

/-- 'jacquardlaw37.LifetimeReads', WHERE WHAT IT READS IS OF BULK AT MOST 1048576: true; the input reads as it did. -/
def lifetimeReadsUptoRow : OpenClaim := { program := "ytgcgohahpgbbfaa", sum := "c36cb3d9376ec82a8da84e56eab6ca3b641b4bd97a00b16205ac88134617b537", func := "jacquard/jacquardlaw37.LifetimeReads", spec := "lifetimeReads", unfollowed := true, recurses := true, apart := false, narrowed := true }
def LifetimeReadsUptoSaid : Prop := lifetimeReadsUptoRow.holds Try.pinned (OpenSpec.upto lifetimeReadsSpec)

end Rows
end Go.Proofs.Ytgcgohahpgbbfaa
