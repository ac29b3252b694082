/-
  No cell of these rows narrows 'for every input' (looked for: loops, veiled, ifaces, maps, wideKeys, modest, calm, conditions, laid).
  DERIVED. THE GIVEN ROWS OF THIS SEAT. 3 by the template 'for every input the law returns true; each argument reads behind the call as it read before'; 0 by the template 'total and deterministic' (their statements: YtpmlbbglekaidaaTotals.lean).
  GIVEN WITH THE SEED: the statements are not yours to turn. If you find one false, say at which input.
  Laid BY PROGRAM, IN A SANDBOX (cutbox-rows.mjs): the forced cells as the released guide's own fill.sh prints them over the translation a96fda38844ac1fd… (all of the seat's roots in one cut). By AI agents, Wed Nov 11 2026. No macro, syntax, notation, axiom, sorry.
-/
import Derived.Test.YtpmlbbglekaidaaChecked
import GoSem.Claim
import GoSem.ClaimJoined
import GoSem.ClaimMapViews
import Derived.JoinedTies
import Derived.KernelRfl
namespace Go.Proofs.Ytpmlbbglekaidaa
/- THE CELL 'sum', in the pinned program and in every row, IS THE sha256 OF THE DUMP (.gsa) THAT YtpmlbbglekaidaaProg.lean LOADS. Nothing in Lean hashes anything: it is a label: what it is worth is what the hold of that sum in a sandbox is worth. -/
noncomputable def Try.pinned : Pinned := { name := "ytpmlbbglekaidaa", sum := "a96fda38844ac1fd05b6f9514f585121bf1d867f4c8666535347f2505e8afe6f", checked := Try.checked }
namespace Rows
def none {H : Type} : Left H := { results := [], args := [] }

/-- 'jacquardlaw34.RefuteSound': WHATEVER THE INPUT: true; the input reads as it did. -/
def refuteSoundSpec : ChangeSpec := { name := "refuteSound", fn := fun _ => fun
  | [d1, d2, d3] => { results := [.lit (.bool true)], args := [d1, d2, d3] }
  | _ => none }
def refuteSoundRow : OpenClaim := { program := "ytpmlbbglekaidaa", sum := "a96fda38844ac1fd05b6f9514f585121bf1d867f4c8666535347f2505e8afe6f", func := "jacquard/jacquardlaw34.RefuteSound", spec := "refuteSound", recurses := true, apart := false }
def RefuteSoundSaid : Prop := refuteSoundRow.holds Try.pinned (OpenSpec.ofChange refuteSoundSpec)

/-- ITS FALSE NEIGHBOUR: 'it returns false'. Refute it at one input. -/
def refuteSoundWrong : ChangeSpec := { name := "refuteSound", fn := fun _ => fun
  | [d1, d2, d3] => { results := [.lit (.bool false)], args := [d1, d2, d3] }
  | _ => none }
def RefuteSoundWrongFalsely : Prop := refuteSoundRow.holds Try.pinned (OpenSpec.ofChange refuteSoundWrong)

/-- 'jacquardlaw34.RefuteSchedules': WHATEVER THE INPUT: true; the input reads as it did. -/
def refuteSchedulesSpec : ChangeSpec := { name := "refuteSchedules", fn := fun _ => fun
  | [d1, d2, d3] => { results := [.lit (.bool true)], args := [d1, d2, d3] }
  | _ => none }
def refuteSchedulesRow : OpenClaim := { program := "ytpmlbbglekaidaa", sum := "a96fda38844ac1fd05b6f9514f585121bf1d867f4c8666535347f2505e8afe6f", func := "jacquard/jacquardlaw34.RefuteSchedules", spec := "refuteSchedules", recurses := true, apart := false }
def RefuteSchedulesSaid : Prop := refuteSchedulesRow.holds Try.pinned (OpenSpec.ofChange refuteSchedulesSpec)

/-- ITS FALSE NEIGHBOUR: 'it returns false'. Refute it at one input. -/
def refuteSchedulesWrong : ChangeSpec := { name := "refuteSchedules", fn := fun _ => fun
  | [d1, d2, d3] => { results := [.lit (.bool false)], args := [d1, d2, d3] }
  | _ => none }
def RefuteSchedulesWrongFalsely : Prop := refuteSchedulesRow.holds Try.pinned (OpenSpec.ofChange refuteSchedulesWrong)

/-- 'jacquardlaw34.RefuteWalks': WHATEVER THE INPUT: true; the input reads as it did. -/
def refuteWalksSpec : ChangeSpec := { name := "refuteWalks", fn := fun _ => fun
  | [d1, d2, d3] => { results := [.lit (.bool true)], args := [d1, d2, d3] }
  | _ => none }
def refuteWalksRow : OpenClaim := { program := "ytpmlbbglekaidaa", sum := "a96fda38844ac1fd05b6f9514f585121bf1d867f4c8666535347f2505e8afe6f", func := "jacquard/jacquardlaw34.RefuteWalks", spec := "refuteWalks", recurses := true, apart := false }
def RefuteWalksSaid : Prop := refuteWalksRow.holds Try.pinned (OpenSpec.ofChange refuteWalksSpec)

/-- ITS FALSE NEIGHBOUR: 'it returns false'. Refute it at one input. -/
def refuteWalksWrong : ChangeSpec := { name := "refuteWalks", fn := fun _ => fun
  | [d1, d2, d3] => { results := [.lit (.bool false)], args := [d1, d2, d3] }
  | _ => none }
def RefuteWalksWrongFalsely : Prop := refuteWalksRow.holds Try.pinned (OpenSpec.ofChange refuteWalksWrong)

/- THE SECOND FORM. 'bulk': how many values and letters a reading holds, each counted each time it is reached (what is shared counts as often as it is met; a slice's spare places count too). A statement '..UptoSaid' is the law's where the arguments, and the package variables that the reading takes, are together of bulk at most 1048576: NARROWER than '..Said'. Prove '..Said' where nothing that the law and all that it calls make is longer than what came in: it says more and counts as full. Else prove '..UptoSaid'. A law counts once. -/
mutual
def uptoBulk {H : Type} : DataW H → Nat
  | .lit (.string bytes) => bytes.length + 1
  | .lit _ => 1
  | .nil => 1
  | .ptr d => uptoBulk d + 1
  | .slice elems spare => uptoBulkAll elems + uptoBulkAll spare + 1
  | .agg parts => uptoBulkAll parts + 1
  | .iface _ d => uptoBulk d + 1
  | .map entries => uptoBulkEntries entries + 1
  | .held _ => 1
def uptoBulkAll {H : Type} : List (DataW H) → Nat
  | [] => 0
  | d :: r => uptoBulk d + uptoBulkAll r
def uptoBulkEntries {H : Type} : List (Lit × DataW H) → Nat
  | [] => 0
  | x :: r => uptoBulkEntry x + uptoBulkEntries r
def uptoBulkEntry {H : Type} : Lit × DataW H → Nat
  | (.string bytes, d) => bytes.length + uptoBulk d + 1
  | (_, d) => uptoBulk d + 1
 end
def uptoSmall : (H : Type) → List (DataW H) → Bool := fun _ ds => decide (uptoBulkAll ds ≤ 1048576)
def OpenSpec.upto (s : _root_.Go.ChangeSpec) : _root_.Go.OpenSpec := { _root_.Go.OpenSpec.ofChange s with cond := some uptoSmall }

/-- 'jacquardlaw34.RefuteSound', WHERE WHAT IT READS IS OF BULK AT MOST 1048576: true; the input reads as it did. -/
def refuteSoundUptoRow : OpenClaim := { program := "ytpmlbbglekaidaa", sum := "a96fda38844ac1fd05b6f9514f585121bf1d867f4c8666535347f2505e8afe6f", func := "jacquard/jacquardlaw34.RefuteSound", spec := "refuteSound", recurses := true, apart := false, narrowed := true }
def RefuteSoundUptoSaid : Prop := refuteSoundUptoRow.holds Try.pinned (OpenSpec.upto refuteSoundSpec)

/-- 'jacquardlaw34.RefuteSchedules', WHERE WHAT IT READS IS OF BULK AT MOST 1048576: true; the input reads as it did. -/
def refuteSchedulesUptoRow : OpenClaim := { program := "ytpmlbbglekaidaa", sum := "a96fda38844ac1fd05b6f9514f585121bf1d867f4c8666535347f2505e8afe6f", func := "jacquard/jacquardlaw34.RefuteSchedules", spec := "refuteSchedules", recurses := true, apart := false, narrowed := true }
def RefuteSchedulesUptoSaid : Prop := refuteSchedulesUptoRow.holds Try.pinned (OpenSpec.upto refuteSchedulesSpec)

/-- 'jacquardlaw34.RefuteWalks', WHERE WHAT IT READS IS OF BULK AT MOST 1048576: true; the input reads as it did. -/
def refuteWalksUptoRow : OpenClaim := { program := "ytpmlbbglekaidaa", sum := "a96fda38844ac1fd05b6f9514f585121bf1d867f4c8666535347f2505e8afe6f", func := "jacquard/jacquardlaw34.RefuteWalks", spec := "refuteWalks", recurses := true, apart := false, narrowed := true }
def RefuteWalksUptoSaid : Prop := refuteWalksUptoRow.holds Try.pinned (OpenSpec.upto refuteWalksSpec)

end Rows
end Go.Proofs.Ytpmlbbglekaidaa
