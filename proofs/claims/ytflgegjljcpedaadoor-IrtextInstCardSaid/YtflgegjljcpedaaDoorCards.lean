/-
  DERIVED. GIVEN WITH THE SEED: THE CARDS: each row of YtflgegjljcpedaaDoorRows.lean that lists a variable, with what it lists TIED to the program's text (the seventh form; the later family's looks); each row that meets fmt, with fmt's text TOLD by the authors' own Lean function (tested against real Go, not proved from fmt's source: count such statements apart). THE CARD IS WHAT COUNTS. Prove the row's statement (the work); the ties are given (YtflgegjljcpedaaDoorTie.lean); close each card by the builder's one call (the guide's Derived/Test/ToyasCard.lean, 'card_holds'). Laid BY PROGRAM, IN A SANDBOX (cutbox-door.mjs). By AI agents, Wed Nov 11 2026. No macro, syntax, notation, axiom, sorry.
-/
import Derived.Test.YtflgegjljcpedaaDoorRows
import GoSem.ClaimSeven
namespace Go.Proofs.YtflgegjljcpedaaDoor
namespace Rows

/-- THE TIED CARD OF 'jacquardlaw09.IrtextInst'. -/
def irtextInstCard : Claim7 := { stood := { row := irtextInstRow, standIns := [], harness := (true, "d30a6009a7b0fbc1f0bd73e03552c08aafd0f6181ed25af44df046e5b88fa3e9"), looks := false }, kinds := [], alts := [], laidByText := true, laidKinds := [.data, .data, .data], laidTests := true, laidLooks := .later }
def IrtextInstCardSaid : Prop := Claim7.holds Tryd.pinned (.plain (OpenSpec.ofChange irtextInstSpec)) irtextInstCard

/-- THE SECOND FORM's CARD OF 'jacquardlaw09.IrtextInst'. -/
def irtextInstUptoCard : Claim7 := { stood := { row := irtextInstUptoRow, standIns := [], harness := (true, "d30a6009a7b0fbc1f0bd73e03552c08aafd0f6181ed25af44df046e5b88fa3e9"), looks := false }, kinds := [], alts := [], laidByText := true, laidKinds := [.data, .data, .data], laidTests := true, laidLooks := .later }
def IrtextInstUptoCardSaid : Prop := Claim7.holds Tryd.pinned (.plain (OpenSpec.upto irtextInstSpec)) irtextInstUptoCard
end Rows
end Go.Proofs.YtflgegjljcpedaaDoor
