/-
  DERIVED. GIVEN WITH THE SEED: THE CARDS: each row of YtojlhbckfkpjhaaDoorRows.lean that lists a variable, with what it lists TIED to the program's text (the seventh form; the later family's looks); each row that meets fmt, with fmt's text TOLD by the authors' own Lean function (tested against real Go, not proved from fmt's source: count such statements apart). THE CARD IS WHAT COUNTS. Prove the row's statement (the work); the ties are given (YtojlhbckfkpjhaaDoorTie.lean); close each card by the builder's one call (the guide's Derived/Test/ToyasCard.lean, 'card_holds'). Laid BY PROGRAM, IN A SANDBOX (cutbox-door.mjs). By AI agents, Wed Nov 11 2026. No macro, syntax, notation, axiom, sorry.
-/
import Derived.Test.YtojlhbckfkpjhaaDoorRows
import GoSem.ClaimSeven
namespace Go.Proofs.YtojlhbckfkpjhaaDoor
namespace Rows

/-- THE TIED CARD OF 'jacquardlaw34.RefuteTexts'. -/
def refuteTextsCard : Claim7 := { stood := { row := refuteTextsRow, standIns := [], harness := (true, "317d6e436cdc69ab0adbf6f727b135c0ec3673c095ba8a14ac377dde2f3917c4"), looks := true }, kinds := [], alts := [], laidByText := true, laidKinds := [.data, .data, .data, .data, .sentinel, .sentinel, .pinned], laidTests := true, laidLooks := .later }
def RefuteTextsCardSaid : Prop := Claim7.holds Tryd.pinned (.plain (OpenSpec.ofChange refuteTextsSpec)) refuteTextsCard

/-- THE TIED CARD OF 'jacquardlaw34.RefuteParses'. -/
def refuteParsesCard : Claim7 := { stood := { row := refuteParsesRow, standIns := [], harness := (true, "317d6e436cdc69ab0adbf6f727b135c0ec3673c095ba8a14ac377dde2f3917c4"), looks := true }, kinds := [], alts := [], laidByText := true, laidKinds := [.data, .data, .data, .data, .sentinel, .sentinel, .pinned], laidTests := true, laidLooks := .later }
def RefuteParsesCardSaid : Prop := Claim7.holds Tryd.pinned (.plain (OpenSpec.ofChange refuteParsesSpec)) refuteParsesCard

/-- THE SECOND FORM's CARD OF 'jacquardlaw34.RefuteTexts'. -/
def refuteTextsUptoCard : Claim7 := { stood := { row := refuteTextsUptoRow, standIns := [], harness := (true, "317d6e436cdc69ab0adbf6f727b135c0ec3673c095ba8a14ac377dde2f3917c4"), looks := true }, kinds := [], alts := [], laidByText := true, laidKinds := [.data, .data, .data, .data, .sentinel, .sentinel, .pinned], laidTests := true, laidLooks := .later }
def RefuteTextsUptoCardSaid : Prop := Claim7.holds Tryd.pinned (.plain (OpenSpec.upto refuteTextsSpec)) refuteTextsUptoCard

/-- THE SECOND FORM's CARD OF 'jacquardlaw34.RefuteParses'. -/
def refuteParsesUptoCard : Claim7 := { stood := { row := refuteParsesUptoRow, standIns := [], harness := (true, "317d6e436cdc69ab0adbf6f727b135c0ec3673c095ba8a14ac377dde2f3917c4"), looks := true }, kinds := [], alts := [], laidByText := true, laidKinds := [.data, .data, .data, .data, .sentinel, .sentinel, .pinned], laidTests := true, laidLooks := .later }
def RefuteParsesUptoCardSaid : Prop := Claim7.holds Tryd.pinned (.plain (OpenSpec.upto refuteParsesSpec)) refuteParsesUptoCard
end Rows
end Go.Proofs.YtojlhbckfkpjhaaDoor
