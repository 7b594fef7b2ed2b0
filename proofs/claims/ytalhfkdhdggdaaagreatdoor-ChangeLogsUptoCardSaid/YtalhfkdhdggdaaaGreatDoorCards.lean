/-
  DERIVED. GIVEN WITH THE SEED: THE CARDS: each row of YtalhfkdhdggdaaaGreatDoorRows.lean that lists a variable, with what it lists TIED to the program's text (the seventh form; the later family's looks); each row that meets fmt, with fmt's text TOLD by the authors' own Lean function (tested against real Go, not proved from fmt's source: count such statements apart). THE CARD IS WHAT COUNTS. Prove the row's statement (the work); the ties are given (YtalhfkdhdggdaaaGreatDoorTie.lean); close each card by the builder's one call (the guide's Derived/Test/ToyasCard.lean, 'card_holds'). Laid BY PROGRAM, IN A SANDBOX (cutbox-door.mjs). By AI agents, Wed Nov 11 2026. No macro, syntax, notation, axiom, sorry.
-/
import Derived.Test.YtalhfkdhdggdaaaGreatDoorRows
import GoSem.ClaimSeven
namespace Go.Proofs.YtalhfkdhdggdaaaGreatDoor
namespace Rows

/-- THE TIED CARD OF 'kingpostlaw58.ChangeLogs'. -/
def changeLogsCard : Claim7 := { stood := { row := changeLogsRow, standIns := [], harness := (true, "5e2ebe2cd58f364499df019eba79120baab4f1508ce062ea6b167926961d4b1d"), looks := true }, kinds := [], alts := [], laidByText := true, laidKinds := [.data, .data, .data, .data, .sentinel, .sentinel, .widerDeep, .pinned], laidTests := true, laidLooks := .later }
def ChangeLogsCardSaid : Prop := Claim7.holds Tryz.pinned (.plain (OpenSpec.ofChange changeLogsSpec)) changeLogsCard

/-- THE SECOND FORM's CARD OF 'kingpostlaw58.ChangeLogs'. -/
def changeLogsUptoCard : Claim7 := { stood := { row := changeLogsUptoRow, standIns := [], harness := (true, "5e2ebe2cd58f364499df019eba79120baab4f1508ce062ea6b167926961d4b1d"), looks := true }, kinds := [], alts := [], laidByText := true, laidKinds := [.data, .data, .data, .data, .sentinel, .sentinel, .widerDeep, .pinned], laidTests := true, laidLooks := .later }
def ChangeLogsUptoCardSaid : Prop := Claim7.holds Tryz.pinned (.plain (OpenSpec.upto changeLogsSpec)) changeLogsUptoCard
end Rows
end Go.Proofs.YtalhfkdhdggdaaaGreatDoor
