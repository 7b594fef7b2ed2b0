/-
  DERIVED. GIVEN WITH THE SEED: THE CARDS: each row of YtbnnccnicfddlaaGreatDoorRows.lean that lists a variable, with what it lists TIED to the program's text (the seventh form; the later family's looks); each row that meets fmt, with fmt's text TOLD by the authors' own Lean function (tested against real Go, not proved from fmt's source: count such statements apart). THE CARD IS WHAT COUNTS. Prove the row's statement (the work); the ties are given (YtbnnccnicfddlaaGreatDoorTie.lean); close each card by the builder's one call (the guide's Derived/Test/ToyasCard.lean, 'card_holds'). Laid BY PROGRAM, IN A SANDBOX (cutbox-door.mjs). By AI agents, Wed Nov 11 2026. No macro, syntax, notation, axiom, sorry.
-/
import Derived.Test.YtbnnccnicfddlaaGreatDoorRows
import GoSem.ClaimSeven
namespace Go.Proofs.YtbnnccnicfddlaaGreatDoor
namespace Rows

/-- THE TIED CARD OF 'kingpostlaw58.ChangeTexts'. -/
def changeTextsCard : Claim7 := { stood := { row := changeTextsRow, standIns := [], harness := (true, "ee9b8f7da8731eb2534a3be539d1fc678c76ad986c5d3dc6c8414f736603d060"), looks := true }, kinds := [], alts := [], laidByText := true, laidKinds := [.data, .data, .data, .data, .sentinel, .sentinel, .widerDeep, .pinned], laidTests := true, laidLooks := .later }
def ChangeTextsCardSaid : Prop := Claim7.holds Tryz.pinned (.plain (OpenSpec.ofChange changeTextsSpec)) changeTextsCard

/-- THE SECOND FORM's CARD OF 'kingpostlaw58.ChangeTexts'. -/
def changeTextsUptoCard : Claim7 := { stood := { row := changeTextsUptoRow, standIns := [], harness := (true, "ee9b8f7da8731eb2534a3be539d1fc678c76ad986c5d3dc6c8414f736603d060"), looks := true }, kinds := [], alts := [], laidByText := true, laidKinds := [.data, .data, .data, .data, .sentinel, .sentinel, .widerDeep, .pinned], laidTests := true, laidLooks := .later }
def ChangeTextsUptoCardSaid : Prop := Claim7.holds Tryz.pinned (.plain (OpenSpec.upto changeTextsSpec)) changeTextsUptoCard
end Rows
end Go.Proofs.YtbnnccnicfddlaaGreatDoor
