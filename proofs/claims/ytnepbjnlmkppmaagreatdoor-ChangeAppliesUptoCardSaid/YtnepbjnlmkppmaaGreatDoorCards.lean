/-
  DERIVED. GIVEN WITH THE SEED: THE CARDS: each row of YtnepbjnlmkppmaaGreatDoorRows.lean that lists a variable, with what it lists TIED to the program's text (the seventh form; the later family's looks); each row that meets fmt, with fmt's text TOLD by the authors' own Lean function (tested against real Go, not proved from fmt's source: count such statements apart). THE CARD IS WHAT COUNTS. Prove the row's statement (the work); the ties are given (YtnepbjnlmkppmaaGreatDoorTie.lean); close each card by the builder's one call (the guide's Derived/Test/ToyasCard.lean, 'card_holds'). Laid BY PROGRAM, IN A SANDBOX (cutbox-door.mjs). By AI agents, Wed Nov 11 2026. No macro, syntax, notation, axiom, sorry.
-/
import Derived.Test.YtnepbjnlmkppmaaGreatDoorRows
import GoSem.ClaimSeven
namespace Go.Proofs.YtnepbjnlmkppmaaGreatDoor
namespace Rows

/-- THE TIED CARD OF 'kingpostlaw58.ChangeApplies'. -/
def changeAppliesCard : Claim7 := { stood := { row := changeAppliesRow, standIns := [], harness := (true, "89b1f84679449eaa0539b3911d7ee17bbfdc14449bdcf049c7396371205225b7"), looks := true }, kinds := [], alts := [], laidByText := true, laidKinds := [.data, .data, .data, .data, .sentinel, .sentinel, .widerDeep, .pinned], laidTests := true, laidLooks := .later }
def ChangeAppliesCardSaid : Prop := Claim7.holds Tryz.pinned (.plain (OpenSpec.ofChange changeAppliesSpec)) changeAppliesCard

/-- THE SECOND FORM's CARD OF 'kingpostlaw58.ChangeApplies'. -/
def changeAppliesUptoCard : Claim7 := { stood := { row := changeAppliesUptoRow, standIns := [], harness := (true, "89b1f84679449eaa0539b3911d7ee17bbfdc14449bdcf049c7396371205225b7"), looks := true }, kinds := [], alts := [], laidByText := true, laidKinds := [.data, .data, .data, .data, .sentinel, .sentinel, .widerDeep, .pinned], laidTests := true, laidLooks := .later }
def ChangeAppliesUptoCardSaid : Prop := Claim7.holds Tryz.pinned (.plain (OpenSpec.upto changeAppliesSpec)) changeAppliesUptoCard
end Rows
end Go.Proofs.YtnepbjnlmkppmaaGreatDoor
