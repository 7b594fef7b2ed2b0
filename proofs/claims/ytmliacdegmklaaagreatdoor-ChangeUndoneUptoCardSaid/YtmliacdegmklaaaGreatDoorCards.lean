/-
  DERIVED. GIVEN WITH THE SEED: THE CARDS: each row of YtmliacdegmklaaaGreatDoorRows.lean that lists a variable, with what it lists TIED to the program's text (the seventh form; the later family's looks); each row that meets fmt, with fmt's text TOLD by the authors' own Lean function (tested against real Go, not proved from fmt's source: count such statements apart). THE CARD IS WHAT COUNTS. Prove the row's statement (the work); the ties are given (YtmliacdegmklaaaGreatDoorTie.lean); close each card by the builder's one call (the guide's Derived/Test/ToyasCard.lean, 'card_holds'). Laid BY PROGRAM, IN A SANDBOX (cutbox-door.mjs). By AI agents, Wed Nov 11 2026. No macro, syntax, notation, axiom, sorry.
-/
import Derived.Test.YtmliacdegmklaaaGreatDoorRows
import GoSem.ClaimSeven
namespace Go.Proofs.YtmliacdegmklaaaGreatDoor
namespace Rows

/-- THE TIED CARD OF 'kingpostlaw58.ChangeReplays'. -/
def changeReplaysCard : Claim7 := { stood := { row := changeReplaysRow, standIns := [], harness := (true, "53ab9a819459640cd40dab66a179b55a6c73e99f16544980e1d7eef139e2e2f4"), looks := true }, kinds := [], alts := [], laidByText := true, laidKinds := [.data, .data, .data, .data, .sentinel, .sentinel, .widerDeep, .pinned], laidTests := true, laidLooks := .later }
def ChangeReplaysCardSaid : Prop := Claim7.holds Tryz.pinned (.plain (OpenSpec.ofChange changeReplaysSpec)) changeReplaysCard

/-- THE TIED CARD OF 'kingpostlaw58.ChangeOrder'. -/
def changeOrderCard : Claim7 := { stood := { row := changeOrderRow, standIns := [], harness := (true, "53ab9a819459640cd40dab66a179b55a6c73e99f16544980e1d7eef139e2e2f4"), looks := true }, kinds := [], alts := [], laidByText := true, laidKinds := [.data, .data, .data, .data, .sentinel, .sentinel, .widerDeep, .pinned], laidTests := true, laidLooks := .later }
def ChangeOrderCardSaid : Prop := Claim7.holds Tryz.pinned (.plain (OpenSpec.ofChange changeOrderSpec)) changeOrderCard

/-- THE TIED CARD OF 'kingpostlaw58.ChangeUndone'. -/
def changeUndoneCard : Claim7 := { stood := { row := changeUndoneRow, standIns := [], harness := (true, "53ab9a819459640cd40dab66a179b55a6c73e99f16544980e1d7eef139e2e2f4"), looks := true }, kinds := [], alts := [], laidByText := true, laidKinds := [.data, .data, .data, .data, .sentinel, .sentinel, .widerDeep, .pinned], laidTests := true, laidLooks := .later }
def ChangeUndoneCardSaid : Prop := Claim7.holds Tryz.pinned (.plain (OpenSpec.ofChange changeUndoneSpec)) changeUndoneCard

/-- THE SECOND FORM's CARD OF 'kingpostlaw58.ChangeReplays'. -/
def changeReplaysUptoCard : Claim7 := { stood := { row := changeReplaysUptoRow, standIns := [], harness := (true, "53ab9a819459640cd40dab66a179b55a6c73e99f16544980e1d7eef139e2e2f4"), looks := true }, kinds := [], alts := [], laidByText := true, laidKinds := [.data, .data, .data, .data, .sentinel, .sentinel, .widerDeep, .pinned], laidTests := true, laidLooks := .later }
def ChangeReplaysUptoCardSaid : Prop := Claim7.holds Tryz.pinned (.plain (OpenSpec.upto changeReplaysSpec)) changeReplaysUptoCard

/-- THE SECOND FORM's CARD OF 'kingpostlaw58.ChangeOrder'. -/
def changeOrderUptoCard : Claim7 := { stood := { row := changeOrderUptoRow, standIns := [], harness := (true, "53ab9a819459640cd40dab66a179b55a6c73e99f16544980e1d7eef139e2e2f4"), looks := true }, kinds := [], alts := [], laidByText := true, laidKinds := [.data, .data, .data, .data, .sentinel, .sentinel, .widerDeep, .pinned], laidTests := true, laidLooks := .later }
def ChangeOrderUptoCardSaid : Prop := Claim7.holds Tryz.pinned (.plain (OpenSpec.upto changeOrderSpec)) changeOrderUptoCard

/-- THE SECOND FORM's CARD OF 'kingpostlaw58.ChangeUndone'. -/
def changeUndoneUptoCard : Claim7 := { stood := { row := changeUndoneUptoRow, standIns := [], harness := (true, "53ab9a819459640cd40dab66a179b55a6c73e99f16544980e1d7eef139e2e2f4"), looks := true }, kinds := [], alts := [], laidByText := true, laidKinds := [.data, .data, .data, .data, .sentinel, .sentinel, .widerDeep, .pinned], laidTests := true, laidLooks := .later }
def ChangeUndoneUptoCardSaid : Prop := Claim7.holds Tryz.pinned (.plain (OpenSpec.upto changeUndoneSpec)) changeUndoneUptoCard
end Rows
end Go.Proofs.YtmliacdegmklaaaGreatDoor
