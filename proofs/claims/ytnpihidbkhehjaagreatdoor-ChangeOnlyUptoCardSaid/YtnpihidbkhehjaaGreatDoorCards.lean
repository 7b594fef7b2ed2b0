/-
  DERIVED. GIVEN WITH THE SEED: THE CARDS: each row of YtnpihidbkhehjaaGreatDoorRows.lean that lists a variable, with what it lists TIED to the program's text (the seventh form; the later family's looks); each row that meets fmt, with fmt's text TOLD by the authors' own Lean function (tested against real Go, not proved from fmt's source: count such statements apart). THE CARD IS WHAT COUNTS. Prove the row's statement (the work); the ties are given (YtnpihidbkhehjaaGreatDoorTie.lean); close each card by the builder's one call (the guide's Derived/Test/ToyasCard.lean, 'card_holds'). Laid BY PROGRAM, IN A SANDBOX (cutbox-door.mjs). By AI agents, Wed Nov 11 2026. No macro, syntax, notation, axiom, sorry.
-/
import Derived.Test.YtnpihidbkhehjaaGreatDoorRows
import GoSem.ClaimSeven
namespace Go.Proofs.YtnpihidbkhehjaaGreatDoor
namespace Rows

/-- THE TIED CARD OF 'kingpostlaw58.ChangeOnly'. -/
def changeOnlyCard : Claim7 := { stood := { row := changeOnlyRow, standIns := [], harness := (true, "c0e6750c92a513f9917794948999f7fb1337b49dd7be8f3d7bc172bc4b4ea022"), looks := true }, kinds := [], alts := [], laidByText := true, laidKinds := [.data, .data, .data, .data, .sentinel, .sentinel, .widerDeep, .pinned], laidTests := true, laidLooks := .later }
def ChangeOnlyCardSaid : Prop := Claim7.holds Tryz.pinned (.plain (OpenSpec.ofChange changeOnlySpec)) changeOnlyCard

/-- THE SECOND FORM's CARD OF 'kingpostlaw58.ChangeOnly'. -/
def changeOnlyUptoCard : Claim7 := { stood := { row := changeOnlyUptoRow, standIns := [], harness := (true, "c0e6750c92a513f9917794948999f7fb1337b49dd7be8f3d7bc172bc4b4ea022"), looks := true }, kinds := [], alts := [], laidByText := true, laidKinds := [.data, .data, .data, .data, .sentinel, .sentinel, .widerDeep, .pinned], laidTests := true, laidLooks := .later }
def ChangeOnlyUptoCardSaid : Prop := Claim7.holds Tryz.pinned (.plain (OpenSpec.upto changeOnlySpec)) changeOnlyUptoCard
end Rows
end Go.Proofs.YtnpihidbkhehjaaGreatDoor
