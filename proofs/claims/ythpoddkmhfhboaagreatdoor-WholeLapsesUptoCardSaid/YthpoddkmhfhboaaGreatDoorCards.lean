/-
  DERIVED. GIVEN WITH THE SEED: THE CARDS: each row of YthpoddkmhfhboaaGreatDoorRows.lean that lists a variable, with what it lists TIED to the program's text (the seventh form; the later family's looks); each row that meets fmt, with fmt's text TOLD by the authors' own Lean function (tested against real Go, not proved from fmt's source: count such statements apart). THE CARD IS WHAT COUNTS. Prove the row's statement (the work); the ties are given (YthpoddkmhfhboaaGreatDoorTie.lean); close each card by the builder's one call (the guide's Derived/Test/ToyasCard.lean, 'card_holds'). Laid BY PROGRAM, IN A SANDBOX (cutbox-door.mjs). By AI agents, Wed Nov 11 2026. No macro, syntax, notation, axiom, sorry.
-/
import Derived.Test.YthpoddkmhfhboaaGreatDoorRows
import GoSem.ClaimSeven
namespace Go.Proofs.YthpoddkmhfhboaaGreatDoor
namespace Rows

/-- THE TIED CARD OF 'scuppertop.WholeLapses'. -/
def wholeLapsesCard : Claim7 := { stood := { row := wholeLapsesRow, standIns := [], harness := (true, "1b193dc30bb2e210f30f11e3691bdeec0cf1bc6deca4bb0bc24bad9bc26c88c5"), looks := true }, kinds := [], alts := [], laidByText := true, laidKinds := [.pinned, .data, .sentinel, .sentinel, .data, .data, .data], laidTests := true, laidLooks := .later }
def WholeLapsesCardSaid : Prop := Claim7.holds Tryz.pinned (.plain (OpenSpec.ofChange wholeLapsesSpec)) wholeLapsesCard

/-- THE TIED CARD OF 'scuppertop.WholeLearns'. -/
def wholeLearnsCard : Claim7 := { stood := { row := wholeLearnsRow, standIns := [], harness := (true, "1b193dc30bb2e210f30f11e3691bdeec0cf1bc6deca4bb0bc24bad9bc26c88c5"), looks := true }, kinds := [], alts := [], laidByText := true, laidKinds := [.pinned, .data, .sentinel, .sentinel, .data, .data, .data], laidTests := true, laidLooks := .later }
def WholeLearnsCardSaid : Prop := Claim7.holds Tryz.pinned (.plain (OpenSpec.ofChange wholeLearnsSpec)) wholeLearnsCard

/-- THE SECOND FORM's CARD OF 'scuppertop.WholeLapses'. -/
def wholeLapsesUptoCard : Claim7 := { stood := { row := wholeLapsesUptoRow, standIns := [], harness := (true, "1b193dc30bb2e210f30f11e3691bdeec0cf1bc6deca4bb0bc24bad9bc26c88c5"), looks := true }, kinds := [], alts := [], laidByText := true, laidKinds := [.pinned, .data, .sentinel, .sentinel, .data, .data, .data], laidTests := true, laidLooks := .later }
def WholeLapsesUptoCardSaid : Prop := Claim7.holds Tryz.pinned (.plain (OpenSpec.upto wholeLapsesSpec)) wholeLapsesUptoCard

/-- THE SECOND FORM's CARD OF 'scuppertop.WholeLearns'. -/
def wholeLearnsUptoCard : Claim7 := { stood := { row := wholeLearnsUptoRow, standIns := [], harness := (true, "1b193dc30bb2e210f30f11e3691bdeec0cf1bc6deca4bb0bc24bad9bc26c88c5"), looks := true }, kinds := [], alts := [], laidByText := true, laidKinds := [.pinned, .data, .sentinel, .sentinel, .data, .data, .data], laidTests := true, laidLooks := .later }
def WholeLearnsUptoCardSaid : Prop := Claim7.holds Tryz.pinned (.plain (OpenSpec.upto wholeLearnsSpec)) wholeLearnsUptoCard
end Rows
end Go.Proofs.YthpoddkmhfhboaaGreatDoor
