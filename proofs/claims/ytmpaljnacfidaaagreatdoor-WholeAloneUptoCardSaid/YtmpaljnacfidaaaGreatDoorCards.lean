/-
  DERIVED. GIVEN WITH THE SEED: THE CARDS: each row of YtmpaljnacfidaaaGreatDoorRows.lean that lists a variable, with what it lists TIED to the program's text (the seventh form; the later family's looks); each row that meets fmt, with fmt's text TOLD by the authors' own Lean function (tested against real Go, not proved from fmt's source: count such statements apart). THE CARD IS WHAT COUNTS. Prove the row's statement (the work); the ties are given (YtmpaljnacfidaaaGreatDoorTie.lean); close each card by the builder's one call (the guide's Derived/Test/ToyasCard.lean, 'card_holds'). Laid BY PROGRAM, IN A SANDBOX (cutbox-door.mjs). By AI agents, Wed Nov 11 2026. No macro, syntax, notation, axiom, sorry.
-/
import Derived.Test.YtmpaljnacfidaaaGreatDoorRows
import GoSem.ClaimSeven
namespace Go.Proofs.YtmpaljnacfidaaaGreatDoor
namespace Rows

/-- THE TIED CARD OF 'scuppertop.WholeAlone'. -/
def wholeAloneCard : Claim7 := { stood := { row := wholeAloneRow, standIns := [], harness := (true, "266624818acdf29cb503ccd4b35087b57a322435bf6814ffe6d8f2b1e4a1722c"), looks := true }, kinds := [], alts := [], laidByText := true, laidKinds := [.pinned, .data, .sentinel, .sentinel, .data, .data, .data], laidTests := true, laidLooks := .later }
def WholeAloneCardSaid : Prop := Claim7.holds Tryz.pinned (.plain (OpenSpec.ofChange wholeAloneSpec)) wholeAloneCard

/-- THE TIED CARD OF 'scuppertop.WholeLapses'. -/
def wholeLapsesCard : Claim7 := { stood := { row := wholeLapsesRow, standIns := [], harness := (true, "266624818acdf29cb503ccd4b35087b57a322435bf6814ffe6d8f2b1e4a1722c"), looks := true }, kinds := [], alts := [], laidByText := true, laidKinds := [.pinned, .data, .sentinel, .sentinel, .data, .data, .data], laidTests := true, laidLooks := .later }
def WholeLapsesCardSaid : Prop := Claim7.holds Tryz.pinned (.plain (OpenSpec.ofChange wholeLapsesSpec)) wholeLapsesCard

/-- THE TIED CARD OF 'scuppertop.WholeLearns'. -/
def wholeLearnsCard : Claim7 := { stood := { row := wholeLearnsRow, standIns := [], harness := (true, "266624818acdf29cb503ccd4b35087b57a322435bf6814ffe6d8f2b1e4a1722c"), looks := true }, kinds := [], alts := [], laidByText := true, laidKinds := [.pinned, .data, .sentinel, .sentinel, .data, .data, .data], laidTests := true, laidLooks := .later }
def WholeLearnsCardSaid : Prop := Claim7.holds Tryz.pinned (.plain (OpenSpec.ofChange wholeLearnsSpec)) wholeLearnsCard

/-- THE SECOND FORM's CARD OF 'scuppertop.WholeAlone'. -/
def wholeAloneUptoCard : Claim7 := { stood := { row := wholeAloneUptoRow, standIns := [], harness := (true, "266624818acdf29cb503ccd4b35087b57a322435bf6814ffe6d8f2b1e4a1722c"), looks := true }, kinds := [], alts := [], laidByText := true, laidKinds := [.pinned, .data, .sentinel, .sentinel, .data, .data, .data], laidTests := true, laidLooks := .later }
def WholeAloneUptoCardSaid : Prop := Claim7.holds Tryz.pinned (.plain (OpenSpec.upto wholeAloneSpec)) wholeAloneUptoCard

/-- THE SECOND FORM's CARD OF 'scuppertop.WholeLapses'. -/
def wholeLapsesUptoCard : Claim7 := { stood := { row := wholeLapsesUptoRow, standIns := [], harness := (true, "266624818acdf29cb503ccd4b35087b57a322435bf6814ffe6d8f2b1e4a1722c"), looks := true }, kinds := [], alts := [], laidByText := true, laidKinds := [.pinned, .data, .sentinel, .sentinel, .data, .data, .data], laidTests := true, laidLooks := .later }
def WholeLapsesUptoCardSaid : Prop := Claim7.holds Tryz.pinned (.plain (OpenSpec.upto wholeLapsesSpec)) wholeLapsesUptoCard

/-- THE SECOND FORM's CARD OF 'scuppertop.WholeLearns'. -/
def wholeLearnsUptoCard : Claim7 := { stood := { row := wholeLearnsUptoRow, standIns := [], harness := (true, "266624818acdf29cb503ccd4b35087b57a322435bf6814ffe6d8f2b1e4a1722c"), looks := true }, kinds := [], alts := [], laidByText := true, laidKinds := [.pinned, .data, .sentinel, .sentinel, .data, .data, .data], laidTests := true, laidLooks := .later }
def WholeLearnsUptoCardSaid : Prop := Claim7.holds Tryz.pinned (.plain (OpenSpec.upto wholeLearnsSpec)) wholeLearnsUptoCard
end Rows
end Go.Proofs.YtmpaljnacfidaaaGreatDoor
