/-
  DERIVED. GIVEN WITH THE SEED: THE CARDS: each row of YteelgjcnkhmigaaGreatDoorRows.lean that lists a variable, with what it lists TIED to the program's text (the seventh form; the later family's looks); each row that meets fmt, with fmt's text TOLD by the authors' own Lean function (tested against real Go, not proved from fmt's source: count such statements apart). THE CARD IS WHAT COUNTS. Prove the row's statement (the work); the ties are given (YteelgjcnkhmigaaGreatDoorTie.lean); close each card by the builder's one call (the guide's Derived/Test/ToyasCard.lean, 'card_holds'). Laid BY PROGRAM, IN A SANDBOX (cutbox-door.mjs). By AI agents, Wed Nov 11 2026. No macro, syntax, notation, axiom, sorry.
-/
import Derived.Test.YteelgjcnkhmigaaGreatDoorRows
import GoSem.ClaimSeven
namespace Go.Proofs.YteelgjcnkhmigaaGreatDoor
namespace Rows

/-- THE TIED CARD OF 'paternostertop.TopPhases'. -/
def topPhasesCard : Claim7 := { stood := { row := topPhasesRow, standIns := [], harness := (true, "7e05f1e002e4a07ff51b471aed4690dc07bebdfe1e59c6035cbeeddad200dfe4"), looks := false }, kinds := [], alts := [], laidByText := true, laidKinds := [.data, .data, .data], laidTests := true, laidLooks := .later }
def TopPhasesCardSaid : Prop := Claim7.holds Tryz.pinned (.plain (OpenSpec.ofChange topPhasesSpec)) topPhasesCard

/-- THE TIED CARD OF 'paternostertop.TopDoors'. -/
def topDoorsCard : Claim7 := { stood := { row := topDoorsRow, standIns := [], harness := (true, "7e05f1e002e4a07ff51b471aed4690dc07bebdfe1e59c6035cbeeddad200dfe4"), looks := false }, kinds := [], alts := [], laidByText := true, laidKinds := [.data, .data, .data], laidTests := true, laidLooks := .later }
def TopDoorsCardSaid : Prop := Claim7.holds Tryz.pinned (.plain (OpenSpec.ofChange topDoorsSpec)) topDoorsCard

/-- THE TIED CARD OF 'paternostertop.TopCutOff'. -/
def topCutOffCard : Claim7 := { stood := { row := topCutOffRow, standIns := [], harness := (true, "7e05f1e002e4a07ff51b471aed4690dc07bebdfe1e59c6035cbeeddad200dfe4"), looks := false }, kinds := [], alts := [], laidByText := true, laidKinds := [.data, .data, .data], laidTests := true, laidLooks := .later }
def TopCutOffCardSaid : Prop := Claim7.holds Tryz.pinned (.plain (OpenSpec.ofChange topCutOffSpec)) topCutOffCard

/-- THE SECOND FORM's CARD OF 'paternostertop.TopPhases'. -/
def topPhasesUptoCard : Claim7 := { stood := { row := topPhasesUptoRow, standIns := [], harness := (true, "7e05f1e002e4a07ff51b471aed4690dc07bebdfe1e59c6035cbeeddad200dfe4"), looks := false }, kinds := [], alts := [], laidByText := true, laidKinds := [.data, .data, .data], laidTests := true, laidLooks := .later }
def TopPhasesUptoCardSaid : Prop := Claim7.holds Tryz.pinned (.plain (OpenSpec.upto topPhasesSpec)) topPhasesUptoCard

/-- THE SECOND FORM's CARD OF 'paternostertop.TopDoors'. -/
def topDoorsUptoCard : Claim7 := { stood := { row := topDoorsUptoRow, standIns := [], harness := (true, "7e05f1e002e4a07ff51b471aed4690dc07bebdfe1e59c6035cbeeddad200dfe4"), looks := false }, kinds := [], alts := [], laidByText := true, laidKinds := [.data, .data, .data], laidTests := true, laidLooks := .later }
def TopDoorsUptoCardSaid : Prop := Claim7.holds Tryz.pinned (.plain (OpenSpec.upto topDoorsSpec)) topDoorsUptoCard

/-- THE SECOND FORM's CARD OF 'paternostertop.TopCutOff'. -/
def topCutOffUptoCard : Claim7 := { stood := { row := topCutOffUptoRow, standIns := [], harness := (true, "7e05f1e002e4a07ff51b471aed4690dc07bebdfe1e59c6035cbeeddad200dfe4"), looks := false }, kinds := [], alts := [], laidByText := true, laidKinds := [.data, .data, .data], laidTests := true, laidLooks := .later }
def TopCutOffUptoCardSaid : Prop := Claim7.holds Tryz.pinned (.plain (OpenSpec.upto topCutOffSpec)) topCutOffUptoCard
end Rows
end Go.Proofs.YteelgjcnkhmigaaGreatDoor
