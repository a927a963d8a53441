/-
  DERIVED. GIVEN WITH THE SEED: THE CARDS: each row of YtandhagfhppgaaaGreatDoorRows.lean that lists a variable, with what it lists TIED to the program's text (the seventh form; the later family's looks); each row that meets fmt, with fmt's text TOLD by the authors' own Lean function (tested against real Go, not proved from fmt's source: count such statements apart). THE CARD IS WHAT COUNTS. Prove the row's statement (the work); the ties are given (YtandhagfhppgaaaGreatDoorTie.lean); close each card by the builder's one call (the guide's Derived/Test/ToyasCard.lean, 'card_holds'). Laid BY PROGRAM, IN A SANDBOX (cutbox-door.mjs). By AI agents, Wed Nov 11 2026. No macro, syntax, notation, axiom, sorry.
-/
import Derived.Test.YtandhagfhppgaaaGreatDoorRows
import GoSem.ClaimSeven
namespace Go.Proofs.YtandhagfhppgaaaGreatDoor
namespace Rows

/-- THE TIED CARD OF 'gangertop.TopCharges'. -/
def topChargesCard : Claim7 := { stood := { row := topChargesRow, standIns := [], harness := (true, "a9414e422898caab89ed97ee7844babe24d4d94e6468459f9858390815273d3f"), looks := true }, kinds := [], alts := [], laidByText := true, laidKinds := [.data, .data, .data, .data, .pinned], laidTests := true, laidLooks := .later }
def TopChargesCardSaid : Prop := Claim7.holds Tryz.pinned (.plain (OpenSpec.ofChange topChargesSpec)) topChargesCard

/-- THE TIED CARD OF 'gangertop.TopSubmits'. -/
def topSubmitsCard : Claim7 := { stood := { row := topSubmitsRow, standIns := [], harness := (true, "a9414e422898caab89ed97ee7844babe24d4d94e6468459f9858390815273d3f"), looks := true }, kinds := [], alts := [], laidByText := true, laidKinds := [.data, .data, .data, .data, .pinned], laidTests := true, laidLooks := .later }
def TopSubmitsCardSaid : Prop := Claim7.holds Tryz.pinned (.plain (OpenSpec.ofChange topSubmitsSpec)) topSubmitsCard

/-- THE SECOND FORM's CARD OF 'gangertop.TopCharges'. -/
def topChargesUptoCard : Claim7 := { stood := { row := topChargesUptoRow, standIns := [], harness := (true, "a9414e422898caab89ed97ee7844babe24d4d94e6468459f9858390815273d3f"), looks := true }, kinds := [], alts := [], laidByText := true, laidKinds := [.data, .data, .data, .data, .pinned], laidTests := true, laidLooks := .later }
def TopChargesUptoCardSaid : Prop := Claim7.holds Tryz.pinned (.plain (OpenSpec.upto topChargesSpec)) topChargesUptoCard

/-- THE SECOND FORM's CARD OF 'gangertop.TopSubmits'. -/
def topSubmitsUptoCard : Claim7 := { stood := { row := topSubmitsUptoRow, standIns := [], harness := (true, "a9414e422898caab89ed97ee7844babe24d4d94e6468459f9858390815273d3f"), looks := true }, kinds := [], alts := [], laidByText := true, laidKinds := [.data, .data, .data, .data, .pinned], laidTests := true, laidLooks := .later }
def TopSubmitsUptoCardSaid : Prop := Claim7.holds Tryz.pinned (.plain (OpenSpec.upto topSubmitsSpec)) topSubmitsUptoCard
end Rows
end Go.Proofs.YtandhagfhppgaaaGreatDoor
