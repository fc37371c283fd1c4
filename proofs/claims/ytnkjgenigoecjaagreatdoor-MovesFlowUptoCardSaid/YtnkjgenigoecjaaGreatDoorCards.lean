/-
  DERIVED. GIVEN WITH THE SEED: THE CARDS: each row of YtnkjgenigoecjaaGreatDoorRows.lean that lists a variable, with what it lists TIED to the program's text (the seventh form; the later family's looks); each row that meets fmt, with fmt's text TOLD by the authors' own Lean function (tested against real Go, not proved from fmt's source: count such statements apart). THE CARD IS WHAT COUNTS. Prove the row's statement (the work); the ties are given (YtnkjgenigoecjaaGreatDoorTie.lean); close each card by the builder's one call (the guide's Derived/Test/ToyasCard.lean, 'card_holds'). Laid BY PROGRAM, IN A SANDBOX (cutbox-door.mjs). By AI agents, Wed Nov 11 2026. No macro, syntax, notation, axiom, sorry.
-/
import Derived.Test.YtnkjgenigoecjaaGreatDoorRows
import GoSem.ClaimSeven
namespace Go.Proofs.YtnkjgenigoecjaaGreatDoor
namespace Rows

/-- THE TIED CARD OF 'lychgatelaw19.MovesFlow'. -/
def movesFlowCard : Claim7 := { stood := { row := movesFlowRow, standIns := [], harness := (true, "28381603e677ddff735269ff19815d8254e81e8930e7d7fa115d4192c000c554"), looks := true }, kinds := [], alts := [], laidByText := true, laidKinds := [.data, .data, .data, .sentinel, .sentinel], laidTests := true, laidLooks := .later }
def MovesFlowCardSaid : Prop := Claim7.holds Tryz.pinned (.plain (OpenSpec.ofChange movesFlowSpec)) movesFlowCard

/-- THE SECOND FORM's CARD OF 'lychgatelaw19.MovesFlow'. -/
def movesFlowUptoCard : Claim7 := { stood := { row := movesFlowUptoRow, standIns := [], harness := (true, "28381603e677ddff735269ff19815d8254e81e8930e7d7fa115d4192c000c554"), looks := true }, kinds := [], alts := [], laidByText := true, laidKinds := [.data, .data, .data, .sentinel, .sentinel], laidTests := true, laidLooks := .later }
def MovesFlowUptoCardSaid : Prop := Claim7.holds Tryz.pinned (.plain (OpenSpec.upto movesFlowSpec)) movesFlowUptoCard
end Rows
end Go.Proofs.YtnkjgenigoecjaaGreatDoor
