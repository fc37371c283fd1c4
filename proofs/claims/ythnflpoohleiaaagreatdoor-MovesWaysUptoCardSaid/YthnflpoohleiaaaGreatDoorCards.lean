/-
  DERIVED. GIVEN WITH THE SEED: THE CARDS: each row of YthnflpoohleiaaaGreatDoorRows.lean that lists a variable, with what it lists TIED to the program's text (the seventh form; the later family's looks); each row that meets fmt, with fmt's text TOLD by the authors' own Lean function (tested against real Go, not proved from fmt's source: count such statements apart). THE CARD IS WHAT COUNTS. Prove the row's statement (the work); the ties are given (YthnflpoohleiaaaGreatDoorTie.lean); close each card by the builder's one call (the guide's Derived/Test/ToyasCard.lean, 'card_holds'). Laid BY PROGRAM, IN A SANDBOX (cutbox-door.mjs). By AI agents, Wed Nov 11 2026. No macro, syntax, notation, axiom, sorry.
-/
import Derived.Test.YthnflpoohleiaaaGreatDoorRows
import GoSem.ClaimSeven
namespace Go.Proofs.YthnflpoohleiaaaGreatDoor
namespace Rows

/-- THE TIED CARD OF 'lychgatelaw19.MovesWays'. -/
def movesWaysCard : Claim7 := { stood := { row := movesWaysRow, standIns := [], harness := (true, "3f023fecc53ba9970de9816d63b2f8a86ef9a3e136428c32c047df0b52ea6d01"), looks := true }, kinds := [], alts := [], laidByText := true, laidKinds := [.data, .data, .data, .sentinel, .sentinel], laidTests := true, laidLooks := .later }
def MovesWaysCardSaid : Prop := Claim7.holds Tryz.pinned (.plain (OpenSpec.ofChange movesWaysSpec)) movesWaysCard

/-- THE SECOND FORM's CARD OF 'lychgatelaw19.MovesWays'. -/
def movesWaysUptoCard : Claim7 := { stood := { row := movesWaysUptoRow, standIns := [], harness := (true, "3f023fecc53ba9970de9816d63b2f8a86ef9a3e136428c32c047df0b52ea6d01"), looks := true }, kinds := [], alts := [], laidByText := true, laidKinds := [.data, .data, .data, .sentinel, .sentinel], laidTests := true, laidLooks := .later }
def MovesWaysUptoCardSaid : Prop := Claim7.holds Tryz.pinned (.plain (OpenSpec.upto movesWaysSpec)) movesWaysUptoCard
end Rows
end Go.Proofs.YthnflpoohleiaaaGreatDoor
