/-
  DERIVED. GIVEN WITH THE SEED: THE CARDS: each row of YtdmfcbmibjojpaaGreatDoorRows.lean that lists a variable, with what it lists TIED to the program's text (the seventh form; the later family's looks); each row that meets fmt, with fmt's text TOLD by the authors' own Lean function (tested against real Go, not proved from fmt's source: count such statements apart). THE CARD IS WHAT COUNTS. Prove the row's statement (the work); the ties are given (YtdmfcbmibjojpaaGreatDoorTie.lean); close each card by the builder's one call (the guide's Derived/Test/ToyasCard.lean, 'card_holds'). Laid BY PROGRAM, IN A SANDBOX (cutbox-door.mjs). By AI agents, Wed Nov 11 2026. No macro, syntax, notation, axiom, sorry.
-/
import Derived.Test.YtdmfcbmibjojpaaGreatDoorRows
import GoSem.ClaimSeven
namespace Go.Proofs.YtdmfcbmibjojpaaGreatDoor
namespace Rows

/-- THE TIED CARD OF 'lychgatelaw20.LiveNew'. -/
def liveNewCard : Claim7 := { stood := { row := liveNewRow, standIns := [], harness := (true, "e4d9b184d3631fad63bfbef217cd0e65970d8c8401f5d28ee31042b67af7e682"), looks := true }, kinds := [], alts := [], laidByText := true, laidKinds := [.data, .data, .data, .sentinel, .sentinel], laidTests := true, laidLooks := .later }
def LiveNewCardSaid : Prop := Claim7.holds Tryz.pinned (.plain (OpenSpec.ofChange liveNewSpec)) liveNewCard

/-- THE SECOND FORM's CARD OF 'lychgatelaw20.LiveNew'. -/
def liveNewUptoCard : Claim7 := { stood := { row := liveNewUptoRow, standIns := [], harness := (true, "e4d9b184d3631fad63bfbef217cd0e65970d8c8401f5d28ee31042b67af7e682"), looks := true }, kinds := [], alts := [], laidByText := true, laidKinds := [.data, .data, .data, .sentinel, .sentinel], laidTests := true, laidLooks := .later }
def LiveNewUptoCardSaid : Prop := Claim7.holds Tryz.pinned (.plain (OpenSpec.upto liveNewSpec)) liveNewUptoCard
end Rows
end Go.Proofs.YtdmfcbmibjojpaaGreatDoor
