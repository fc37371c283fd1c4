/-
  DERIVED. GIVEN WITH THE SEED: THE CARDS: each row of YtlhommikjhhmbaaGreatDoorRows.lean that lists a variable, with what it lists TIED to the program's text (the seventh form; the later family's looks); each row that meets fmt, with fmt's text TOLD by the authors' own Lean function (tested against real Go, not proved from fmt's source: count such statements apart). THE CARD IS WHAT COUNTS. Prove the row's statement (the work); the ties are given (YtlhommikjhhmbaaGreatDoorTie.lean); close each card by the builder's one call (the guide's Derived/Test/ToyasCard.lean, 'card_holds'). Laid BY PROGRAM, IN A SANDBOX (cutbox-door.mjs). By AI agents, Wed Nov 11 2026. No macro, syntax, notation, axiom, sorry.
-/
import Derived.Test.YtlhommikjhhmbaaGreatDoorRows
import GoSem.ClaimSeven
namespace Go.Proofs.YtlhommikjhhmbaaGreatDoor
namespace Rows

/-- THE TIED CARD OF 'lychgatelaw20.LiveFirst'. -/
def liveFirstCard : Claim7 := { stood := { row := liveFirstRow, standIns := [], harness := (true, "421f8499cd0e864cd7542a8a0ee70f5f68c08da6b8a59371e9577581f535c731"), looks := true }, kinds := [], alts := [], laidByText := true, laidKinds := [.data, .data, .data, .sentinel, .sentinel], laidTests := true, laidLooks := .later }
def LiveFirstCardSaid : Prop := Claim7.holds Tryz.pinned (.plain (OpenSpec.ofChange liveFirstSpec)) liveFirstCard

/-- THE SECOND FORM's CARD OF 'lychgatelaw20.LiveFirst'. -/
def liveFirstUptoCard : Claim7 := { stood := { row := liveFirstUptoRow, standIns := [], harness := (true, "421f8499cd0e864cd7542a8a0ee70f5f68c08da6b8a59371e9577581f535c731"), looks := true }, kinds := [], alts := [], laidByText := true, laidKinds := [.data, .data, .data, .sentinel, .sentinel], laidTests := true, laidLooks := .later }
def LiveFirstUptoCardSaid : Prop := Claim7.holds Tryz.pinned (.plain (OpenSpec.upto liveFirstSpec)) liveFirstUptoCard
end Rows
end Go.Proofs.YtlhommikjhhmbaaGreatDoor
