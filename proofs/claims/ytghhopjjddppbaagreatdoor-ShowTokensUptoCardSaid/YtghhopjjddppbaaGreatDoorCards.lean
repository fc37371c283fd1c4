/-
  DERIVED. GIVEN WITH THE SEED: THE CARDS: each row of YtghhopjjddppbaaGreatDoorRows.lean that lists a variable, with what it lists TIED to the program's text (the seventh form; the later family's looks); each row that meets fmt, with fmt's text TOLD by the authors' own Lean function (tested against real Go, not proved from fmt's source: count such statements apart). THE CARD IS WHAT COUNTS. Prove the row's statement (the work); the ties are given (YtghhopjjddppbaaGreatDoorTie.lean); close each card by the builder's one call (the guide's Derived/Test/ToyasCard.lean, 'card_holds'). Laid BY PROGRAM, IN A SANDBOX (cutbox-door.mjs). By AI agents, Wed Nov 11 2026. No macro, syntax, notation, axiom, sorry.
-/
import Derived.Test.YtghhopjjddppbaaGreatDoorRows
import GoSem.ClaimSeven
namespace Go.Proofs.YtghhopjjddppbaaGreatDoor
namespace Rows

/-- THE TIED CARD OF 'lychgatelaw03.ShowShows'. -/
def showShowsCard : Claim7 := { stood := { row := showShowsRow, standIns := [], harness := (true, "d0d631ad0e83b13f291158ef87558295f27e28dd68e68afd0e0d5d6c86731452"), looks := true }, kinds := [], alts := [], laidByText := true, laidKinds := [.data, .data, .data, .sentinel, .sentinel], laidTests := true, laidLooks := .later }
def ShowShowsCardSaid : Prop := Claim7.holds Tryz.pinned (.plain (OpenSpec.ofChange showShowsSpec)) showShowsCard

/-- THE TIED CARD OF 'lychgatelaw03.ShowBack'. -/
def showBackCard : Claim7 := { stood := { row := showBackRow, standIns := [], harness := (true, "d0d631ad0e83b13f291158ef87558295f27e28dd68e68afd0e0d5d6c86731452"), looks := true }, kinds := [], alts := [], laidByText := true, laidKinds := [.data, .data, .data, .sentinel, .sentinel], laidTests := true, laidLooks := .later }
def ShowBackCardSaid : Prop := Claim7.holds Tryz.pinned (.plain (OpenSpec.ofChange showBackSpec)) showBackCard

/-- THE TIED CARD OF 'lychgatelaw03.ShowLines'. -/
def showLinesCard : Claim7 := { stood := { row := showLinesRow, standIns := [], harness := (true, "d0d631ad0e83b13f291158ef87558295f27e28dd68e68afd0e0d5d6c86731452"), looks := true }, kinds := [], alts := [], laidByText := true, laidKinds := [.data, .data, .data, .sentinel, .sentinel], laidTests := true, laidLooks := .later }
def ShowLinesCardSaid : Prop := Claim7.holds Tryz.pinned (.plain (OpenSpec.ofChange showLinesSpec)) showLinesCard

/-- THE TIED CARD OF 'lychgatelaw03.ShowWalk'. -/
def showWalkCard : Claim7 := { stood := { row := showWalkRow, standIns := [], harness := (true, "d0d631ad0e83b13f291158ef87558295f27e28dd68e68afd0e0d5d6c86731452"), looks := true }, kinds := [], alts := [], laidByText := true, laidKinds := [.data, .data, .data, .sentinel, .sentinel], laidTests := true, laidLooks := .later }
def ShowWalkCardSaid : Prop := Claim7.holds Tryz.pinned (.plain (OpenSpec.ofChange showWalkSpec)) showWalkCard

/-- THE TIED CARD OF 'lychgatelaw03.ShowTokens'. -/
def showTokensCard : Claim7 := { stood := { row := showTokensRow, standIns := [], harness := (true, "d0d631ad0e83b13f291158ef87558295f27e28dd68e68afd0e0d5d6c86731452"), looks := true }, kinds := [], alts := [], laidByText := true, laidKinds := [.data, .data, .data, .sentinel, .sentinel], laidTests := true, laidLooks := .later }
def ShowTokensCardSaid : Prop := Claim7.holds Tryz.pinned (.plain (OpenSpec.ofChange showTokensSpec)) showTokensCard

/-- THE TIED CARD OF 'lychgatelaw03.ShowWhole'. -/
def showWholeCard : Claim7 := { stood := { row := showWholeRow, standIns := [], harness := (true, "d0d631ad0e83b13f291158ef87558295f27e28dd68e68afd0e0d5d6c86731452"), looks := true }, kinds := [], alts := [], laidByText := true, laidKinds := [.data, .data, .data, .sentinel, .sentinel], laidTests := true, laidLooks := .later }
def ShowWholeCardSaid : Prop := Claim7.holds Tryz.pinned (.plain (OpenSpec.ofChange showWholeSpec)) showWholeCard

/-- THE SECOND FORM's CARD OF 'lychgatelaw03.ShowShows'. -/
def showShowsUptoCard : Claim7 := { stood := { row := showShowsUptoRow, standIns := [], harness := (true, "d0d631ad0e83b13f291158ef87558295f27e28dd68e68afd0e0d5d6c86731452"), looks := true }, kinds := [], alts := [], laidByText := true, laidKinds := [.data, .data, .data, .sentinel, .sentinel], laidTests := true, laidLooks := .later }
def ShowShowsUptoCardSaid : Prop := Claim7.holds Tryz.pinned (.plain (OpenSpec.upto showShowsSpec)) showShowsUptoCard

/-- THE SECOND FORM's CARD OF 'lychgatelaw03.ShowBack'. -/
def showBackUptoCard : Claim7 := { stood := { row := showBackUptoRow, standIns := [], harness := (true, "d0d631ad0e83b13f291158ef87558295f27e28dd68e68afd0e0d5d6c86731452"), looks := true }, kinds := [], alts := [], laidByText := true, laidKinds := [.data, .data, .data, .sentinel, .sentinel], laidTests := true, laidLooks := .later }
def ShowBackUptoCardSaid : Prop := Claim7.holds Tryz.pinned (.plain (OpenSpec.upto showBackSpec)) showBackUptoCard

/-- THE SECOND FORM's CARD OF 'lychgatelaw03.ShowLines'. -/
def showLinesUptoCard : Claim7 := { stood := { row := showLinesUptoRow, standIns := [], harness := (true, "d0d631ad0e83b13f291158ef87558295f27e28dd68e68afd0e0d5d6c86731452"), looks := true }, kinds := [], alts := [], laidByText := true, laidKinds := [.data, .data, .data, .sentinel, .sentinel], laidTests := true, laidLooks := .later }
def ShowLinesUptoCardSaid : Prop := Claim7.holds Tryz.pinned (.plain (OpenSpec.upto showLinesSpec)) showLinesUptoCard

/-- THE SECOND FORM's CARD OF 'lychgatelaw03.ShowWalk'. -/
def showWalkUptoCard : Claim7 := { stood := { row := showWalkUptoRow, standIns := [], harness := (true, "d0d631ad0e83b13f291158ef87558295f27e28dd68e68afd0e0d5d6c86731452"), looks := true }, kinds := [], alts := [], laidByText := true, laidKinds := [.data, .data, .data, .sentinel, .sentinel], laidTests := true, laidLooks := .later }
def ShowWalkUptoCardSaid : Prop := Claim7.holds Tryz.pinned (.plain (OpenSpec.upto showWalkSpec)) showWalkUptoCard

/-- THE SECOND FORM's CARD OF 'lychgatelaw03.ShowTokens'. -/
def showTokensUptoCard : Claim7 := { stood := { row := showTokensUptoRow, standIns := [], harness := (true, "d0d631ad0e83b13f291158ef87558295f27e28dd68e68afd0e0d5d6c86731452"), looks := true }, kinds := [], alts := [], laidByText := true, laidKinds := [.data, .data, .data, .sentinel, .sentinel], laidTests := true, laidLooks := .later }
def ShowTokensUptoCardSaid : Prop := Claim7.holds Tryz.pinned (.plain (OpenSpec.upto showTokensSpec)) showTokensUptoCard

/-- THE SECOND FORM's CARD OF 'lychgatelaw03.ShowWhole'. -/
def showWholeUptoCard : Claim7 := { stood := { row := showWholeUptoRow, standIns := [], harness := (true, "d0d631ad0e83b13f291158ef87558295f27e28dd68e68afd0e0d5d6c86731452"), looks := true }, kinds := [], alts := [], laidByText := true, laidKinds := [.data, .data, .data, .sentinel, .sentinel], laidTests := true, laidLooks := .later }
def ShowWholeUptoCardSaid : Prop := Claim7.holds Tryz.pinned (.plain (OpenSpec.upto showWholeSpec)) showWholeUptoCard
end Rows
end Go.Proofs.YtghhopjjddppbaaGreatDoor
