/-
  DERIVED. GIVEN WITH THE SEED: THE CARDS: each row of YtnoeppljfjbmeaaDoorRows.lean that lists a variable, with what it lists TIED to the program's text (the seventh form; the later family's looks); each row that meets fmt, with fmt's text TOLD by the authors' own Lean function (tested against real Go, not proved from fmt's source: count such statements apart). THE CARD IS WHAT COUNTS. Prove the row's statement (the work); the ties are given (YtnoeppljfjbmeaaDoorTie.lean); close each card by the builder's one call (the guide's Derived/Test/ToyasCard.lean, 'card_holds'). Laid BY PROGRAM, IN A SANDBOX (cutbox-door.mjs). By AI agents, Wed Nov 11 2026. No macro, syntax, notation, axiom, sorry.
-/
import Derived.Test.YtnoeppljfjbmeaaDoorRows
import GoSem.ClaimSeven
namespace Go.Proofs.YtnoeppljfjbmeaaDoor
namespace Rows

/-- THE TIED CARD OF 'lychgatelaw01.LexTokens'. -/
def lexTokensCard : Claim7 := { stood := { row := lexTokensRow, standIns := [], harness := (true, "411b6ba95102a3ccb9118b2d6bcab3e709b4560415fdef590cc91015aad9826b"), looks := true }, kinds := [], alts := [], laidByText := true, laidKinds := [.data, .data, .data, .sentinel, .sentinel], laidTests := true, laidLooks := .later }
def LexTokensCardSaid : Prop := Claim7.holds Tryd.pinned (.plain (OpenSpec.ofChange lexTokensSpec)) lexTokensCard

/-- THE TIED CARD OF 'lychgatelaw01.LexCovers'. -/
def lexCoversCard : Claim7 := { stood := { row := lexCoversRow, standIns := [], harness := (true, "411b6ba95102a3ccb9118b2d6bcab3e709b4560415fdef590cc91015aad9826b"), looks := true }, kinds := [], alts := [], laidByText := true, laidKinds := [.data, .data, .data, .sentinel, .sentinel], laidTests := true, laidLooks := .later }
def LexCoversCardSaid : Prop := Claim7.holds Tryd.pinned (.plain (OpenSpec.ofChange lexCoversSpec)) lexCoversCard

/-- THE TIED CARD OF 'lychgatelaw01.LexAgain'. -/
def lexAgainCard : Claim7 := { stood := { row := lexAgainRow, standIns := [], harness := (true, "411b6ba95102a3ccb9118b2d6bcab3e709b4560415fdef590cc91015aad9826b"), looks := true }, kinds := [], alts := [], laidByText := true, laidKinds := [.data, .data, .data, .sentinel, .sentinel], laidTests := true, laidLooks := .later }
def LexAgainCardSaid : Prop := Claim7.holds Tryd.pinned (.plain (OpenSpec.ofChange lexAgainSpec)) lexAgainCard

/-- THE TIED CARD OF 'lychgatelaw01.LexFirst'. -/
def lexFirstCard : Claim7 := { stood := { row := lexFirstRow, standIns := [], harness := (true, "411b6ba95102a3ccb9118b2d6bcab3e709b4560415fdef590cc91015aad9826b"), looks := true }, kinds := [], alts := [], laidByText := true, laidKinds := [.data, .data, .data, .sentinel, .sentinel], laidTests := true, laidLooks := .later }
def LexFirstCardSaid : Prop := Claim7.holds Tryd.pinned (.plain (OpenSpec.ofChange lexFirstSpec)) lexFirstCard

/-- THE TIED CARD OF 'lychgatelaw01.LexValues'. -/
def lexValuesCard : Claim7 := { stood := { row := lexValuesRow, standIns := [], harness := (true, "411b6ba95102a3ccb9118b2d6bcab3e709b4560415fdef590cc91015aad9826b"), looks := true }, kinds := [], alts := [], laidByText := true, laidKinds := [.data, .data, .data, .sentinel, .sentinel], laidTests := true, laidLooks := .later }
def LexValuesCardSaid : Prop := Claim7.holds Tryd.pinned (.plain (OpenSpec.ofChange lexValuesSpec)) lexValuesCard

/-- THE TIED CARD OF 'lychgatelaw01.LexJoined'. -/
def lexJoinedCard : Claim7 := { stood := { row := lexJoinedRow, standIns := [], harness := (true, "411b6ba95102a3ccb9118b2d6bcab3e709b4560415fdef590cc91015aad9826b"), looks := true }, kinds := [], alts := [], laidByText := true, laidKinds := [.data, .data, .data, .sentinel, .sentinel], laidTests := true, laidLooks := .later }
def LexJoinedCardSaid : Prop := Claim7.holds Tryd.pinned (.plain (OpenSpec.ofChange lexJoinedSpec)) lexJoinedCard

/-- THE TIED CARD OF 'lychgatelaw01.LexNames'. -/
def lexNamesCard : Claim7 := { stood := { row := lexNamesRow, standIns := [], harness := (true, "411b6ba95102a3ccb9118b2d6bcab3e709b4560415fdef590cc91015aad9826b"), looks := true }, kinds := [], alts := [], laidByText := true, laidKinds := [.data, .data, .data, .sentinel, .sentinel], laidTests := true, laidLooks := .later }
def LexNamesCardSaid : Prop := Claim7.holds Tryd.pinned (.plain (OpenSpec.ofChange lexNamesSpec)) lexNamesCard

/-- THE SECOND FORM's CARD OF 'lychgatelaw01.LexTokens'. -/
def lexTokensUptoCard : Claim7 := { stood := { row := lexTokensUptoRow, standIns := [], harness := (true, "411b6ba95102a3ccb9118b2d6bcab3e709b4560415fdef590cc91015aad9826b"), looks := true }, kinds := [], alts := [], laidByText := true, laidKinds := [.data, .data, .data, .sentinel, .sentinel], laidTests := true, laidLooks := .later }
def LexTokensUptoCardSaid : Prop := Claim7.holds Tryd.pinned (.plain (OpenSpec.upto lexTokensSpec)) lexTokensUptoCard

/-- THE SECOND FORM's CARD OF 'lychgatelaw01.LexCovers'. -/
def lexCoversUptoCard : Claim7 := { stood := { row := lexCoversUptoRow, standIns := [], harness := (true, "411b6ba95102a3ccb9118b2d6bcab3e709b4560415fdef590cc91015aad9826b"), looks := true }, kinds := [], alts := [], laidByText := true, laidKinds := [.data, .data, .data, .sentinel, .sentinel], laidTests := true, laidLooks := .later }
def LexCoversUptoCardSaid : Prop := Claim7.holds Tryd.pinned (.plain (OpenSpec.upto lexCoversSpec)) lexCoversUptoCard

/-- THE SECOND FORM's CARD OF 'lychgatelaw01.LexAgain'. -/
def lexAgainUptoCard : Claim7 := { stood := { row := lexAgainUptoRow, standIns := [], harness := (true, "411b6ba95102a3ccb9118b2d6bcab3e709b4560415fdef590cc91015aad9826b"), looks := true }, kinds := [], alts := [], laidByText := true, laidKinds := [.data, .data, .data, .sentinel, .sentinel], laidTests := true, laidLooks := .later }
def LexAgainUptoCardSaid : Prop := Claim7.holds Tryd.pinned (.plain (OpenSpec.upto lexAgainSpec)) lexAgainUptoCard

/-- THE SECOND FORM's CARD OF 'lychgatelaw01.LexFirst'. -/
def lexFirstUptoCard : Claim7 := { stood := { row := lexFirstUptoRow, standIns := [], harness := (true, "411b6ba95102a3ccb9118b2d6bcab3e709b4560415fdef590cc91015aad9826b"), looks := true }, kinds := [], alts := [], laidByText := true, laidKinds := [.data, .data, .data, .sentinel, .sentinel], laidTests := true, laidLooks := .later }
def LexFirstUptoCardSaid : Prop := Claim7.holds Tryd.pinned (.plain (OpenSpec.upto lexFirstSpec)) lexFirstUptoCard

/-- THE SECOND FORM's CARD OF 'lychgatelaw01.LexValues'. -/
def lexValuesUptoCard : Claim7 := { stood := { row := lexValuesUptoRow, standIns := [], harness := (true, "411b6ba95102a3ccb9118b2d6bcab3e709b4560415fdef590cc91015aad9826b"), looks := true }, kinds := [], alts := [], laidByText := true, laidKinds := [.data, .data, .data, .sentinel, .sentinel], laidTests := true, laidLooks := .later }
def LexValuesUptoCardSaid : Prop := Claim7.holds Tryd.pinned (.plain (OpenSpec.upto lexValuesSpec)) lexValuesUptoCard

/-- THE SECOND FORM's CARD OF 'lychgatelaw01.LexJoined'. -/
def lexJoinedUptoCard : Claim7 := { stood := { row := lexJoinedUptoRow, standIns := [], harness := (true, "411b6ba95102a3ccb9118b2d6bcab3e709b4560415fdef590cc91015aad9826b"), looks := true }, kinds := [], alts := [], laidByText := true, laidKinds := [.data, .data, .data, .sentinel, .sentinel], laidTests := true, laidLooks := .later }
def LexJoinedUptoCardSaid : Prop := Claim7.holds Tryd.pinned (.plain (OpenSpec.upto lexJoinedSpec)) lexJoinedUptoCard

/-- THE SECOND FORM's CARD OF 'lychgatelaw01.LexNames'. -/
def lexNamesUptoCard : Claim7 := { stood := { row := lexNamesUptoRow, standIns := [], harness := (true, "411b6ba95102a3ccb9118b2d6bcab3e709b4560415fdef590cc91015aad9826b"), looks := true }, kinds := [], alts := [], laidByText := true, laidKinds := [.data, .data, .data, .sentinel, .sentinel], laidTests := true, laidLooks := .later }
def LexNamesUptoCardSaid : Prop := Claim7.holds Tryd.pinned (.plain (OpenSpec.upto lexNamesSpec)) lexNamesUptoCard
end Rows
end Go.Proofs.YtnoeppljfjbmeaaDoor
