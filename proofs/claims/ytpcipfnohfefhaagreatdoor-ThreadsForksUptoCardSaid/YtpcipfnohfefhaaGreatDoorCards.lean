/-
  DERIVED. GIVEN WITH THE SEED: THE CARDS: each row of YtpcipfnohfefhaaGreatDoorRows.lean that lists a variable, with what it lists TIED to the program's text (the seventh form; the later family's looks); each row that meets fmt, with fmt's text TOLD by the authors' own Lean function (tested against real Go, not proved from fmt's source: count such statements apart). THE CARD IS WHAT COUNTS. Prove the row's statement (the work); the ties are given (YtpcipfnohfefhaaGreatDoorTie.lean); close each card by the builder's one call (the guide's Derived/Test/ToyasCard.lean, 'card_holds'). Laid BY PROGRAM, IN A SANDBOX (cutbox-door.mjs). By AI agents, Wed Nov 11 2026. No macro, syntax, notation, axiom, sorry.
-/
import Derived.Test.YtpcipfnohfefhaaGreatDoorRows
import GoSem.ClaimSeven
namespace Go.Proofs.YtpcipfnohfefhaaGreatDoor
namespace Rows

/-- THE TIED CARD OF 'lychgatelaw18.NamesSafe'. -/
def namesSafeCard : Claim7 := { stood := { row := namesSafeRow, standIns := [], harness := (true, "d8da18d40d23f52d7e859fa5eaf9887a5ef9200cb301e39d969b004e5cd61367"), looks := true }, kinds := [], alts := [], laidByText := true, laidKinds := [.data, .data, .data, .sentinel, .sentinel], laidTests := true, laidLooks := .later }
def NamesSafeCardSaid : Prop := Claim7.holds Tryz.pinned (.plain (OpenSpec.ofChange namesSafeSpec)) namesSafeCard

/-- THE TIED CARD OF 'lychgatelaw18.NamesKinds'. -/
def namesKindsCard : Claim7 := { stood := { row := namesKindsRow, standIns := [], harness := (true, "d8da18d40d23f52d7e859fa5eaf9887a5ef9200cb301e39d969b004e5cd61367"), looks := true }, kinds := [], alts := [], laidByText := true, laidKinds := [.data, .data, .data, .sentinel, .sentinel], laidTests := true, laidLooks := .later }
def NamesKindsCardSaid : Prop := Claim7.holds Tryz.pinned (.plain (OpenSpec.ofChange namesKindsSpec)) namesKindsCard

/-- THE TIED CARD OF 'lychgatelaw22.ThreadsForks'. -/
def threadsForksCard : Claim7 := { stood := { row := threadsForksRow, standIns := [], harness := (true, "d8da18d40d23f52d7e859fa5eaf9887a5ef9200cb301e39d969b004e5cd61367"), looks := true }, kinds := [], alts := [], laidByText := true, laidKinds := [.data, .data, .data, .sentinel, .sentinel], laidTests := true, laidLooks := .later }
def ThreadsForksCardSaid : Prop := Claim7.holds Tryz.pinned (.plain (OpenSpec.ofChange threadsForksSpec)) threadsForksCard

/-- THE SECOND FORM's CARD OF 'lychgatelaw18.NamesSafe'. -/
def namesSafeUptoCard : Claim7 := { stood := { row := namesSafeUptoRow, standIns := [], harness := (true, "d8da18d40d23f52d7e859fa5eaf9887a5ef9200cb301e39d969b004e5cd61367"), looks := true }, kinds := [], alts := [], laidByText := true, laidKinds := [.data, .data, .data, .sentinel, .sentinel], laidTests := true, laidLooks := .later }
def NamesSafeUptoCardSaid : Prop := Claim7.holds Tryz.pinned (.plain (OpenSpec.upto namesSafeSpec)) namesSafeUptoCard

/-- THE SECOND FORM's CARD OF 'lychgatelaw18.NamesKinds'. -/
def namesKindsUptoCard : Claim7 := { stood := { row := namesKindsUptoRow, standIns := [], harness := (true, "d8da18d40d23f52d7e859fa5eaf9887a5ef9200cb301e39d969b004e5cd61367"), looks := true }, kinds := [], alts := [], laidByText := true, laidKinds := [.data, .data, .data, .sentinel, .sentinel], laidTests := true, laidLooks := .later }
def NamesKindsUptoCardSaid : Prop := Claim7.holds Tryz.pinned (.plain (OpenSpec.upto namesKindsSpec)) namesKindsUptoCard

/-- THE SECOND FORM's CARD OF 'lychgatelaw22.ThreadsForks'. -/
def threadsForksUptoCard : Claim7 := { stood := { row := threadsForksUptoRow, standIns := [], harness := (true, "d8da18d40d23f52d7e859fa5eaf9887a5ef9200cb301e39d969b004e5cd61367"), looks := true }, kinds := [], alts := [], laidByText := true, laidKinds := [.data, .data, .data, .sentinel, .sentinel], laidTests := true, laidLooks := .later }
def ThreadsForksUptoCardSaid : Prop := Claim7.holds Tryz.pinned (.plain (OpenSpec.upto threadsForksSpec)) threadsForksUptoCard
end Rows
end Go.Proofs.YtpcipfnohfefhaaGreatDoor
