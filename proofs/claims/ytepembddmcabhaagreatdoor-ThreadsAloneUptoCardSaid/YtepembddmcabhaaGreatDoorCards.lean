/-
  DERIVED. GIVEN WITH THE SEED: THE CARDS: each row of YtepembddmcabhaaGreatDoorRows.lean that lists a variable, with what it lists TIED to the program's text (the seventh form; the later family's looks); each row that meets fmt, with fmt's text TOLD by the authors' own Lean function (tested against real Go, not proved from fmt's source: count such statements apart). THE CARD IS WHAT COUNTS. Prove the row's statement (the work); the ties are given (YtepembddmcabhaaGreatDoorTie.lean); close each card by the builder's one call (the guide's Derived/Test/ToyasCard.lean, 'card_holds'). Laid BY PROGRAM, IN A SANDBOX (cutbox-door.mjs). By AI agents, Wed Nov 11 2026. No macro, syntax, notation, axiom, sorry.
-/
import Derived.Test.YtepembddmcabhaaGreatDoorRows
import GoSem.ClaimSeven
namespace Go.Proofs.YtepembddmcabhaaGreatDoor
namespace Rows

/-- THE TIED CARD OF 'lychgatelaw22.ThreadsCheck'. -/
def threadsCheckCard : Claim7 := { stood := { row := threadsCheckRow, standIns := [], harness := (true, "fae8348b6573fd8448b31f35dcd7afce36c983720f1af9d25299ff52c231db03"), looks := true }, kinds := [], alts := [], laidByText := true, laidKinds := [.data, .data, .data, .sentinel, .sentinel], laidTests := true, laidLooks := .later }
def ThreadsCheckCardSaid : Prop := Claim7.holds Tryz.pinned (.plain (OpenSpec.ofChange threadsCheckSpec)) threadsCheckCard

/-- THE TIED CARD OF 'lychgatelaw22.ThreadsSorts'. -/
def threadsSortsCard : Claim7 := { stood := { row := threadsSortsRow, standIns := [], harness := (true, "fae8348b6573fd8448b31f35dcd7afce36c983720f1af9d25299ff52c231db03"), looks := true }, kinds := [], alts := [], laidByText := true, laidKinds := [.data, .data, .data, .sentinel, .sentinel], laidTests := true, laidLooks := .later }
def ThreadsSortsCardSaid : Prop := Claim7.holds Tryz.pinned (.plain (OpenSpec.ofChange threadsSortsSpec)) threadsSortsCard

/-- THE TIED CARD OF 'lychgatelaw22.ThreadsAlone'. -/
def threadsAloneCard : Claim7 := { stood := { row := threadsAloneRow, standIns := [], harness := (true, "fae8348b6573fd8448b31f35dcd7afce36c983720f1af9d25299ff52c231db03"), looks := true }, kinds := [], alts := [], laidByText := true, laidKinds := [.data, .data, .data, .sentinel, .sentinel], laidTests := true, laidLooks := .later }
def ThreadsAloneCardSaid : Prop := Claim7.holds Tryz.pinned (.plain (OpenSpec.ofChange threadsAloneSpec)) threadsAloneCard

/-- THE TIED CARD OF 'lychgatelaw22.ThreadsForks'. -/
def threadsForksCard : Claim7 := { stood := { row := threadsForksRow, standIns := [], harness := (true, "fae8348b6573fd8448b31f35dcd7afce36c983720f1af9d25299ff52c231db03"), looks := true }, kinds := [], alts := [], laidByText := true, laidKinds := [.data, .data, .data, .sentinel, .sentinel], laidTests := true, laidLooks := .later }
def ThreadsForksCardSaid : Prop := Claim7.holds Tryz.pinned (.plain (OpenSpec.ofChange threadsForksSpec)) threadsForksCard

/-- THE SECOND FORM's CARD OF 'lychgatelaw22.ThreadsCheck'. -/
def threadsCheckUptoCard : Claim7 := { stood := { row := threadsCheckUptoRow, standIns := [], harness := (true, "fae8348b6573fd8448b31f35dcd7afce36c983720f1af9d25299ff52c231db03"), looks := true }, kinds := [], alts := [], laidByText := true, laidKinds := [.data, .data, .data, .sentinel, .sentinel], laidTests := true, laidLooks := .later }
def ThreadsCheckUptoCardSaid : Prop := Claim7.holds Tryz.pinned (.plain (OpenSpec.upto threadsCheckSpec)) threadsCheckUptoCard

/-- THE SECOND FORM's CARD OF 'lychgatelaw22.ThreadsSorts'. -/
def threadsSortsUptoCard : Claim7 := { stood := { row := threadsSortsUptoRow, standIns := [], harness := (true, "fae8348b6573fd8448b31f35dcd7afce36c983720f1af9d25299ff52c231db03"), looks := true }, kinds := [], alts := [], laidByText := true, laidKinds := [.data, .data, .data, .sentinel, .sentinel], laidTests := true, laidLooks := .later }
def ThreadsSortsUptoCardSaid : Prop := Claim7.holds Tryz.pinned (.plain (OpenSpec.upto threadsSortsSpec)) threadsSortsUptoCard

/-- THE SECOND FORM's CARD OF 'lychgatelaw22.ThreadsAlone'. -/
def threadsAloneUptoCard : Claim7 := { stood := { row := threadsAloneUptoRow, standIns := [], harness := (true, "fae8348b6573fd8448b31f35dcd7afce36c983720f1af9d25299ff52c231db03"), looks := true }, kinds := [], alts := [], laidByText := true, laidKinds := [.data, .data, .data, .sentinel, .sentinel], laidTests := true, laidLooks := .later }
def ThreadsAloneUptoCardSaid : Prop := Claim7.holds Tryz.pinned (.plain (OpenSpec.upto threadsAloneSpec)) threadsAloneUptoCard

/-- THE SECOND FORM's CARD OF 'lychgatelaw22.ThreadsForks'. -/
def threadsForksUptoCard : Claim7 := { stood := { row := threadsForksUptoRow, standIns := [], harness := (true, "fae8348b6573fd8448b31f35dcd7afce36c983720f1af9d25299ff52c231db03"), looks := true }, kinds := [], alts := [], laidByText := true, laidKinds := [.data, .data, .data, .sentinel, .sentinel], laidTests := true, laidLooks := .later }
def ThreadsForksUptoCardSaid : Prop := Claim7.holds Tryz.pinned (.plain (OpenSpec.upto threadsForksSpec)) threadsForksUptoCard
end Rows
end Go.Proofs.YtepembddmcabhaaGreatDoor
