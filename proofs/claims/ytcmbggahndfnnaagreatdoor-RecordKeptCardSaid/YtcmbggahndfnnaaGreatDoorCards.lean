/-
  DERIVED. GIVEN WITH THE SEED: THE CARDS: each row of YtcmbggahndfnnaaGreatDoorRows.lean that lists a variable, with what it lists TIED to the program's text (the seventh form; the later family's looks); each row that meets fmt, with fmt's text TOLD by the authors' own Lean function (tested against real Go, not proved from fmt's source: count such statements apart). THE CARD IS WHAT COUNTS. Prove the row's statement (the work); the ties are given (YtcmbggahndfnnaaGreatDoorTie.lean); close each card by the builder's one call (the guide's Derived/Test/ToyasCard.lean, 'card_holds'). Laid BY PROGRAM, IN A SANDBOX (cutbox-door.mjs). By AI agents, Wed Nov 11 2026. No macro, syntax, notation, axiom, sorry.
-/
import Derived.Test.YtcmbggahndfnnaaGreatDoorRows
import GoSem.ClaimSeven
namespace Go.Proofs.YtcmbggahndfnnaaGreatDoor
namespace Rows

/-- THE TIED CARD OF 'garboardlaw57.RecordCodes'. -/
def recordCodesCard : Claim7 := { stood := { row := recordCodesRow, standIns := [], harness := (true, "530430785d8fc1b95937d3c83c748bc57a44dc57239518a96d9fcf3156f792ad"), looks := true }, kinds := [], alts := [], laidByText := true, laidKinds := [.data, .data, .data, .sentinel, .sentinel], laidTests := true, laidLooks := .later }
def RecordCodesCardSaid : Prop := Claim7.holds Tryz.pinned (.plain (OpenSpec.ofChange recordCodesSpec)) recordCodesCard

/-- THE TIED CARD OF 'garboardlaw57.RecordReads'. -/
def recordReadsCard : Claim7 := { stood := { row := recordReadsRow, standIns := [], harness := (true, "530430785d8fc1b95937d3c83c748bc57a44dc57239518a96d9fcf3156f792ad"), looks := true }, kinds := [], alts := [], laidByText := true, laidKinds := [.data, .data, .data, .sentinel, .sentinel], laidTests := true, laidLooks := .later }
def RecordReadsCardSaid : Prop := Claim7.holds Tryz.pinned (.plain (OpenSpec.ofChange recordReadsSpec)) recordReadsCard

/-- THE TIED CARD OF 'garboardlaw57.RecordReturns'. -/
def recordReturnsCard : Claim7 := { stood := { row := recordReturnsRow, standIns := [], harness := (true, "530430785d8fc1b95937d3c83c748bc57a44dc57239518a96d9fcf3156f792ad"), looks := true }, kinds := [], alts := [], laidByText := true, laidKinds := [.data, .data, .data, .sentinel, .sentinel], laidTests := true, laidLooks := .later }
def RecordReturnsCardSaid : Prop := Claim7.holds Tryz.pinned (.plain (OpenSpec.ofChange recordReturnsSpec)) recordReturnsCard

/-- THE TIED CARD OF 'garboardlaw57.RecordExact'. -/
def recordExactCard : Claim7 := { stood := { row := recordExactRow, standIns := [], harness := (true, "530430785d8fc1b95937d3c83c748bc57a44dc57239518a96d9fcf3156f792ad"), looks := true }, kinds := [], alts := [], laidByText := true, laidKinds := [.data, .data, .data, .sentinel, .sentinel], laidTests := true, laidLooks := .later }
def RecordExactCardSaid : Prop := Claim7.holds Tryz.pinned (.plain (OpenSpec.ofChange recordExactSpec)) recordExactCard

/-- THE TIED CARD OF 'garboardlaw57.RecordTorn'. -/
def recordTornCard : Claim7 := { stood := { row := recordTornRow, standIns := [], harness := (true, "530430785d8fc1b95937d3c83c748bc57a44dc57239518a96d9fcf3156f792ad"), looks := true }, kinds := [], alts := [], laidByText := true, laidKinds := [.data, .data, .data, .sentinel, .sentinel], laidTests := true, laidLooks := .later }
def RecordTornCardSaid : Prop := Claim7.holds Tryz.pinned (.plain (OpenSpec.ofChange recordTornSpec)) recordTornCard

/-- THE TIED CARD OF 'garboardlaw57.RecordKept'. -/
def recordKeptCard : Claim7 := { stood := { row := recordKeptRow, standIns := [], harness := (true, "530430785d8fc1b95937d3c83c748bc57a44dc57239518a96d9fcf3156f792ad"), looks := true }, kinds := [], alts := [], laidByText := true, laidKinds := [.data, .data, .data, .sentinel, .sentinel], laidTests := true, laidLooks := .later }
def RecordKeptCardSaid : Prop := Claim7.holds Tryz.pinned (.plain (OpenSpec.ofChange recordKeptSpec)) recordKeptCard

/-- THE TIED CARD OF 'garboardlaw57.RecordAppends'. -/
def recordAppendsCard : Claim7 := { stood := { row := recordAppendsRow, standIns := [], harness := (true, "530430785d8fc1b95937d3c83c748bc57a44dc57239518a96d9fcf3156f792ad"), looks := true }, kinds := [], alts := [], laidByText := true, laidKinds := [.data, .data, .data, .sentinel, .sentinel], laidTests := true, laidLooks := .later }
def RecordAppendsCardSaid : Prop := Claim7.holds Tryz.pinned (.plain (OpenSpec.ofChange recordAppendsSpec)) recordAppendsCard

/-- THE SECOND FORM's CARD OF 'garboardlaw57.RecordCodes'. -/
def recordCodesUptoCard : Claim7 := { stood := { row := recordCodesUptoRow, standIns := [], harness := (true, "530430785d8fc1b95937d3c83c748bc57a44dc57239518a96d9fcf3156f792ad"), looks := true }, kinds := [], alts := [], laidByText := true, laidKinds := [.data, .data, .data, .sentinel, .sentinel], laidTests := true, laidLooks := .later }
def RecordCodesUptoCardSaid : Prop := Claim7.holds Tryz.pinned (.plain (OpenSpec.upto recordCodesSpec)) recordCodesUptoCard

/-- THE SECOND FORM's CARD OF 'garboardlaw57.RecordReads'. -/
def recordReadsUptoCard : Claim7 := { stood := { row := recordReadsUptoRow, standIns := [], harness := (true, "530430785d8fc1b95937d3c83c748bc57a44dc57239518a96d9fcf3156f792ad"), looks := true }, kinds := [], alts := [], laidByText := true, laidKinds := [.data, .data, .data, .sentinel, .sentinel], laidTests := true, laidLooks := .later }
def RecordReadsUptoCardSaid : Prop := Claim7.holds Tryz.pinned (.plain (OpenSpec.upto recordReadsSpec)) recordReadsUptoCard

/-- THE SECOND FORM's CARD OF 'garboardlaw57.RecordReturns'. -/
def recordReturnsUptoCard : Claim7 := { stood := { row := recordReturnsUptoRow, standIns := [], harness := (true, "530430785d8fc1b95937d3c83c748bc57a44dc57239518a96d9fcf3156f792ad"), looks := true }, kinds := [], alts := [], laidByText := true, laidKinds := [.data, .data, .data, .sentinel, .sentinel], laidTests := true, laidLooks := .later }
def RecordReturnsUptoCardSaid : Prop := Claim7.holds Tryz.pinned (.plain (OpenSpec.upto recordReturnsSpec)) recordReturnsUptoCard

/-- THE SECOND FORM's CARD OF 'garboardlaw57.RecordExact'. -/
def recordExactUptoCard : Claim7 := { stood := { row := recordExactUptoRow, standIns := [], harness := (true, "530430785d8fc1b95937d3c83c748bc57a44dc57239518a96d9fcf3156f792ad"), looks := true }, kinds := [], alts := [], laidByText := true, laidKinds := [.data, .data, .data, .sentinel, .sentinel], laidTests := true, laidLooks := .later }
def RecordExactUptoCardSaid : Prop := Claim7.holds Tryz.pinned (.plain (OpenSpec.upto recordExactSpec)) recordExactUptoCard

/-- THE SECOND FORM's CARD OF 'garboardlaw57.RecordTorn'. -/
def recordTornUptoCard : Claim7 := { stood := { row := recordTornUptoRow, standIns := [], harness := (true, "530430785d8fc1b95937d3c83c748bc57a44dc57239518a96d9fcf3156f792ad"), looks := true }, kinds := [], alts := [], laidByText := true, laidKinds := [.data, .data, .data, .sentinel, .sentinel], laidTests := true, laidLooks := .later }
def RecordTornUptoCardSaid : Prop := Claim7.holds Tryz.pinned (.plain (OpenSpec.upto recordTornSpec)) recordTornUptoCard

/-- THE SECOND FORM's CARD OF 'garboardlaw57.RecordKept'. -/
def recordKeptUptoCard : Claim7 := { stood := { row := recordKeptUptoRow, standIns := [], harness := (true, "530430785d8fc1b95937d3c83c748bc57a44dc57239518a96d9fcf3156f792ad"), looks := true }, kinds := [], alts := [], laidByText := true, laidKinds := [.data, .data, .data, .sentinel, .sentinel], laidTests := true, laidLooks := .later }
def RecordKeptUptoCardSaid : Prop := Claim7.holds Tryz.pinned (.plain (OpenSpec.upto recordKeptSpec)) recordKeptUptoCard

/-- THE SECOND FORM's CARD OF 'garboardlaw57.RecordAppends'. -/
def recordAppendsUptoCard : Claim7 := { stood := { row := recordAppendsUptoRow, standIns := [], harness := (true, "530430785d8fc1b95937d3c83c748bc57a44dc57239518a96d9fcf3156f792ad"), looks := true }, kinds := [], alts := [], laidByText := true, laidKinds := [.data, .data, .data, .sentinel, .sentinel], laidTests := true, laidLooks := .later }
def RecordAppendsUptoCardSaid : Prop := Claim7.holds Tryz.pinned (.plain (OpenSpec.upto recordAppendsSpec)) recordAppendsUptoCard
end Rows
end Go.Proofs.YtcmbggahndfnnaaGreatDoor
