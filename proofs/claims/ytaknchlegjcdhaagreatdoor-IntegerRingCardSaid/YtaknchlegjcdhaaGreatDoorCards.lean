/-
  DERIVED. GIVEN WITH THE SEED: THE CARDS: each row of YtaknchlegjcdhaaGreatDoorRows.lean that lists a variable, with what it lists TIED to the program's text (the seventh form; the later family's looks); each row that meets fmt, with fmt's text TOLD by the authors' own Lean function (tested against real Go, not proved from fmt's source: count such statements apart). THE CARD IS WHAT COUNTS. Prove the row's statement (the work); the ties are given (YtaknchlegjcdhaaGreatDoorTie.lean); close each card by the builder's one call (the guide's Derived/Test/ToyasCard.lean, 'card_holds'). Laid BY PROGRAM, IN A SANDBOX (cutbox-door.mjs). By AI agents, Wed Nov 11 2026. No macro, syntax, notation, axiom, sorry.
-/
import Derived.Test.YtaknchlegjcdhaaGreatDoorRows
import GoSem.ClaimSeven
namespace Go.Proofs.YtaknchlegjcdhaaGreatDoor
namespace Rows

/-- THE TIED CARD OF 'garboardlaw02.IntegerSigns'. -/
def integerSignsCard : Claim7 := { stood := { row := integerSignsRow, standIns := [], harness := (true, "0afddc1d5b9fa5532b563da11c0d14509486c5c674670dcc3f772662c7f756d9"), looks := true }, kinds := [], alts := [], laidByText := true, laidKinds := [.data, .data, .data, .sentinel, .sentinel], laidTests := true, laidLooks := .later }
def IntegerSignsCardSaid : Prop := Claim7.holds Tryz.pinned (.plain (OpenSpec.ofChange integerSignsSpec)) integerSignsCard

/-- THE TIED CARD OF 'garboardlaw02.IntegerComputes'. -/
def integerComputesCard : Claim7 := { stood := { row := integerComputesRow, standIns := [], harness := (true, "0afddc1d5b9fa5532b563da11c0d14509486c5c674670dcc3f772662c7f756d9"), looks := true }, kinds := [], alts := [], laidByText := true, laidKinds := [.data, .data, .data, .sentinel, .sentinel], laidTests := true, laidLooks := .later }
def IntegerComputesCardSaid : Prop := Claim7.holds Tryz.pinned (.plain (OpenSpec.ofChange integerComputesSpec)) integerComputesCard

/-- THE TIED CARD OF 'garboardlaw02.IntegerDivides'. -/
def integerDividesCard : Claim7 := { stood := { row := integerDividesRow, standIns := [], harness := (true, "0afddc1d5b9fa5532b563da11c0d14509486c5c674670dcc3f772662c7f756d9"), looks := true }, kinds := [], alts := [], laidByText := true, laidKinds := [.data, .data, .data, .sentinel, .sentinel], laidTests := true, laidLooks := .later }
def IntegerDividesCardSaid : Prop := Claim7.holds Tryz.pinned (.plain (OpenSpec.ofChange integerDividesSpec)) integerDividesCard

/-- THE TIED CARD OF 'garboardlaw02.IntegerRing'. -/
def integerRingCard : Claim7 := { stood := { row := integerRingRow, standIns := [], harness := (true, "0afddc1d5b9fa5532b563da11c0d14509486c5c674670dcc3f772662c7f756d9"), looks := true }, kinds := [], alts := [], laidByText := true, laidKinds := [.data, .data, .data, .sentinel, .sentinel], laidTests := true, laidLooks := .later }
def IntegerRingCardSaid : Prop := Claim7.holds Tryz.pinned (.plain (OpenSpec.ofChange integerRingSpec)) integerRingCard

/-- THE TIED CARD OF 'garboardlaw02.IntegerOrder'. -/
def integerOrderCard : Claim7 := { stood := { row := integerOrderRow, standIns := [], harness := (true, "0afddc1d5b9fa5532b563da11c0d14509486c5c674670dcc3f772662c7f756d9"), looks := true }, kinds := [], alts := [], laidByText := true, laidKinds := [.data, .data, .data, .sentinel, .sentinel], laidTests := true, laidLooks := .later }
def IntegerOrderCardSaid : Prop := Claim7.holds Tryz.pinned (.plain (OpenSpec.ofChange integerOrderSpec)) integerOrderCard

/-- THE TIED CARD OF 'garboardlaw02.IntegerQuotients'. -/
def integerQuotientsCard : Claim7 := { stood := { row := integerQuotientsRow, standIns := [], harness := (true, "0afddc1d5b9fa5532b563da11c0d14509486c5c674670dcc3f772662c7f756d9"), looks := true }, kinds := [], alts := [], laidByText := true, laidKinds := [.data, .data, .data, .sentinel, .sentinel], laidTests := true, laidLooks := .later }
def IntegerQuotientsCardSaid : Prop := Claim7.holds Tryz.pinned (.plain (OpenSpec.ofChange integerQuotientsSpec)) integerQuotientsCard

/-- THE TIED CARD OF 'garboardlaw02.IntegerCombines'. -/
def integerCombinesCard : Claim7 := { stood := { row := integerCombinesRow, standIns := [], harness := (true, "0afddc1d5b9fa5532b563da11c0d14509486c5c674670dcc3f772662c7f756d9"), looks := true }, kinds := [], alts := [], laidByText := true, laidKinds := [.data, .data, .data, .sentinel, .sentinel], laidTests := true, laidLooks := .later }
def IntegerCombinesCardSaid : Prop := Claim7.holds Tryz.pinned (.plain (OpenSpec.ofChange integerCombinesSpec)) integerCombinesCard

/-- THE SECOND FORM's CARD OF 'garboardlaw02.IntegerSigns'. -/
def integerSignsUptoCard : Claim7 := { stood := { row := integerSignsUptoRow, standIns := [], harness := (true, "0afddc1d5b9fa5532b563da11c0d14509486c5c674670dcc3f772662c7f756d9"), looks := true }, kinds := [], alts := [], laidByText := true, laidKinds := [.data, .data, .data, .sentinel, .sentinel], laidTests := true, laidLooks := .later }
def IntegerSignsUptoCardSaid : Prop := Claim7.holds Tryz.pinned (.plain (OpenSpec.upto integerSignsSpec)) integerSignsUptoCard

/-- THE SECOND FORM's CARD OF 'garboardlaw02.IntegerComputes'. -/
def integerComputesUptoCard : Claim7 := { stood := { row := integerComputesUptoRow, standIns := [], harness := (true, "0afddc1d5b9fa5532b563da11c0d14509486c5c674670dcc3f772662c7f756d9"), looks := true }, kinds := [], alts := [], laidByText := true, laidKinds := [.data, .data, .data, .sentinel, .sentinel], laidTests := true, laidLooks := .later }
def IntegerComputesUptoCardSaid : Prop := Claim7.holds Tryz.pinned (.plain (OpenSpec.upto integerComputesSpec)) integerComputesUptoCard

/-- THE SECOND FORM's CARD OF 'garboardlaw02.IntegerDivides'. -/
def integerDividesUptoCard : Claim7 := { stood := { row := integerDividesUptoRow, standIns := [], harness := (true, "0afddc1d5b9fa5532b563da11c0d14509486c5c674670dcc3f772662c7f756d9"), looks := true }, kinds := [], alts := [], laidByText := true, laidKinds := [.data, .data, .data, .sentinel, .sentinel], laidTests := true, laidLooks := .later }
def IntegerDividesUptoCardSaid : Prop := Claim7.holds Tryz.pinned (.plain (OpenSpec.upto integerDividesSpec)) integerDividesUptoCard

/-- THE SECOND FORM's CARD OF 'garboardlaw02.IntegerRing'. -/
def integerRingUptoCard : Claim7 := { stood := { row := integerRingUptoRow, standIns := [], harness := (true, "0afddc1d5b9fa5532b563da11c0d14509486c5c674670dcc3f772662c7f756d9"), looks := true }, kinds := [], alts := [], laidByText := true, laidKinds := [.data, .data, .data, .sentinel, .sentinel], laidTests := true, laidLooks := .later }
def IntegerRingUptoCardSaid : Prop := Claim7.holds Tryz.pinned (.plain (OpenSpec.upto integerRingSpec)) integerRingUptoCard

/-- THE SECOND FORM's CARD OF 'garboardlaw02.IntegerOrder'. -/
def integerOrderUptoCard : Claim7 := { stood := { row := integerOrderUptoRow, standIns := [], harness := (true, "0afddc1d5b9fa5532b563da11c0d14509486c5c674670dcc3f772662c7f756d9"), looks := true }, kinds := [], alts := [], laidByText := true, laidKinds := [.data, .data, .data, .sentinel, .sentinel], laidTests := true, laidLooks := .later }
def IntegerOrderUptoCardSaid : Prop := Claim7.holds Tryz.pinned (.plain (OpenSpec.upto integerOrderSpec)) integerOrderUptoCard

/-- THE SECOND FORM's CARD OF 'garboardlaw02.IntegerQuotients'. -/
def integerQuotientsUptoCard : Claim7 := { stood := { row := integerQuotientsUptoRow, standIns := [], harness := (true, "0afddc1d5b9fa5532b563da11c0d14509486c5c674670dcc3f772662c7f756d9"), looks := true }, kinds := [], alts := [], laidByText := true, laidKinds := [.data, .data, .data, .sentinel, .sentinel], laidTests := true, laidLooks := .later }
def IntegerQuotientsUptoCardSaid : Prop := Claim7.holds Tryz.pinned (.plain (OpenSpec.upto integerQuotientsSpec)) integerQuotientsUptoCard

/-- THE SECOND FORM's CARD OF 'garboardlaw02.IntegerCombines'. -/
def integerCombinesUptoCard : Claim7 := { stood := { row := integerCombinesUptoRow, standIns := [], harness := (true, "0afddc1d5b9fa5532b563da11c0d14509486c5c674670dcc3f772662c7f756d9"), looks := true }, kinds := [], alts := [], laidByText := true, laidKinds := [.data, .data, .data, .sentinel, .sentinel], laidTests := true, laidLooks := .later }
def IntegerCombinesUptoCardSaid : Prop := Claim7.holds Tryz.pinned (.plain (OpenSpec.upto integerCombinesSpec)) integerCombinesUptoCard
end Rows
end Go.Proofs.YtaknchlegjcdhaaGreatDoor
