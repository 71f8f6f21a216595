/-
  DERIVED. GIVEN WITH THE SEED: THE CARDS: each row of YtaopmkcghancmaaDoorRows.lean that lists a variable, with what it lists TIED to the program's text (the seventh form; the later family's looks); each row that meets fmt, with fmt's text TOLD by the authors' own Lean function (tested against real Go, not proved from fmt's source: count such statements apart). THE CARD IS WHAT COUNTS. Prove the row's statement (the work); the ties are given (YtaopmkcghancmaaDoorTie.lean); close each card by the builder's one call (the guide's Derived/Test/ToyasCard.lean, 'card_holds'). Laid BY PROGRAM, IN A SANDBOX (cutbox-door.mjs). By AI agents, Wed Nov 11 2026. No macro, syntax, notation, axiom, sorry.
-/
import Derived.Test.YtaopmkcghancmaaDoorRows
import GoSem.ClaimSeven
namespace Go.Proofs.YtaopmkcghancmaaDoor
namespace Rows

/-- THE TIED CARD OF 'garboardlaw01.NaturalCompares'. -/
def naturalComparesCard : Claim7 := { stood := { row := naturalComparesRow, standIns := [], harness := (true, "15e2bb534210d3ebfac1118a7fbd3a9c70502882d4f4aec048f40a6a26db7ede"), looks := true }, kinds := [], alts := [], laidByText := true, laidKinds := [.data, .data, .data, .sentinel, .sentinel], laidTests := true, laidLooks := .later }
def NaturalComparesCardSaid : Prop := Claim7.holds Tryd.pinned (.plain (OpenSpec.ofChange naturalComparesSpec)) naturalComparesCard

/-- THE TIED CARD OF 'garboardlaw01.NaturalComputes'. -/
def naturalComputesCard : Claim7 := { stood := { row := naturalComputesRow, standIns := [], harness := (true, "15e2bb534210d3ebfac1118a7fbd3a9c70502882d4f4aec048f40a6a26db7ede"), looks := true }, kinds := [], alts := [], laidByText := true, laidKinds := [.data, .data, .data, .sentinel, .sentinel], laidTests := true, laidLooks := .later }
def NaturalComputesCardSaid : Prop := Claim7.holds Tryd.pinned (.plain (OpenSpec.ofChange naturalComputesSpec)) naturalComputesCard

/-- THE TIED CARD OF 'garboardlaw01.NaturalDivides'. -/
def naturalDividesCard : Claim7 := { stood := { row := naturalDividesRow, standIns := [], harness := (true, "15e2bb534210d3ebfac1118a7fbd3a9c70502882d4f4aec048f40a6a26db7ede"), looks := true }, kinds := [], alts := [], laidByText := true, laidKinds := [.data, .data, .data, .sentinel, .sentinel], laidTests := true, laidLooks := .later }
def NaturalDividesCardSaid : Prop := Claim7.holds Tryd.pinned (.plain (OpenSpec.ofChange naturalDividesSpec)) naturalDividesCard

/-- THE TIED CARD OF 'garboardlaw01.NaturalPowers'. -/
def naturalPowersCard : Claim7 := { stood := { row := naturalPowersRow, standIns := [], harness := (true, "15e2bb534210d3ebfac1118a7fbd3a9c70502882d4f4aec048f40a6a26db7ede"), looks := true }, kinds := [], alts := [], laidByText := true, laidKinds := [.data, .data, .data, .sentinel, .sentinel], laidTests := true, laidLooks := .later }
def NaturalPowersCardSaid : Prop := Claim7.holds Tryd.pinned (.plain (OpenSpec.ofChange naturalPowersSpec)) naturalPowersCard

/-- THE TIED CARD OF 'garboardlaw01.NaturalRing'. -/
def naturalRingCard : Claim7 := { stood := { row := naturalRingRow, standIns := [], harness := (true, "15e2bb534210d3ebfac1118a7fbd3a9c70502882d4f4aec048f40a6a26db7ede"), looks := true }, kinds := [], alts := [], laidByText := true, laidKinds := [.data, .data, .data, .sentinel, .sentinel], laidTests := true, laidLooks := .later }
def NaturalRingCardSaid : Prop := Claim7.holds Tryd.pinned (.plain (OpenSpec.ofChange naturalRingSpec)) naturalRingCard

/-- THE TIED CARD OF 'garboardlaw01.NaturalUndoes'. -/
def naturalUndoesCard : Claim7 := { stood := { row := naturalUndoesRow, standIns := [], harness := (true, "15e2bb534210d3ebfac1118a7fbd3a9c70502882d4f4aec048f40a6a26db7ede"), looks := true }, kinds := [], alts := [], laidByText := true, laidKinds := [.data, .data, .data, .sentinel, .sentinel], laidTests := true, laidLooks := .later }
def NaturalUndoesCardSaid : Prop := Claim7.holds Tryd.pinned (.plain (OpenSpec.ofChange naturalUndoesSpec)) naturalUndoesCard

/-- THE TIED CARD OF 'garboardlaw01.NaturalCommon'. -/
def naturalCommonCard : Claim7 := { stood := { row := naturalCommonRow, standIns := [], harness := (true, "15e2bb534210d3ebfac1118a7fbd3a9c70502882d4f4aec048f40a6a26db7ede"), looks := true }, kinds := [], alts := [], laidByText := true, laidKinds := [.data, .data, .data, .sentinel, .sentinel], laidTests := true, laidLooks := .later }
def NaturalCommonCardSaid : Prop := Claim7.holds Tryd.pinned (.plain (OpenSpec.ofChange naturalCommonSpec)) naturalCommonCard

/-- THE TIED CARD OF 'garboardlaw01.NaturalRoots'. -/
def naturalRootsCard : Claim7 := { stood := { row := naturalRootsRow, standIns := [], harness := (true, "15e2bb534210d3ebfac1118a7fbd3a9c70502882d4f4aec048f40a6a26db7ede"), looks := true }, kinds := [], alts := [], laidByText := true, laidKinds := [.data, .data, .data, .sentinel, .sentinel], laidTests := true, laidLooks := .later }
def NaturalRootsCardSaid : Prop := Claim7.holds Tryd.pinned (.plain (OpenSpec.ofChange naturalRootsSpec)) naturalRootsCard

/-- THE SECOND FORM's CARD OF 'garboardlaw01.NaturalCompares'. -/
def naturalComparesUptoCard : Claim7 := { stood := { row := naturalComparesUptoRow, standIns := [], harness := (true, "15e2bb534210d3ebfac1118a7fbd3a9c70502882d4f4aec048f40a6a26db7ede"), looks := true }, kinds := [], alts := [], laidByText := true, laidKinds := [.data, .data, .data, .sentinel, .sentinel], laidTests := true, laidLooks := .later }
def NaturalComparesUptoCardSaid : Prop := Claim7.holds Tryd.pinned (.plain (OpenSpec.upto naturalComparesSpec)) naturalComparesUptoCard

/-- THE SECOND FORM's CARD OF 'garboardlaw01.NaturalComputes'. -/
def naturalComputesUptoCard : Claim7 := { stood := { row := naturalComputesUptoRow, standIns := [], harness := (true, "15e2bb534210d3ebfac1118a7fbd3a9c70502882d4f4aec048f40a6a26db7ede"), looks := true }, kinds := [], alts := [], laidByText := true, laidKinds := [.data, .data, .data, .sentinel, .sentinel], laidTests := true, laidLooks := .later }
def NaturalComputesUptoCardSaid : Prop := Claim7.holds Tryd.pinned (.plain (OpenSpec.upto naturalComputesSpec)) naturalComputesUptoCard

/-- THE SECOND FORM's CARD OF 'garboardlaw01.NaturalDivides'. -/
def naturalDividesUptoCard : Claim7 := { stood := { row := naturalDividesUptoRow, standIns := [], harness := (true, "15e2bb534210d3ebfac1118a7fbd3a9c70502882d4f4aec048f40a6a26db7ede"), looks := true }, kinds := [], alts := [], laidByText := true, laidKinds := [.data, .data, .data, .sentinel, .sentinel], laidTests := true, laidLooks := .later }
def NaturalDividesUptoCardSaid : Prop := Claim7.holds Tryd.pinned (.plain (OpenSpec.upto naturalDividesSpec)) naturalDividesUptoCard

/-- THE SECOND FORM's CARD OF 'garboardlaw01.NaturalPowers'. -/
def naturalPowersUptoCard : Claim7 := { stood := { row := naturalPowersUptoRow, standIns := [], harness := (true, "15e2bb534210d3ebfac1118a7fbd3a9c70502882d4f4aec048f40a6a26db7ede"), looks := true }, kinds := [], alts := [], laidByText := true, laidKinds := [.data, .data, .data, .sentinel, .sentinel], laidTests := true, laidLooks := .later }
def NaturalPowersUptoCardSaid : Prop := Claim7.holds Tryd.pinned (.plain (OpenSpec.upto naturalPowersSpec)) naturalPowersUptoCard

/-- THE SECOND FORM's CARD OF 'garboardlaw01.NaturalRing'. -/
def naturalRingUptoCard : Claim7 := { stood := { row := naturalRingUptoRow, standIns := [], harness := (true, "15e2bb534210d3ebfac1118a7fbd3a9c70502882d4f4aec048f40a6a26db7ede"), looks := true }, kinds := [], alts := [], laidByText := true, laidKinds := [.data, .data, .data, .sentinel, .sentinel], laidTests := true, laidLooks := .later }
def NaturalRingUptoCardSaid : Prop := Claim7.holds Tryd.pinned (.plain (OpenSpec.upto naturalRingSpec)) naturalRingUptoCard

/-- THE SECOND FORM's CARD OF 'garboardlaw01.NaturalUndoes'. -/
def naturalUndoesUptoCard : Claim7 := { stood := { row := naturalUndoesUptoRow, standIns := [], harness := (true, "15e2bb534210d3ebfac1118a7fbd3a9c70502882d4f4aec048f40a6a26db7ede"), looks := true }, kinds := [], alts := [], laidByText := true, laidKinds := [.data, .data, .data, .sentinel, .sentinel], laidTests := true, laidLooks := .later }
def NaturalUndoesUptoCardSaid : Prop := Claim7.holds Tryd.pinned (.plain (OpenSpec.upto naturalUndoesSpec)) naturalUndoesUptoCard

/-- THE SECOND FORM's CARD OF 'garboardlaw01.NaturalCommon'. -/
def naturalCommonUptoCard : Claim7 := { stood := { row := naturalCommonUptoRow, standIns := [], harness := (true, "15e2bb534210d3ebfac1118a7fbd3a9c70502882d4f4aec048f40a6a26db7ede"), looks := true }, kinds := [], alts := [], laidByText := true, laidKinds := [.data, .data, .data, .sentinel, .sentinel], laidTests := true, laidLooks := .later }
def NaturalCommonUptoCardSaid : Prop := Claim7.holds Tryd.pinned (.plain (OpenSpec.upto naturalCommonSpec)) naturalCommonUptoCard

/-- THE SECOND FORM's CARD OF 'garboardlaw01.NaturalRoots'. -/
def naturalRootsUptoCard : Claim7 := { stood := { row := naturalRootsUptoRow, standIns := [], harness := (true, "15e2bb534210d3ebfac1118a7fbd3a9c70502882d4f4aec048f40a6a26db7ede"), looks := true }, kinds := [], alts := [], laidByText := true, laidKinds := [.data, .data, .data, .sentinel, .sentinel], laidTests := true, laidLooks := .later }
def NaturalRootsUptoCardSaid : Prop := Claim7.holds Tryd.pinned (.plain (OpenSpec.upto naturalRootsSpec)) naturalRootsUptoCard
end Rows
end Go.Proofs.YtaopmkcghancmaaDoor
