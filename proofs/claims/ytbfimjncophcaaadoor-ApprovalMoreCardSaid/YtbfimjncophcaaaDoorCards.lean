/-
  DERIVED. GIVEN WITH THE SEED: THE CARDS: each row of YtbfimjncophcaaaDoorRows.lean that lists a variable, with what it lists TIED to the program's text (the seventh form; the later family's looks); each row that meets fmt, with fmt's text TOLD by the authors' own Lean function (tested against real Go, not proved from fmt's source: count such statements apart). THE CARD IS WHAT COUNTS. Prove the row's statement (the work); the ties are given (YtbfimjncophcaaaDoorTie.lean); close each card by the builder's one call (the guide's Derived/Test/ToyasCard.lean, 'card_holds'). Laid BY PROGRAM, IN A SANDBOX (cutbox-door.mjs). By AI agents, Wed Nov 11 2026. No macro, syntax, notation, axiom, sorry.
-/
import Derived.Test.YtbfimjncophcaaaDoorRows
import GoSem.ClaimSeven
namespace Go.Proofs.YtbfimjncophcaaaDoor
namespace Rows

/-- THE TIED CARD OF 'garboardlaw58.ApprovalChecks'. -/
def approvalChecksCard : Claim7 := { stood := { row := approvalChecksRow, standIns := [], harness := (true, "ce235c4e514d4b9682cfb6f7306d1b58979f00263ffa218bc38fad6034842ff5"), looks := false }, kinds := [], alts := [], laidByText := true, laidKinds := [.data, .data, .data], laidTests := true, laidLooks := .later }
def ApprovalChecksCardSaid : Prop := Claim7.holds Tryd.pinned (.plain (OpenSpec.ofChange approvalChecksSpec)) approvalChecksCard

/-- THE TIED CARD OF 'garboardlaw58.ApprovalMisses'. -/
def approvalMissesCard : Claim7 := { stood := { row := approvalMissesRow, standIns := [], harness := (true, "ce235c4e514d4b9682cfb6f7306d1b58979f00263ffa218bc38fad6034842ff5"), looks := false }, kinds := [], alts := [], laidByText := true, laidKinds := [.data, .data, .data], laidTests := true, laidLooks := .later }
def ApprovalMissesCardSaid : Prop := Claim7.holds Tryd.pinned (.plain (OpenSpec.ofChange approvalMissesSpec)) approvalMissesCard

/-- THE TIED CARD OF 'garboardlaw58.ApprovalForged'. -/
def approvalForgedCard : Claim7 := { stood := { row := approvalForgedRow, standIns := [], harness := (true, "ce235c4e514d4b9682cfb6f7306d1b58979f00263ffa218bc38fad6034842ff5"), looks := false }, kinds := [], alts := [], laidByText := true, laidKinds := [.data, .data, .data], laidTests := true, laidLooks := .later }
def ApprovalForgedCardSaid : Prop := Claim7.holds Tryd.pinned (.plain (OpenSpec.ofChange approvalForgedSpec)) approvalForgedCard

/-- THE TIED CARD OF 'garboardlaw58.ApprovalEyes'. -/
def approvalEyesCard : Claim7 := { stood := { row := approvalEyesRow, standIns := [], harness := (true, "ce235c4e514d4b9682cfb6f7306d1b58979f00263ffa218bc38fad6034842ff5"), looks := false }, kinds := [], alts := [], laidByText := true, laidKinds := [.data, .data, .data], laidTests := true, laidLooks := .later }
def ApprovalEyesCardSaid : Prop := Claim7.holds Tryd.pinned (.plain (OpenSpec.ofChange approvalEyesSpec)) approvalEyesCard

/-- THE TIED CARD OF 'garboardlaw58.ApprovalWindow'. -/
def approvalWindowCard : Claim7 := { stood := { row := approvalWindowRow, standIns := [], harness := (true, "ce235c4e514d4b9682cfb6f7306d1b58979f00263ffa218bc38fad6034842ff5"), looks := false }, kinds := [], alts := [], laidByText := true, laidKinds := [.data, .data, .data], laidTests := true, laidLooks := .later }
def ApprovalWindowCardSaid : Prop := Claim7.holds Tryd.pinned (.plain (OpenSpec.ofChange approvalWindowSpec)) approvalWindowCard

/-- THE TIED CARD OF 'garboardlaw58.ApprovalMore'. -/
def approvalMoreCard : Claim7 := { stood := { row := approvalMoreRow, standIns := [], harness := (true, "ce235c4e514d4b9682cfb6f7306d1b58979f00263ffa218bc38fad6034842ff5"), looks := false }, kinds := [], alts := [], laidByText := true, laidKinds := [.data, .data, .data], laidTests := true, laidLooks := .later }
def ApprovalMoreCardSaid : Prop := Claim7.holds Tryd.pinned (.plain (OpenSpec.ofChange approvalMoreSpec)) approvalMoreCard

/-- THE SECOND FORM's CARD OF 'garboardlaw58.ApprovalChecks'. -/
def approvalChecksUptoCard : Claim7 := { stood := { row := approvalChecksUptoRow, standIns := [], harness := (true, "ce235c4e514d4b9682cfb6f7306d1b58979f00263ffa218bc38fad6034842ff5"), looks := false }, kinds := [], alts := [], laidByText := true, laidKinds := [.data, .data, .data], laidTests := true, laidLooks := .later }
def ApprovalChecksUptoCardSaid : Prop := Claim7.holds Tryd.pinned (.plain (OpenSpec.upto approvalChecksSpec)) approvalChecksUptoCard

/-- THE SECOND FORM's CARD OF 'garboardlaw58.ApprovalMisses'. -/
def approvalMissesUptoCard : Claim7 := { stood := { row := approvalMissesUptoRow, standIns := [], harness := (true, "ce235c4e514d4b9682cfb6f7306d1b58979f00263ffa218bc38fad6034842ff5"), looks := false }, kinds := [], alts := [], laidByText := true, laidKinds := [.data, .data, .data], laidTests := true, laidLooks := .later }
def ApprovalMissesUptoCardSaid : Prop := Claim7.holds Tryd.pinned (.plain (OpenSpec.upto approvalMissesSpec)) approvalMissesUptoCard

/-- THE SECOND FORM's CARD OF 'garboardlaw58.ApprovalForged'. -/
def approvalForgedUptoCard : Claim7 := { stood := { row := approvalForgedUptoRow, standIns := [], harness := (true, "ce235c4e514d4b9682cfb6f7306d1b58979f00263ffa218bc38fad6034842ff5"), looks := false }, kinds := [], alts := [], laidByText := true, laidKinds := [.data, .data, .data], laidTests := true, laidLooks := .later }
def ApprovalForgedUptoCardSaid : Prop := Claim7.holds Tryd.pinned (.plain (OpenSpec.upto approvalForgedSpec)) approvalForgedUptoCard

/-- THE SECOND FORM's CARD OF 'garboardlaw58.ApprovalEyes'. -/
def approvalEyesUptoCard : Claim7 := { stood := { row := approvalEyesUptoRow, standIns := [], harness := (true, "ce235c4e514d4b9682cfb6f7306d1b58979f00263ffa218bc38fad6034842ff5"), looks := false }, kinds := [], alts := [], laidByText := true, laidKinds := [.data, .data, .data], laidTests := true, laidLooks := .later }
def ApprovalEyesUptoCardSaid : Prop := Claim7.holds Tryd.pinned (.plain (OpenSpec.upto approvalEyesSpec)) approvalEyesUptoCard

/-- THE SECOND FORM's CARD OF 'garboardlaw58.ApprovalWindow'. -/
def approvalWindowUptoCard : Claim7 := { stood := { row := approvalWindowUptoRow, standIns := [], harness := (true, "ce235c4e514d4b9682cfb6f7306d1b58979f00263ffa218bc38fad6034842ff5"), looks := false }, kinds := [], alts := [], laidByText := true, laidKinds := [.data, .data, .data], laidTests := true, laidLooks := .later }
def ApprovalWindowUptoCardSaid : Prop := Claim7.holds Tryd.pinned (.plain (OpenSpec.upto approvalWindowSpec)) approvalWindowUptoCard

/-- THE SECOND FORM's CARD OF 'garboardlaw58.ApprovalMore'. -/
def approvalMoreUptoCard : Claim7 := { stood := { row := approvalMoreUptoRow, standIns := [], harness := (true, "ce235c4e514d4b9682cfb6f7306d1b58979f00263ffa218bc38fad6034842ff5"), looks := false }, kinds := [], alts := [], laidByText := true, laidKinds := [.data, .data, .data], laidTests := true, laidLooks := .later }
def ApprovalMoreUptoCardSaid : Prop := Claim7.holds Tryd.pinned (.plain (OpenSpec.upto approvalMoreSpec)) approvalMoreUptoCard
end Rows
end Go.Proofs.YtbfimjncophcaaaDoor
