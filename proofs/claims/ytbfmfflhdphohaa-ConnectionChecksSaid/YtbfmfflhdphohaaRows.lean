/-
  No cell of these rows narrows 'for every input' (looked for: loops, veiled, ifaces, maps, wideKeys, modest, calm, conditions, laid).
  DERIVED. THE GIVEN ROWS OF THIS SEAT. 7 by the template 'for every input the law returns true; each argument reads behind the call as it read before'; 0 by the template 'total and deterministic' (their statements: YtbfmfflhdphohaaTotals.lean).
  GIVEN WITH THE SEED: the statements are not yours to turn. If you find one false, say at which input.
  Laid BY PROGRAM, IN A SANDBOX (cutbox-rows.mjs): the forced cells as the released guide's own fill.sh prints them over the translation cbf8a0919b4aec9a… (all of the seat's roots in one cut). By AI agents, Wed Nov 11 2026. No macro, syntax, notation, axiom, sorry.
-/
import Derived.Test.YtbfmfflhdphohaaChecked
import GoSem.Claim
import GoSem.ClaimJoined
import GoSem.ClaimMapViews
import Derived.JoinedTies
import Derived.KernelRfl
namespace Go.Proofs.Ytbfmfflhdphohaa
/- THE CELL 'sum', in the pinned program and in every row, IS THE sha256 OF THE DUMP (.gsa) THAT YtbfmfflhdphohaaProg.lean LOADS. Nothing in Lean hashes anything: it is a label: what it is worth is what the hold of that sum in a sandbox is worth. -/
noncomputable def Try.pinned : Pinned := { name := "ytbfmfflhdphohaa", sum := "cbf8a0919b4aec9a6c969c24ff4ef483695409f63023454655e6d717a571d40f", checked := Try.checked }
namespace Rows
def none {H : Type} : Left H := { results := [], args := [] }

/-- 'garboardlaw32.ConnectionChecks': WHATEVER THE INPUT: true; the input reads as it did. -/
def connectionChecksSpec : ChangeSpec := { name := "connectionChecks", fn := fun _ => fun
  | [d1, d2, d3, d4] => { results := [.lit (.bool true)], args := [d1, d2, d3, d4] }
  | _ => none }
def connectionChecksRow : OpenClaim := { program := "ytbfmfflhdphohaa", sum := "cbf8a0919b4aec9a6c969c24ff4ef483695409f63023454655e6d717a571d40f", func := "garboard/garboardlaw32.ConnectionChecks", spec := "connectionChecks", unfollowed := true, recurses := true, apart := false }
def ConnectionChecksSaid : Prop := connectionChecksRow.holds Try.pinned (OpenSpec.ofChange connectionChecksSpec)

/-- ITS FALSE NEIGHBOUR: 'it returns false'. Refute it at one input. -/
def connectionChecksWrong : ChangeSpec := { name := "connectionChecks", fn := fun _ => fun
  | [d1, d2, d3, d4] => { results := [.lit (.bool false)], args := [d1, d2, d3, d4] }
  | _ => none }
def ConnectionChecksWrongFalsely : Prop := connectionChecksRow.holds Try.pinned (OpenSpec.ofChange connectionChecksWrong)

/-- 'garboardlaw32.ConnectionReaches': WHATEVER THE INPUT: true; the input reads as it did. -/
def connectionReachesSpec : ChangeSpec := { name := "connectionReaches", fn := fun _ => fun
  | [d1, d2, d3] => { results := [.lit (.bool true)], args := [d1, d2, d3] }
  | _ => none }
def connectionReachesRow : OpenClaim := { program := "ytbfmfflhdphohaa", sum := "cbf8a0919b4aec9a6c969c24ff4ef483695409f63023454655e6d717a571d40f", func := "garboard/garboardlaw32.ConnectionReaches", spec := "connectionReaches", unfollowed := true, recurses := true, apart := false }
def ConnectionReachesSaid : Prop := connectionReachesRow.holds Try.pinned (OpenSpec.ofChange connectionReachesSpec)

/-- ITS FALSE NEIGHBOUR: 'it returns false'. Refute it at one input. -/
def connectionReachesWrong : ChangeSpec := { name := "connectionReaches", fn := fun _ => fun
  | [d1, d2, d3] => { results := [.lit (.bool false)], args := [d1, d2, d3] }
  | _ => none }
def ConnectionReachesWrongFalsely : Prop := connectionReachesRow.holds Try.pinned (OpenSpec.ofChange connectionReachesWrong)

/-- 'garboardlaw32.ConnectionParts': WHATEVER THE INPUT: true; the input reads as it did. -/
def connectionPartsSpec : ChangeSpec := { name := "connectionParts", fn := fun _ => fun
  | [d1, d2] => { results := [.lit (.bool true)], args := [d1, d2] }
  | _ => none }
def connectionPartsRow : OpenClaim := { program := "ytbfmfflhdphohaa", sum := "cbf8a0919b4aec9a6c969c24ff4ef483695409f63023454655e6d717a571d40f", func := "garboard/garboardlaw32.ConnectionParts", spec := "connectionParts", unfollowed := true, recurses := true, apart := false }
def ConnectionPartsSaid : Prop := connectionPartsRow.holds Try.pinned (OpenSpec.ofChange connectionPartsSpec)

/-- ITS FALSE NEIGHBOUR: 'it returns false'. Refute it at one input. -/
def connectionPartsWrong : ChangeSpec := { name := "connectionParts", fn := fun _ => fun
  | [d1, d2] => { results := [.lit (.bool false)], args := [d1, d2] }
  | _ => none }
def ConnectionPartsWrongFalsely : Prop := connectionPartsRow.holds Try.pinned (OpenSpec.ofChange connectionPartsWrong)

/-- 'garboardlaw32.ConnectionDivides': WHATEVER THE INPUT: true; the input reads as it did. -/
def connectionDividesSpec : ChangeSpec := { name := "connectionDivides", fn := fun _ => fun
  | [d1, d2, d3, d4] => { results := [.lit (.bool true)], args := [d1, d2, d3, d4] }
  | _ => none }
def connectionDividesRow : OpenClaim := { program := "ytbfmfflhdphohaa", sum := "cbf8a0919b4aec9a6c969c24ff4ef483695409f63023454655e6d717a571d40f", func := "garboard/garboardlaw32.ConnectionDivides", spec := "connectionDivides", unfollowed := true, recurses := true, apart := false }
def ConnectionDividesSaid : Prop := connectionDividesRow.holds Try.pinned (OpenSpec.ofChange connectionDividesSpec)

/-- ITS FALSE NEIGHBOUR: 'it returns false'. Refute it at one input. -/
def connectionDividesWrong : ChangeSpec := { name := "connectionDivides", fn := fun _ => fun
  | [d1, d2, d3, d4] => { results := [.lit (.bool false)], args := [d1, d2, d3, d4] }
  | _ => none }
def ConnectionDividesWrongFalsely : Prop := connectionDividesRow.holds Try.pinned (OpenSpec.ofChange connectionDividesWrong)

/-- 'garboardlaw32.ConnectionMore': WHATEVER THE INPUT: true; the input reads as it did. -/
def connectionMoreSpec : ChangeSpec := { name := "connectionMore", fn := fun _ => fun
  | [d1, d2, d3, d4, d5] => { results := [.lit (.bool true)], args := [d1, d2, d3, d4, d5] }
  | _ => none }
def connectionMoreRow : OpenClaim := { program := "ytbfmfflhdphohaa", sum := "cbf8a0919b4aec9a6c969c24ff4ef483695409f63023454655e6d717a571d40f", func := "garboard/garboardlaw32.ConnectionMore", spec := "connectionMore", unfollowed := true, recurses := true, apart := false }
def ConnectionMoreSaid : Prop := connectionMoreRow.holds Try.pinned (OpenSpec.ofChange connectionMoreSpec)

/-- ITS FALSE NEIGHBOUR: 'it returns false'. Refute it at one input. -/
def connectionMoreWrong : ChangeSpec := { name := "connectionMore", fn := fun _ => fun
  | [d1, d2, d3, d4, d5] => { results := [.lit (.bool false)], args := [d1, d2, d3, d4, d5] }
  | _ => none }
def ConnectionMoreWrongFalsely : Prop := connectionMoreRow.holds Try.pinned (OpenSpec.ofChange connectionMoreWrong)

/-- 'garboardlaw32.ConnectionClosed': WHATEVER THE INPUT: true; the input reads as it did. -/
def connectionClosedSpec : ChangeSpec := { name := "connectionClosed", fn := fun _ => fun
  | [d1, d2, d3, d4] => { results := [.lit (.bool true)], args := [d1, d2, d3, d4] }
  | _ => none }
def connectionClosedRow : OpenClaim := { program := "ytbfmfflhdphohaa", sum := "cbf8a0919b4aec9a6c969c24ff4ef483695409f63023454655e6d717a571d40f", func := "garboard/garboardlaw32.ConnectionClosed", spec := "connectionClosed", unfollowed := true, recurses := true, apart := false }
def ConnectionClosedSaid : Prop := connectionClosedRow.holds Try.pinned (OpenSpec.ofChange connectionClosedSpec)

/-- ITS FALSE NEIGHBOUR: 'it returns false'. Refute it at one input. -/
def connectionClosedWrong : ChangeSpec := { name := "connectionClosed", fn := fun _ => fun
  | [d1, d2, d3, d4] => { results := [.lit (.bool false)], args := [d1, d2, d3, d4] }
  | _ => none }
def ConnectionClosedWrongFalsely : Prop := connectionClosedRow.holds Try.pinned (OpenSpec.ofChange connectionClosedWrong)

/-- 'garboardlaw32.ConnectionLeast': WHATEVER THE INPUT: true; the input reads as it did. -/
def connectionLeastSpec : ChangeSpec := { name := "connectionLeast", fn := fun _ => fun
  | [d1, d2, d3, d4] => { results := [.lit (.bool true)], args := [d1, d2, d3, d4] }
  | _ => none }
def connectionLeastRow : OpenClaim := { program := "ytbfmfflhdphohaa", sum := "cbf8a0919b4aec9a6c969c24ff4ef483695409f63023454655e6d717a571d40f", func := "garboard/garboardlaw32.ConnectionLeast", spec := "connectionLeast", unfollowed := true, recurses := true, apart := false }
def ConnectionLeastSaid : Prop := connectionLeastRow.holds Try.pinned (OpenSpec.ofChange connectionLeastSpec)

/-- ITS FALSE NEIGHBOUR: 'it returns false'. Refute it at one input. -/
def connectionLeastWrong : ChangeSpec := { name := "connectionLeast", fn := fun _ => fun
  | [d1, d2, d3, d4] => { results := [.lit (.bool false)], args := [d1, d2, d3, d4] }
  | _ => none }
def ConnectionLeastWrongFalsely : Prop := connectionLeastRow.holds Try.pinned (OpenSpec.ofChange connectionLeastWrong)

/- THE SECOND FORM. 'bulk': how many values and letters a reading holds, each counted each time it is reached (what is shared counts as often as it is met; a slice's spare places count too). A statement '..UptoSaid' is the law's where the arguments, and the package variables that the reading takes, are together of bulk at most 1048576: NARROWER than '..Said'. Prove '..Said' where nothing that the law and all that it calls make is longer than what came in: it says more and counts as full. Else prove '..UptoSaid'. A law counts once. -/
mutual
def uptoBulk {H : Type} : DataW H → Nat
  | .lit (.string bytes) => bytes.length + 1
  | .lit _ => 1
  | .nil => 1
  | .ptr d => uptoBulk d + 1
  | .slice elems spare => uptoBulkAll elems + uptoBulkAll spare + 1
  | .agg parts => uptoBulkAll parts + 1
  | .iface _ d => uptoBulk d + 1
  | .map entries => uptoBulkEntries entries + 1
  | .held _ => 1
def uptoBulkAll {H : Type} : List (DataW H) → Nat
  | [] => 0
  | d :: r => uptoBulk d + uptoBulkAll r
def uptoBulkEntries {H : Type} : List (Lit × DataW H) → Nat
  | [] => 0
  | x :: r => uptoBulkEntry x + uptoBulkEntries r
def uptoBulkEntry {H : Type} : Lit × DataW H → Nat
  | (.string bytes, d) => bytes.length + uptoBulk d + 1
  | (_, d) => uptoBulk d + 1
 end
def uptoSmall : (H : Type) → List (DataW H) → Bool := fun _ ds => decide (uptoBulkAll ds ≤ 1048576)
def OpenSpec.upto (s : _root_.Go.ChangeSpec) : _root_.Go.OpenSpec := { _root_.Go.OpenSpec.ofChange s with cond := some uptoSmall }

/-- 'garboardlaw32.ConnectionChecks', WHERE WHAT IT READS IS OF BULK AT MOST 1048576: true; the input reads as it did. -/
def connectionChecksUptoRow : OpenClaim := { program := "ytbfmfflhdphohaa", sum := "cbf8a0919b4aec9a6c969c24ff4ef483695409f63023454655e6d717a571d40f", func := "garboard/garboardlaw32.ConnectionChecks", spec := "connectionChecks", unfollowed := true, recurses := true, apart := false, narrowed := true }
def ConnectionChecksUptoSaid : Prop := connectionChecksUptoRow.holds Try.pinned (OpenSpec.upto connectionChecksSpec)

/-- 'garboardlaw32.ConnectionReaches', WHERE WHAT IT READS IS OF BULK AT MOST 1048576: true; the input reads as it did. -/
def connectionReachesUptoRow : OpenClaim := { program := "ytbfmfflhdphohaa", sum := "cbf8a0919b4aec9a6c969c24ff4ef483695409f63023454655e6d717a571d40f", func := "garboard/garboardlaw32.ConnectionReaches", spec := "connectionReaches", unfollowed := true, recurses := true, apart := false, narrowed := true }
def ConnectionReachesUptoSaid : Prop := connectionReachesUptoRow.holds Try.pinned (OpenSpec.upto connectionReachesSpec)

/-- 'garboardlaw32.ConnectionParts', WHERE WHAT IT READS IS OF BULK AT MOST 1048576: true; the input reads as it did. -/
def connectionPartsUptoRow : OpenClaim := { program := "ytbfmfflhdphohaa", sum := "cbf8a0919b4aec9a6c969c24ff4ef483695409f63023454655e6d717a571d40f", func := "garboard/garboardlaw32.ConnectionParts", spec := "connectionParts", unfollowed := true, recurses := true, apart := false, narrowed := true }
def ConnectionPartsUptoSaid : Prop := connectionPartsUptoRow.holds Try.pinned (OpenSpec.upto connectionPartsSpec)

/-- 'garboardlaw32.ConnectionDivides', WHERE WHAT IT READS IS OF BULK AT MOST 1048576: true; the input reads as it did. -/
def connectionDividesUptoRow : OpenClaim := { program := "ytbfmfflhdphohaa", sum := "cbf8a0919b4aec9a6c969c24ff4ef483695409f63023454655e6d717a571d40f", func := "garboard/garboardlaw32.ConnectionDivides", spec := "connectionDivides", unfollowed := true, recurses := true, apart := false, narrowed := true }
def ConnectionDividesUptoSaid : Prop := connectionDividesUptoRow.holds Try.pinned (OpenSpec.upto connectionDividesSpec)

/-- 'garboardlaw32.ConnectionMore', WHERE WHAT IT READS IS OF BULK AT MOST 1048576: true; the input reads as it did. -/
def connectionMoreUptoRow : OpenClaim := { program := "ytbfmfflhdphohaa", sum := "cbf8a0919b4aec9a6c969c24ff4ef483695409f63023454655e6d717a571d40f", func := "garboard/garboardlaw32.ConnectionMore", spec := "connectionMore", unfollowed := true, recurses := true, apart := false, narrowed := true }
def ConnectionMoreUptoSaid : Prop := connectionMoreUptoRow.holds Try.pinned (OpenSpec.upto connectionMoreSpec)

/-- 'garboardlaw32.ConnectionClosed', WHERE WHAT IT READS IS OF BULK AT MOST 1048576: true; the input reads as it did. -/
def connectionClosedUptoRow : OpenClaim := { program := "ytbfmfflhdphohaa", sum := "cbf8a0919b4aec9a6c969c24ff4ef483695409f63023454655e6d717a571d40f", func := "garboard/garboardlaw32.ConnectionClosed", spec := "connectionClosed", unfollowed := true, recurses := true, apart := false, narrowed := true }
def ConnectionClosedUptoSaid : Prop := connectionClosedUptoRow.holds Try.pinned (OpenSpec.upto connectionClosedSpec)

/-- 'garboardlaw32.ConnectionLeast', WHERE WHAT IT READS IS OF BULK AT MOST 1048576: true; the input reads as it did. -/
def connectionLeastUptoRow : OpenClaim := { program := "ytbfmfflhdphohaa", sum := "cbf8a0919b4aec9a6c969c24ff4ef483695409f63023454655e6d717a571d40f", func := "garboard/garboardlaw32.ConnectionLeast", spec := "connectionLeast", unfollowed := true, recurses := true, apart := false, narrowed := true }
def ConnectionLeastUptoSaid : Prop := connectionLeastUptoRow.holds Try.pinned (OpenSpec.upto connectionLeastSpec)

end Rows
end Go.Proofs.Ytbfmfflhdphohaa
