/-
  No cell of these rows narrows 'for every input' (looked for: loops, veiled, ifaces, maps, wideKeys, modest, calm, conditions, laid).
  DERIVED. THE GIVEN ROWS OF THIS SEAT. 6 by the template 'for every input the law returns true; each argument reads behind the call as it read before'; 0 by the template 'total and deterministic' (their statements: YtbckibbgajfihaaTotals.lean).
  GIVEN WITH THE SEED: the statements are not yours to turn. If you find one false, say at which input.
  Laid BY PROGRAM, IN A SANDBOX (cutbox-rows.mjs): the forced cells as the released guide's own fill.sh prints them over the translation 2869b9374e6d56bc… (all of the seat's roots in one cut). By AI agents, Wed Nov 11 2026. No macro, syntax, notation, axiom, sorry.
-/
import Derived.Test.YtbckibbgajfihaaChecked
import GoSem.Claim
import GoSem.ClaimJoined
import GoSem.ClaimMapViews
import Derived.JoinedTies
import Derived.KernelRfl
namespace Go.Proofs.Ytbckibbgajfihaa
/- THE CELL 'sum', in the pinned program and in every row, IS THE sha256 OF THE DUMP (.gsa) THAT YtbckibbgajfihaaProg.lean LOADS. Nothing in Lean hashes anything: it is a label: what it is worth is what the hold of that sum in a sandbox is worth. -/
noncomputable def Try.pinned : Pinned := { name := "ytbckibbgajfihaa", sum := "2869b9374e6d56bc0a2ed6f5d6078b9745d627903ef6dbedff1fa64fc862cf90", checked := Try.checked }
namespace Rows
def none {H : Type} : Left H := { results := [], args := [] }

/-- 'seamarklaw41.AccordOwner': WHATEVER THE INPUT: true; the input reads as it did. -/
def accordOwnerSpec : ChangeSpec := { name := "accordOwner", fn := fun _ => fun
  | [d1, d2, d3] => { results := [.lit (.bool true)], args := [d1, d2, d3] }
  | _ => none }
def accordOwnerRow : OpenClaim := { program := "ytbckibbgajfihaa", sum := "2869b9374e6d56bc0a2ed6f5d6078b9745d627903ef6dbedff1fa64fc862cf90", func := "seamark/seamarklaw41.AccordOwner", spec := "accordOwner", unfollowed := true, recurses := true, apart := false }
def AccordOwnerSaid : Prop := accordOwnerRow.holds Try.pinned (OpenSpec.ofChange accordOwnerSpec)

/-- ITS FALSE NEIGHBOUR: 'it returns false'. Refute it at one input. -/
def accordOwnerWrong : ChangeSpec := { name := "accordOwner", fn := fun _ => fun
  | [d1, d2, d3] => { results := [.lit (.bool false)], args := [d1, d2, d3] }
  | _ => none }
def AccordOwnerWrongFalsely : Prop := accordOwnerRow.holds Try.pinned (OpenSpec.ofChange accordOwnerWrong)

/-- 'seamarklaw41.AccordHistory': WHATEVER THE INPUT: true; the input reads as it did. -/
def accordHistorySpec : ChangeSpec := { name := "accordHistory", fn := fun _ => fun
  | [d1, d2, d3, d4] => { results := [.lit (.bool true)], args := [d1, d2, d3, d4] }
  | _ => none }
def accordHistoryRow : OpenClaim := { program := "ytbckibbgajfihaa", sum := "2869b9374e6d56bc0a2ed6f5d6078b9745d627903ef6dbedff1fa64fc862cf90", func := "seamark/seamarklaw41.AccordHistory", spec := "accordHistory", unfollowed := true, recurses := true, apart := false }
def AccordHistorySaid : Prop := accordHistoryRow.holds Try.pinned (OpenSpec.ofChange accordHistorySpec)

/-- ITS FALSE NEIGHBOUR: 'it returns false'. Refute it at one input. -/
def accordHistoryWrong : ChangeSpec := { name := "accordHistory", fn := fun _ => fun
  | [d1, d2, d3, d4] => { results := [.lit (.bool false)], args := [d1, d2, d3, d4] }
  | _ => none }
def AccordHistoryWrongFalsely : Prop := accordHistoryRow.holds Try.pinned (OpenSpec.ofChange accordHistoryWrong)

/-- 'seamarklaw41.AccordSigned': WHATEVER THE INPUT: true; the input reads as it did. -/
def accordSignedSpec : ChangeSpec := { name := "accordSigned", fn := fun _ => fun
  | [d1, d2, d3] => { results := [.lit (.bool true)], args := [d1, d2, d3] }
  | _ => none }
def accordSignedRow : OpenClaim := { program := "ytbckibbgajfihaa", sum := "2869b9374e6d56bc0a2ed6f5d6078b9745d627903ef6dbedff1fa64fc862cf90", func := "seamark/seamarklaw41.AccordSigned", spec := "accordSigned", unfollowed := true, recurses := true, apart := false }
def AccordSignedSaid : Prop := accordSignedRow.holds Try.pinned (OpenSpec.ofChange accordSignedSpec)

/-- ITS FALSE NEIGHBOUR: 'it returns false'. Refute it at one input. -/
def accordSignedWrong : ChangeSpec := { name := "accordSigned", fn := fun _ => fun
  | [d1, d2, d3] => { results := [.lit (.bool false)], args := [d1, d2, d3] }
  | _ => none }
def AccordSignedWrongFalsely : Prop := accordSignedRow.holds Try.pinned (OpenSpec.ofChange accordSignedWrong)

/-- 'seamarklaw41.AccordConcerned': WHATEVER THE INPUT: true; the input reads as it did. -/
def accordConcernedSpec : ChangeSpec := { name := "accordConcerned", fn := fun _ => fun
  | [d1, d2, d3] => { results := [.lit (.bool true)], args := [d1, d2, d3] }
  | _ => none }
def accordConcernedRow : OpenClaim := { program := "ytbckibbgajfihaa", sum := "2869b9374e6d56bc0a2ed6f5d6078b9745d627903ef6dbedff1fa64fc862cf90", func := "seamark/seamarklaw41.AccordConcerned", spec := "accordConcerned", unfollowed := true, recurses := true, apart := false }
def AccordConcernedSaid : Prop := accordConcernedRow.holds Try.pinned (OpenSpec.ofChange accordConcernedSpec)

/-- ITS FALSE NEIGHBOUR: 'it returns false'. Refute it at one input. -/
def accordConcernedWrong : ChangeSpec := { name := "accordConcerned", fn := fun _ => fun
  | [d1, d2, d3] => { results := [.lit (.bool false)], args := [d1, d2, d3] }
  | _ => none }
def AccordConcernedWrongFalsely : Prop := accordConcernedRow.holds Try.pinned (OpenSpec.ofChange accordConcernedWrong)

/-- 'seamarklaw41.AccordMoved': WHATEVER THE INPUT: true; the input reads as it did. -/
def accordMovedSpec : ChangeSpec := { name := "accordMoved", fn := fun _ => fun
  | [d1, d2, d3, d4] => { results := [.lit (.bool true)], args := [d1, d2, d3, d4] }
  | _ => none }
def accordMovedRow : OpenClaim := { program := "ytbckibbgajfihaa", sum := "2869b9374e6d56bc0a2ed6f5d6078b9745d627903ef6dbedff1fa64fc862cf90", func := "seamark/seamarklaw41.AccordMoved", spec := "accordMoved", unfollowed := true, recurses := true, apart := false }
def AccordMovedSaid : Prop := accordMovedRow.holds Try.pinned (OpenSpec.ofChange accordMovedSpec)

/-- ITS FALSE NEIGHBOUR: 'it returns false'. Refute it at one input. -/
def accordMovedWrong : ChangeSpec := { name := "accordMoved", fn := fun _ => fun
  | [d1, d2, d3, d4] => { results := [.lit (.bool false)], args := [d1, d2, d3, d4] }
  | _ => none }
def AccordMovedWrongFalsely : Prop := accordMovedRow.holds Try.pinned (OpenSpec.ofChange accordMovedWrong)

/-- 'seamarklaw41.AccordForce': WHATEVER THE INPUT: true; the input reads as it did. -/
def accordForceSpec : ChangeSpec := { name := "accordForce", fn := fun _ => fun
  | [d1, d2, d3, d4] => { results := [.lit (.bool true)], args := [d1, d2, d3, d4] }
  | _ => none }
def accordForceRow : OpenClaim := { program := "ytbckibbgajfihaa", sum := "2869b9374e6d56bc0a2ed6f5d6078b9745d627903ef6dbedff1fa64fc862cf90", func := "seamark/seamarklaw41.AccordForce", spec := "accordForce", unfollowed := true, recurses := true, apart := false }
def AccordForceSaid : Prop := accordForceRow.holds Try.pinned (OpenSpec.ofChange accordForceSpec)

/-- ITS FALSE NEIGHBOUR: 'it returns false'. Refute it at one input. -/
def accordForceWrong : ChangeSpec := { name := "accordForce", fn := fun _ => fun
  | [d1, d2, d3, d4] => { results := [.lit (.bool false)], args := [d1, d2, d3, d4] }
  | _ => none }
def AccordForceWrongFalsely : Prop := accordForceRow.holds Try.pinned (OpenSpec.ofChange accordForceWrong)

/- THE SECOND FORM. 'bulk': how many values and letters a reading holds, each counted each time it is reached (what is shared counts as often as it is met; a slice's spare places count too). A statement '..UptoSaid' is the law's where the arguments, and the package variables that the reading takes, are together of bulk at most 1048576: NARROWER than '..Said'. Prove '..Said' where nothing that the law and all that it calls make is longer than what came in: it says more and counts as full. Else prove '..UptoSaid'. A law counts once. -/
mutual
def uptoBulk {H : Type} : DataW H → Nat
  | .lit (.string bytes) => bytes.length + 1
  | .lit _ => 1
  | .nil => 1
  | .ptr d => uptoBulk d + 1
  | .slice elems spare => uptoBulkAll elems + uptoBulkAll spare + 1
  | .agg parts => uptoBulkAll parts + 1
  | .iface _ d => uptoBulk d + 1
  | .map entries => uptoBulkEntries entries + 1
  | .held _ => 1
def uptoBulkAll {H : Type} : List (DataW H) → Nat
  | [] => 0
  | d :: r => uptoBulk d + uptoBulkAll r
def uptoBulkEntries {H : Type} : List (Lit × DataW H) → Nat
  | [] => 0
  | x :: r => uptoBulkEntry x + uptoBulkEntries r
def uptoBulkEntry {H : Type} : Lit × DataW H → Nat
  | (.string bytes, d) => bytes.length + uptoBulk d + 1
  | (_, d) => uptoBulk d + 1
 end
def uptoSmall : (H : Type) → List (DataW H) → Bool := fun _ ds => decide (uptoBulkAll ds ≤ 1048576)
def OpenSpec.upto (s : _root_.Go.ChangeSpec) : _root_.Go.OpenSpec := { _root_.Go.OpenSpec.ofChange s with cond := some uptoSmall }

/-- 'seamarklaw41.AccordOwner', WHERE WHAT IT READS IS OF BULK AT MOST 1048576: true; the input reads as it did. -/
def accordOwnerUptoRow : OpenClaim := { program := "ytbckibbgajfihaa", sum := "2869b9374e6d56bc0a2ed6f5d6078b9745d627903ef6dbedff1fa64fc862cf90", func := "seamark/seamarklaw41.AccordOwner", spec := "accordOwner", unfollowed := true, recurses := true, apart := false, narrowed := true }
def AccordOwnerUptoSaid : Prop := accordOwnerUptoRow.holds Try.pinned (OpenSpec.upto accordOwnerSpec)

/-- 'seamarklaw41.AccordHistory', WHERE WHAT IT READS IS OF BULK AT MOST 1048576: true; the input reads as it did. -/
def accordHistoryUptoRow : OpenClaim := { program := "ytbckibbgajfihaa", sum := "2869b9374e6d56bc0a2ed6f5d6078b9745d627903ef6dbedff1fa64fc862cf90", func := "seamark/seamarklaw41.AccordHistory", spec := "accordHistory", unfollowed := true, recurses := true, apart := false, narrowed := true }
def AccordHistoryUptoSaid : Prop := accordHistoryUptoRow.holds Try.pinned (OpenSpec.upto accordHistorySpec)

/-- 'seamarklaw41.AccordSigned', WHERE WHAT IT READS IS OF BULK AT MOST 1048576: true; the input reads as it did. -/
def accordSignedUptoRow : OpenClaim := { program := "ytbckibbgajfihaa", sum := "2869b9374e6d56bc0a2ed6f5d6078b9745d627903ef6dbedff1fa64fc862cf90", func := "seamark/seamarklaw41.AccordSigned", spec := "accordSigned", unfollowed := true, recurses := true, apart := false, narrowed := true }
def AccordSignedUptoSaid : Prop := accordSignedUptoRow.holds Try.pinned (OpenSpec.upto accordSignedSpec)

/-- 'seamarklaw41.AccordConcerned', WHERE WHAT IT READS IS OF BULK AT MOST 1048576: true; the input reads as it did. -/
def accordConcernedUptoRow : OpenClaim := { program := "ytbckibbgajfihaa", sum := "2869b9374e6d56bc0a2ed6f5d6078b9745d627903ef6dbedff1fa64fc862cf90", func := "seamark/seamarklaw41.AccordConcerned", spec := "accordConcerned", unfollowed := true, recurses := true, apart := false, narrowed := true }
def AccordConcernedUptoSaid : Prop := accordConcernedUptoRow.holds Try.pinned (OpenSpec.upto accordConcernedSpec)

/-- 'seamarklaw41.AccordMoved', WHERE WHAT IT READS IS OF BULK AT MOST 1048576: true; the input reads as it did. -/
def accordMovedUptoRow : OpenClaim := { program := "ytbckibbgajfihaa", sum := "2869b9374e6d56bc0a2ed6f5d6078b9745d627903ef6dbedff1fa64fc862cf90", func := "seamark/seamarklaw41.AccordMoved", spec := "accordMoved", unfollowed := true, recurses := true, apart := false, narrowed := true }
def AccordMovedUptoSaid : Prop := accordMovedUptoRow.holds Try.pinned (OpenSpec.upto accordMovedSpec)

/-- 'seamarklaw41.AccordForce', WHERE WHAT IT READS IS OF BULK AT MOST 1048576: true; the input reads as it did. -/
def accordForceUptoRow : OpenClaim := { program := "ytbckibbgajfihaa", sum := "2869b9374e6d56bc0a2ed6f5d6078b9745d627903ef6dbedff1fa64fc862cf90", func := "seamark/seamarklaw41.AccordForce", spec := "accordForce", unfollowed := true, recurses := true, apart := false, narrowed := true }
def AccordForceUptoSaid : Prop := accordForceUptoRow.holds Try.pinned (OpenSpec.upto accordForceSpec)

end Rows
end Go.Proofs.Ytbckibbgajfihaa
