/-
  No cell of these rows narrows 'for every input' (looked for: loops, veiled, ifaces, maps, wideKeys, modest, calm, conditions, laid).
  DERIVED. THE GIVEN ROWS OF THIS SEAT. 8 by the template 'for every input the law returns true; each argument reads behind the call as it read before'; 0 by the template 'total and deterministic' (their statements: YtifoncmlelinjaaTotals.lean).
  GIVEN WITH THE SEED: the statements are not yours to turn. If you find one false, say at which input.
  Laid BY PROGRAM, IN A SANDBOX (cutbox-rows.mjs): the forced cells as the released guide's own fill.sh prints them over the translation 64012fe2d90848ca… (all of the seat's roots in one cut). By AI agents, Wed Nov 11 2026. No macro, syntax, notation, axiom, sorry.
-/
import Derived.Test.YtifoncmlelinjaaChecked
import GoSem.Claim
import GoSem.ClaimJoined
import GoSem.ClaimMapViews
import Derived.JoinedTies
import Derived.KernelRfl
namespace Go.Proofs.Ytifoncmlelinjaa
/- THE CELL 'sum', in the pinned program and in every row, IS THE sha256 OF THE DUMP (.gsa) THAT YtifoncmlelinjaaProg.lean LOADS. Nothing in Lean hashes anything: it is a label: what it is worth is what the hold of that sum in a sandbox is worth. -/
noncomputable def Try.pinned : Pinned := { name := "ytifoncmlelinjaa", sum := "64012fe2d90848cabed7ee15da331b0bf8bb3983d9110bdf0b1bd6a805a9a6eb", checked := Try.checked }
namespace Rows
def none {H : Type} : Left H := { results := [], args := [] }

/-- 'seamarklaw36.DiskMatchesReference': WHATEVER THE INPUT: true; the input reads as it did. -/
def diskMatchesReferenceSpec : ChangeSpec := { name := "diskMatchesReference", fn := fun _ => fun
  | [d1, d2, d3, d4, d5] => { results := [.lit (.bool true)], args := [d1, d2, d3, d4, d5] }
  | _ => none }
def diskMatchesReferenceRow : OpenClaim := { program := "ytifoncmlelinjaa", sum := "64012fe2d90848cabed7ee15da331b0bf8bb3983d9110bdf0b1bd6a805a9a6eb", func := "seamark/seamarklaw36.DiskMatchesReference", spec := "diskMatchesReference", unfollowed := true, recurses := true, apart := false }
def DiskMatchesReferenceSaid : Prop := diskMatchesReferenceRow.holds Try.pinned (OpenSpec.ofChange diskMatchesReferenceSpec)

/-- ITS FALSE NEIGHBOUR: 'it returns false'. Refute it at one input. -/
def diskMatchesReferenceWrong : ChangeSpec := { name := "diskMatchesReference", fn := fun _ => fun
  | [d1, d2, d3, d4, d5] => { results := [.lit (.bool false)], args := [d1, d2, d3, d4, d5] }
  | _ => none }
def DiskMatchesReferenceWrongFalsely : Prop := diskMatchesReferenceRow.holds Try.pinned (OpenSpec.ofChange diskMatchesReferenceWrong)

/-- 'seamarklaw36.DiskAppended': WHATEVER THE INPUT: true; the input reads as it did. -/
def diskAppendedSpec : ChangeSpec := { name := "diskAppended", fn := fun _ => fun
  | [d1, d2] => { results := [.lit (.bool true)], args := [d1, d2] }
  | _ => none }
def diskAppendedRow : OpenClaim := { program := "ytifoncmlelinjaa", sum := "64012fe2d90848cabed7ee15da331b0bf8bb3983d9110bdf0b1bd6a805a9a6eb", func := "seamark/seamarklaw36.DiskAppended", spec := "diskAppended", unfollowed := true, recurses := true, apart := false }
def DiskAppendedSaid : Prop := diskAppendedRow.holds Try.pinned (OpenSpec.ofChange diskAppendedSpec)

/-- ITS FALSE NEIGHBOUR: 'it returns false'. Refute it at one input. -/
def diskAppendedWrong : ChangeSpec := { name := "diskAppended", fn := fun _ => fun
  | [d1, d2] => { results := [.lit (.bool false)], args := [d1, d2] }
  | _ => none }
def DiskAppendedWrongFalsely : Prop := diskAppendedRow.holds Try.pinned (OpenSpec.ofChange diskAppendedWrong)

/-- 'seamarklaw36.DiskCuts': WHATEVER THE INPUT: true; the input reads as it did. -/
def diskCutsSpec : ChangeSpec := { name := "diskCuts", fn := fun _ => fun
  | [d1, d2, d3, d4] => { results := [.lit (.bool true)], args := [d1, d2, d3, d4] }
  | _ => none }
def diskCutsRow : OpenClaim := { program := "ytifoncmlelinjaa", sum := "64012fe2d90848cabed7ee15da331b0bf8bb3983d9110bdf0b1bd6a805a9a6eb", func := "seamark/seamarklaw36.DiskCuts", spec := "diskCuts", unfollowed := true, recurses := true, apart := false }
def DiskCutsSaid : Prop := diskCutsRow.holds Try.pinned (OpenSpec.ofChange diskCutsSpec)

/-- ITS FALSE NEIGHBOUR: 'it returns false'. Refute it at one input. -/
def diskCutsWrong : ChangeSpec := { name := "diskCuts", fn := fun _ => fun
  | [d1, d2, d3, d4] => { results := [.lit (.bool false)], args := [d1, d2, d3, d4] }
  | _ => none }
def DiskCutsWrongFalsely : Prop := diskCutsRow.holds Try.pinned (OpenSpec.ofChange diskCutsWrong)

/-- 'seamarklaw36.DiskCompacts': WHATEVER THE INPUT: true; the input reads as it did. -/
def diskCompactsSpec : ChangeSpec := { name := "diskCompacts", fn := fun _ => fun
  | [d1, d2, d3] => { results := [.lit (.bool true)], args := [d1, d2, d3] }
  | _ => none }
def diskCompactsRow : OpenClaim := { program := "ytifoncmlelinjaa", sum := "64012fe2d90848cabed7ee15da331b0bf8bb3983d9110bdf0b1bd6a805a9a6eb", func := "seamark/seamarklaw36.DiskCompacts", spec := "diskCompacts", unfollowed := true, recurses := true, apart := false }
def DiskCompactsSaid : Prop := diskCompactsRow.holds Try.pinned (OpenSpec.ofChange diskCompactsSpec)

/-- ITS FALSE NEIGHBOUR: 'it returns false'. Refute it at one input. -/
def diskCompactsWrong : ChangeSpec := { name := "diskCompacts", fn := fun _ => fun
  | [d1, d2, d3] => { results := [.lit (.bool false)], args := [d1, d2, d3] }
  | _ => none }
def DiskCompactsWrongFalsely : Prop := diskCompactsRow.holds Try.pinned (OpenSpec.ofChange diskCompactsWrong)

/-- 'seamarklaw36.DiskScripts': WHATEVER THE INPUT: true; the input reads as it did. -/
def diskScriptsSpec : ChangeSpec := { name := "diskScripts", fn := fun _ => fun
  | [d1, d2, d3, d4] => { results := [.lit (.bool true)], args := [d1, d2, d3, d4] }
  | _ => none }
def diskScriptsRow : OpenClaim := { program := "ytifoncmlelinjaa", sum := "64012fe2d90848cabed7ee15da331b0bf8bb3983d9110bdf0b1bd6a805a9a6eb", func := "seamark/seamarklaw36.DiskScripts", spec := "diskScripts", unfollowed := true, recurses := true, apart := false }
def DiskScriptsSaid : Prop := diskScriptsRow.holds Try.pinned (OpenSpec.ofChange diskScriptsSpec)

/-- ITS FALSE NEIGHBOUR: 'it returns false'. Refute it at one input. -/
def diskScriptsWrong : ChangeSpec := { name := "diskScripts", fn := fun _ => fun
  | [d1, d2, d3, d4] => { results := [.lit (.bool false)], args := [d1, d2, d3, d4] }
  | _ => none }
def DiskScriptsWrongFalsely : Prop := diskScriptsRow.holds Try.pinned (OpenSpec.ofChange diskScriptsWrong)

/-- 'seamarklaw36.DiskRoom': WHATEVER THE INPUT: true; the input reads as it did. -/
def diskRoomSpec : ChangeSpec := { name := "diskRoom", fn := fun _ => fun
  | [d1, d2, d3] => { results := [.lit (.bool true)], args := [d1, d2, d3] }
  | _ => none }
def diskRoomRow : OpenClaim := { program := "ytifoncmlelinjaa", sum := "64012fe2d90848cabed7ee15da331b0bf8bb3983d9110bdf0b1bd6a805a9a6eb", func := "seamark/seamarklaw36.DiskRoom", spec := "diskRoom", unfollowed := true, recurses := true, apart := false }
def DiskRoomSaid : Prop := diskRoomRow.holds Try.pinned (OpenSpec.ofChange diskRoomSpec)

/-- ITS FALSE NEIGHBOUR: 'it returns false'. Refute it at one input. -/
def diskRoomWrong : ChangeSpec := { name := "diskRoom", fn := fun _ => fun
  | [d1, d2, d3] => { results := [.lit (.bool false)], args := [d1, d2, d3] }
  | _ => none }
def DiskRoomWrongFalsely : Prop := diskRoomRow.holds Try.pinned (OpenSpec.ofChange diskRoomWrong)

/-- 'seamarklaw36.DiskForward': WHATEVER THE INPUT: true; the input reads as it did. -/
def diskForwardSpec : ChangeSpec := { name := "diskForward", fn := fun _ => fun
  | [d1, d2, d3, d4, d5] => { results := [.lit (.bool true)], args := [d1, d2, d3, d4, d5] }
  | _ => none }
def diskForwardRow : OpenClaim := { program := "ytifoncmlelinjaa", sum := "64012fe2d90848cabed7ee15da331b0bf8bb3983d9110bdf0b1bd6a805a9a6eb", func := "seamark/seamarklaw36.DiskForward", spec := "diskForward", unfollowed := true, recurses := true, apart := false }
def DiskForwardSaid : Prop := diskForwardRow.holds Try.pinned (OpenSpec.ofChange diskForwardSpec)

/-- ITS FALSE NEIGHBOUR: 'it returns false'. Refute it at one input. -/
def diskForwardWrong : ChangeSpec := { name := "diskForward", fn := fun _ => fun
  | [d1, d2, d3, d4, d5] => { results := [.lit (.bool false)], args := [d1, d2, d3, d4, d5] }
  | _ => none }
def DiskForwardWrongFalsely : Prop := diskForwardRow.holds Try.pinned (OpenSpec.ofChange diskForwardWrong)

/-- 'seamarklaw36.DiskStays': WHATEVER THE INPUT: true; the input reads as it did. -/
def diskStaysSpec : ChangeSpec := { name := "diskStays", fn := fun _ => fun
  | [d1, d2, d3] => { results := [.lit (.bool true)], args := [d1, d2, d3] }
  | _ => none }
def diskStaysRow : OpenClaim := { program := "ytifoncmlelinjaa", sum := "64012fe2d90848cabed7ee15da331b0bf8bb3983d9110bdf0b1bd6a805a9a6eb", func := "seamark/seamarklaw36.DiskStays", spec := "diskStays", unfollowed := true, recurses := true, apart := false }
def DiskStaysSaid : Prop := diskStaysRow.holds Try.pinned (OpenSpec.ofChange diskStaysSpec)

/-- ITS FALSE NEIGHBOUR: 'it returns false'. Refute it at one input. -/
def diskStaysWrong : ChangeSpec := { name := "diskStays", fn := fun _ => fun
  | [d1, d2, d3] => { results := [.lit (.bool false)], args := [d1, d2, d3] }
  | _ => none }
def DiskStaysWrongFalsely : Prop := diskStaysRow.holds Try.pinned (OpenSpec.ofChange diskStaysWrong)

/- THE SECOND FORM. 'bulk': how many values and letters a reading holds, each counted each time it is reached (what is shared counts as often as it is met; a slice's spare places count too). A statement '..UptoSaid' is the law's where the arguments, and the package variables that the reading takes, are together of bulk at most 1048576: NARROWER than '..Said'. Prove '..Said' where nothing that the law and all that it calls make is longer than what came in: it says more and counts as full. Else prove '..UptoSaid'. A law counts once. -/
mutual
def uptoBulk {H : Type} : DataW H → Nat
  | .lit (.string bytes) => bytes.length + 1
  | .lit _ => 1
  | .nil => 1
  | .ptr d => uptoBulk d + 1
  | .slice elems spare => uptoBulkAll elems + uptoBulkAll spare + 1
  | .agg parts => uptoBulkAll parts + 1
  | .iface _ d => uptoBulk d + 1
  | .map entries => uptoBulkEntries entries + 1
  | .held _ => 1
def uptoBulkAll {H : Type} : List (DataW H) → Nat
  | [] => 0
  | d :: r => uptoBulk d + uptoBulkAll r
def uptoBulkEntries {H : Type} : List (Lit × DataW H) → Nat
  | [] => 0
  | x :: r => uptoBulkEntry x + uptoBulkEntries r
def uptoBulkEntry {H : Type} : Lit × DataW H → Nat
  | (.string bytes, d) => bytes.length + uptoBulk d + 1
  | (_, d) => uptoBulk d + 1
 end
def uptoSmall : (H : Type) → List (DataW H) → Bool := fun _ ds => decide (uptoBulkAll ds ≤ 1048576)
def OpenSpec.upto (s : _root_.Go.ChangeSpec) : _root_.Go.OpenSpec := { _root_.Go.OpenSpec.ofChange s with cond := some uptoSmall }

/-- 'seamarklaw36.DiskMatchesReference', WHERE WHAT IT READS IS OF BULK AT MOST 1048576: true; the input reads as it did. -/
def diskMatchesReferenceUptoRow : OpenClaim := { program := "ytifoncmlelinjaa", sum := "64012fe2d90848cabed7ee15da331b0bf8bb3983d9110bdf0b1bd6a805a9a6eb", func := "seamark/seamarklaw36.DiskMatchesReference", spec := "diskMatchesReference", unfollowed := true, recurses := true, apart := false, narrowed := true }
def DiskMatchesReferenceUptoSaid : Prop := diskMatchesReferenceUptoRow.holds Try.pinned (OpenSpec.upto diskMatchesReferenceSpec)

/-- 'seamarklaw36.DiskAppended', WHERE WHAT IT READS IS OF BULK AT MOST 1048576: true; the input reads as it did. -/
def diskAppendedUptoRow : OpenClaim := { program := "ytifoncmlelinjaa", sum := "64012fe2d90848cabed7ee15da331b0bf8bb3983d9110bdf0b1bd6a805a9a6eb", func := "seamark/seamarklaw36.DiskAppended", spec := "diskAppended", unfollowed := true, recurses := true, apart := false, narrowed := true }
def DiskAppendedUptoSaid : Prop := diskAppendedUptoRow.holds Try.pinned (OpenSpec.upto diskAppendedSpec)

/-- 'seamarklaw36.DiskCuts', WHERE WHAT IT READS IS OF BULK AT MOST 1048576: true; the input reads as it did. -/
def diskCutsUptoRow : OpenClaim := { program := "ytifoncmlelinjaa", sum := "64012fe2d90848cabed7ee15da331b0bf8bb3983d9110bdf0b1bd6a805a9a6eb", func := "seamark/seamarklaw36.DiskCuts", spec := "diskCuts", unfollowed := true, recurses := true, apart := false, narrowed := true }
def DiskCutsUptoSaid : Prop := diskCutsUptoRow.holds Try.pinned (OpenSpec.upto diskCutsSpec)

/-- 'seamarklaw36.DiskCompacts', WHERE WHAT IT READS IS OF BULK AT MOST 1048576: true; the input reads as it did. -/
def diskCompactsUptoRow : OpenClaim := { program := "ytifoncmlelinjaa", sum := "64012fe2d90848cabed7ee15da331b0bf8bb3983d9110bdf0b1bd6a805a9a6eb", func := "seamark/seamarklaw36.DiskCompacts", spec := "diskCompacts", unfollowed := true, recurses := true, apart := false, narrowed := true }
def DiskCompactsUptoSaid : Prop := diskCompactsUptoRow.holds Try.pinned (OpenSpec.upto diskCompactsSpec)

/-- 'seamarklaw36.DiskScripts', WHERE WHAT IT READS IS OF BULK AT MOST 1048576: true; the input reads as it did. -/
def diskScriptsUptoRow : OpenClaim := { program := "ytifoncmlelinjaa", sum := "64012fe2d90848cabed7ee15da331b0bf8bb3983d9110bdf0b1bd6a805a9a6eb", func := "seamark/seamarklaw36.DiskScripts", spec := "diskScripts", unfollowed := true, recurses := true, apart := false, narrowed := true }
def DiskScriptsUptoSaid : Prop := diskScriptsUptoRow.holds Try.pinned (OpenSpec.upto diskScriptsSpec)

/-- 'seamarklaw36.DiskRoom', WHERE WHAT IT READS IS OF BULK AT MOST 1048576: true; the input reads as it did. -/
def diskRoomUptoRow : OpenClaim := { program := "ytifoncmlelinjaa", sum := "64012fe2d90848cabed7ee15da331b0bf8bb3983d9110bdf0b1bd6a805a9a6eb", func := "seamark/seamarklaw36.DiskRoom", spec := "diskRoom", unfollowed := true, recurses := true, apart := false, narrowed := true }
def DiskRoomUptoSaid : Prop := diskRoomUptoRow.holds Try.pinned (OpenSpec.upto diskRoomSpec)

/-- 'seamarklaw36.DiskForward', WHERE WHAT IT READS IS OF BULK AT MOST 1048576: true; the input reads as it did. -/
def diskForwardUptoRow : OpenClaim := { program := "ytifoncmlelinjaa", sum := "64012fe2d90848cabed7ee15da331b0bf8bb3983d9110bdf0b1bd6a805a9a6eb", func := "seamark/seamarklaw36.DiskForward", spec := "diskForward", unfollowed := true, recurses := true, apart := false, narrowed := true }
def DiskForwardUptoSaid : Prop := diskForwardUptoRow.holds Try.pinned (OpenSpec.upto diskForwardSpec)

/-- 'seamarklaw36.DiskStays', WHERE WHAT IT READS IS OF BULK AT MOST 1048576: true; the input reads as it did. -/
def diskStaysUptoRow : OpenClaim := { program := "ytifoncmlelinjaa", sum := "64012fe2d90848cabed7ee15da331b0bf8bb3983d9110bdf0b1bd6a805a9a6eb", func := "seamark/seamarklaw36.DiskStays", spec := "diskStays", unfollowed := true, recurses := true, apart := false, narrowed := true }
def DiskStaysUptoSaid : Prop := diskStaysUptoRow.holds Try.pinned (OpenSpec.upto diskStaysSpec)

end Rows
end Go.Proofs.Ytifoncmlelinjaa
