/-
  No cell of these rows narrows 'for every input' (looked for: loops, veiled, ifaces, maps, wideKeys, modest, calm, conditions, laid).
  DERIVED. THE GIVEN ROWS OF THIS SEAT. 10 by the template 'for every input the law returns true; each argument reads behind the call as it read before'; 0 by the template 'total and deterministic' (their statements: YthfnmooeijneoaaTotals.lean).
  GIVEN WITH THE SEED: the statements are not yours to turn. If you find one false, say at which input.
  Laid BY PROGRAM, IN A SANDBOX (cutbox-rows.mjs): the forced cells as the released guide's own fill.sh prints them over the translation 5011e34e5b94ff92… (all of the seat's roots in one cut). By AI agents, Wed Nov 11 2026. No macro, syntax, notation, axiom, sorry.
-/
import Derived.Test.YthfnmooeijneoaaChecked
import GoSem.Claim
import GoSem.ClaimJoined
import GoSem.ClaimMapViews
import Derived.JoinedTies
import Derived.KernelRfl
namespace Go.Proofs.Ythfnmooeijneoaa
/- THE CELL 'sum', in the pinned program and in every row, IS THE sha256 OF THE DUMP (.gsa) THAT YthfnmooeijneoaaProg.lean LOADS. Nothing in Lean hashes anything: it is a label: what it is worth is what the hold of that sum in a sandbox is worth. -/
noncomputable def Try.pinned : Pinned := { name := "ythfnmooeijneoaa", sum := "5011e34e5b94ff920b6ff55ba86dcb8a27220a9ac2406da1b6dad468e4f3d5bd", checked := Try.checked }
namespace Rows
def none {H : Type} : Left H := { results := [], args := [] }

/-- 'seamarklaw06.TideNeeds': WHATEVER THE INPUT: true; the input reads as it did. -/
def tideNeedsSpec : ChangeSpec := { name := "tideNeeds", fn := fun _ => fun
  | [d1, d2, d3, d4, d5] => { results := [.lit (.bool true)], args := [d1, d2, d3, d4, d5] }
  | _ => none }
def tideNeedsRow : OpenClaim := { program := "ythfnmooeijneoaa", sum := "5011e34e5b94ff920b6ff55ba86dcb8a27220a9ac2406da1b6dad468e4f3d5bd", func := "seamark/seamarklaw06.TideNeeds", spec := "tideNeeds", unfollowed := true, recurses := true, apart := false }
def TideNeedsSaid : Prop := tideNeedsRow.holds Try.pinned (OpenSpec.ofChange tideNeedsSpec)

/-- ITS FALSE NEIGHBOUR: 'it returns false'. Refute it at one input. -/
def tideNeedsWrong : ChangeSpec := { name := "tideNeeds", fn := fun _ => fun
  | [d1, d2, d3, d4, d5] => { results := [.lit (.bool false)], args := [d1, d2, d3, d4, d5] }
  | _ => none }
def TideNeedsWrongFalsely : Prop := tideNeedsRow.holds Try.pinned (OpenSpec.ofChange tideNeedsWrong)

/-- 'seamarklaw06.TideMatchesReference': WHATEVER THE INPUT: true; the input reads as it did. -/
def tideMatchesReferenceSpec : ChangeSpec := { name := "tideMatchesReference", fn := fun _ => fun
  | [d1, d2, d3, d4, d5, d6] => { results := [.lit (.bool true)], args := [d1, d2, d3, d4, d5, d6] }
  | _ => none }
def tideMatchesReferenceRow : OpenClaim := { program := "ythfnmooeijneoaa", sum := "5011e34e5b94ff920b6ff55ba86dcb8a27220a9ac2406da1b6dad468e4f3d5bd", func := "seamark/seamarklaw06.TideMatchesReference", spec := "tideMatchesReference", unfollowed := true, recurses := true, apart := false }
def TideMatchesReferenceSaid : Prop := tideMatchesReferenceRow.holds Try.pinned (OpenSpec.ofChange tideMatchesReferenceSpec)

/-- ITS FALSE NEIGHBOUR: 'it returns false'. Refute it at one input. -/
def tideMatchesReferenceWrong : ChangeSpec := { name := "tideMatchesReference", fn := fun _ => fun
  | [d1, d2, d3, d4, d5, d6] => { results := [.lit (.bool false)], args := [d1, d2, d3, d4, d5, d6] }
  | _ => none }
def TideMatchesReferenceWrongFalsely : Prop := tideMatchesReferenceRow.holds Try.pinned (OpenSpec.ofChange tideMatchesReferenceWrong)

/-- 'seamarklaw39.KeelMatchesReference': WHATEVER THE INPUT: true; the input reads as it did. -/
def keelMatchesReferenceSpec : ChangeSpec := { name := "keelMatchesReference", fn := fun _ => fun
  | [d1, d2, d3, d4, d5, d6] => { results := [.lit (.bool true)], args := [d1, d2, d3, d4, d5, d6] }
  | _ => none }
def keelMatchesReferenceRow : OpenClaim := { program := "ythfnmooeijneoaa", sum := "5011e34e5b94ff920b6ff55ba86dcb8a27220a9ac2406da1b6dad468e4f3d5bd", func := "seamark/seamarklaw39.KeelMatchesReference", spec := "keelMatchesReference", unfollowed := true, recurses := true, apart := false }
def KeelMatchesReferenceSaid : Prop := keelMatchesReferenceRow.holds Try.pinned (OpenSpec.ofChange keelMatchesReferenceSpec)

/-- ITS FALSE NEIGHBOUR: 'it returns false'. Refute it at one input. -/
def keelMatchesReferenceWrong : ChangeSpec := { name := "keelMatchesReference", fn := fun _ => fun
  | [d1, d2, d3, d4, d5, d6] => { results := [.lit (.bool false)], args := [d1, d2, d3, d4, d5, d6] }
  | _ => none }
def KeelMatchesReferenceWrongFalsely : Prop := keelMatchesReferenceRow.holds Try.pinned (OpenSpec.ofChange keelMatchesReferenceWrong)

/-- 'seamarklaw39.KeelNeeds': WHATEVER THE INPUT: true; the input reads as it did. -/
def keelNeedsSpec : ChangeSpec := { name := "keelNeeds", fn := fun _ => fun
  | [d1, d2, d3, d4] => { results := [.lit (.bool true)], args := [d1, d2, d3, d4] }
  | _ => none }
def keelNeedsRow : OpenClaim := { program := "ythfnmooeijneoaa", sum := "5011e34e5b94ff920b6ff55ba86dcb8a27220a9ac2406da1b6dad468e4f3d5bd", func := "seamark/seamarklaw39.KeelNeeds", spec := "keelNeeds", unfollowed := true, recurses := true, apart := false }
def KeelNeedsSaid : Prop := keelNeedsRow.holds Try.pinned (OpenSpec.ofChange keelNeedsSpec)

/-- ITS FALSE NEIGHBOUR: 'it returns false'. Refute it at one input. -/
def keelNeedsWrong : ChangeSpec := { name := "keelNeeds", fn := fun _ => fun
  | [d1, d2, d3, d4] => { results := [.lit (.bool false)], args := [d1, d2, d3, d4] }
  | _ => none }
def KeelNeedsWrongFalsely : Prop := keelNeedsRow.holds Try.pinned (OpenSpec.ofChange keelNeedsWrong)

/-- 'seamarklaw39.KeelLeast': WHATEVER THE INPUT: true; the input reads as it did. -/
def keelLeastSpec : ChangeSpec := { name := "keelLeast", fn := fun _ => fun
  | [d1, d2, d3, d4, d5, d6] => { results := [.lit (.bool true)], args := [d1, d2, d3, d4, d5, d6] }
  | _ => none }
def keelLeastRow : OpenClaim := { program := "ythfnmooeijneoaa", sum := "5011e34e5b94ff920b6ff55ba86dcb8a27220a9ac2406da1b6dad468e4f3d5bd", func := "seamark/seamarklaw39.KeelLeast", spec := "keelLeast", unfollowed := true, recurses := true, apart := false }
def KeelLeastSaid : Prop := keelLeastRow.holds Try.pinned (OpenSpec.ofChange keelLeastSpec)

/-- ITS FALSE NEIGHBOUR: 'it returns false'. Refute it at one input. -/
def keelLeastWrong : ChangeSpec := { name := "keelLeast", fn := fun _ => fun
  | [d1, d2, d3, d4, d5, d6] => { results := [.lit (.bool false)], args := [d1, d2, d3, d4, d5, d6] }
  | _ => none }
def KeelLeastWrongFalsely : Prop := keelLeastRow.holds Try.pinned (OpenSpec.ofChange keelLeastWrong)

/-- 'seamarklaw39.KeelTrue': WHATEVER THE INPUT: true; the input reads as it did. -/
def keelTrueSpec : ChangeSpec := { name := "keelTrue", fn := fun _ => fun
  | [d1, d2, d3, d4, d5, d6, d7, d8, d9] => { results := [.lit (.bool true)], args := [d1, d2, d3, d4, d5, d6, d7, d8, d9] }
  | _ => none }
def keelTrueRow : OpenClaim := { program := "ythfnmooeijneoaa", sum := "5011e34e5b94ff920b6ff55ba86dcb8a27220a9ac2406da1b6dad468e4f3d5bd", func := "seamark/seamarklaw39.KeelTrue", spec := "keelTrue", unfollowed := true, recurses := true, apart := false }
def KeelTrueSaid : Prop := keelTrueRow.holds Try.pinned (OpenSpec.ofChange keelTrueSpec)

/-- ITS FALSE NEIGHBOUR: 'it returns false'. Refute it at one input. -/
def keelTrueWrong : ChangeSpec := { name := "keelTrue", fn := fun _ => fun
  | [d1, d2, d3, d4, d5, d6, d7, d8, d9] => { results := [.lit (.bool false)], args := [d1, d2, d3, d4, d5, d6, d7, d8, d9] }
  | _ => none }
def KeelTrueWrongFalsely : Prop := keelTrueRow.holds Try.pinned (OpenSpec.ofChange keelTrueWrong)

/-- 'seamarklaw39.KeelFastest': WHATEVER THE INPUT: true; the input reads as it did. -/
def keelFastestSpec : ChangeSpec := { name := "keelFastest", fn := fun _ => fun
  | [d1, d2, d3, d4] => { results := [.lit (.bool true)], args := [d1, d2, d3, d4] }
  | _ => none }
def keelFastestRow : OpenClaim := { program := "ythfnmooeijneoaa", sum := "5011e34e5b94ff920b6ff55ba86dcb8a27220a9ac2406da1b6dad468e4f3d5bd", func := "seamark/seamarklaw39.KeelFastest", spec := "keelFastest", unfollowed := true, recurses := true, apart := false }
def KeelFastestSaid : Prop := keelFastestRow.holds Try.pinned (OpenSpec.ofChange keelFastestSpec)

/-- ITS FALSE NEIGHBOUR: 'it returns false'. Refute it at one input. -/
def keelFastestWrong : ChangeSpec := { name := "keelFastest", fn := fun _ => fun
  | [d1, d2, d3, d4] => { results := [.lit (.bool false)], args := [d1, d2, d3, d4] }
  | _ => none }
def KeelFastestWrongFalsely : Prop := keelFastestRow.holds Try.pinned (OpenSpec.ofChange keelFastestWrong)

/-- 'seamarklaw39.KeelWindows': WHATEVER THE INPUT: true; the input reads as it did. -/
def keelWindowsSpec : ChangeSpec := { name := "keelWindows", fn := fun _ => fun
  | [d1, d2, d3, d4, d5] => { results := [.lit (.bool true)], args := [d1, d2, d3, d4, d5] }
  | _ => none }
def keelWindowsRow : OpenClaim := { program := "ythfnmooeijneoaa", sum := "5011e34e5b94ff920b6ff55ba86dcb8a27220a9ac2406da1b6dad468e4f3d5bd", func := "seamark/seamarklaw39.KeelWindows", spec := "keelWindows", unfollowed := true, recurses := true, apart := false }
def KeelWindowsSaid : Prop := keelWindowsRow.holds Try.pinned (OpenSpec.ofChange keelWindowsSpec)

/-- ITS FALSE NEIGHBOUR: 'it returns false'. Refute it at one input. -/
def keelWindowsWrong : ChangeSpec := { name := "keelWindows", fn := fun _ => fun
  | [d1, d2, d3, d4, d5] => { results := [.lit (.bool false)], args := [d1, d2, d3, d4, d5] }
  | _ => none }
def KeelWindowsWrongFalsely : Prop := keelWindowsRow.holds Try.pinned (OpenSpec.ofChange keelWindowsWrong)

/-- 'seamarklaw39.KeelLeave': WHATEVER THE INPUT: true; the input reads as it did. -/
def keelLeaveSpec : ChangeSpec := { name := "keelLeave", fn := fun _ => fun
  | [d1, d2, d3, d4, d5, d6, d7] => { results := [.lit (.bool true)], args := [d1, d2, d3, d4, d5, d6, d7] }
  | _ => none }
def keelLeaveRow : OpenClaim := { program := "ythfnmooeijneoaa", sum := "5011e34e5b94ff920b6ff55ba86dcb8a27220a9ac2406da1b6dad468e4f3d5bd", func := "seamark/seamarklaw39.KeelLeave", spec := "keelLeave", unfollowed := true, recurses := true, apart := false }
def KeelLeaveSaid : Prop := keelLeaveRow.holds Try.pinned (OpenSpec.ofChange keelLeaveSpec)

/-- ITS FALSE NEIGHBOUR: 'it returns false'. Refute it at one input. -/
def keelLeaveWrong : ChangeSpec := { name := "keelLeave", fn := fun _ => fun
  | [d1, d2, d3, d4, d5, d6, d7] => { results := [.lit (.bool false)], args := [d1, d2, d3, d4, d5, d6, d7] }
  | _ => none }
def KeelLeaveWrongFalsely : Prop := keelLeaveRow.holds Try.pinned (OpenSpec.ofChange keelLeaveWrong)

/-- 'seamarklaw39.KeelSlower': WHATEVER THE INPUT: true; the input reads as it did. -/
def keelSlowerSpec : ChangeSpec := { name := "keelSlower", fn := fun _ => fun
  | [d1, d2, d3, d4, d5, d6, d7, d8, d9, d10] => { results := [.lit (.bool true)], args := [d1, d2, d3, d4, d5, d6, d7, d8, d9, d10] }
  | _ => none }
def keelSlowerRow : OpenClaim := { program := "ythfnmooeijneoaa", sum := "5011e34e5b94ff920b6ff55ba86dcb8a27220a9ac2406da1b6dad468e4f3d5bd", func := "seamark/seamarklaw39.KeelSlower", spec := "keelSlower", unfollowed := true, recurses := true, apart := false }
def KeelSlowerSaid : Prop := keelSlowerRow.holds Try.pinned (OpenSpec.ofChange keelSlowerSpec)

/-- ITS FALSE NEIGHBOUR: 'it returns false'. Refute it at one input. -/
def keelSlowerWrong : ChangeSpec := { name := "keelSlower", fn := fun _ => fun
  | [d1, d2, d3, d4, d5, d6, d7, d8, d9, d10] => { results := [.lit (.bool false)], args := [d1, d2, d3, d4, d5, d6, d7, d8, d9, d10] }
  | _ => none }
def KeelSlowerWrongFalsely : Prop := keelSlowerRow.holds Try.pinned (OpenSpec.ofChange keelSlowerWrong)

/- THE SECOND FORM. 'bulk': how many values and letters a reading holds, each counted each time it is reached (what is shared counts as often as it is met; a slice's spare places count too). A statement '..UptoSaid' is the law's where the arguments, and the package variables that the reading takes, are together of bulk at most 1048576: NARROWER than '..Said'. Prove '..Said' where nothing that the law and all that it calls make is longer than what came in: it says more and counts as full. Else prove '..UptoSaid'. A law counts once. -/
mutual
def uptoBulk {H : Type} : DataW H → Nat
  | .lit (.string bytes) => bytes.length + 1
  | .lit _ => 1
  | .nil => 1
  | .ptr d => uptoBulk d + 1
  | .slice elems spare => uptoBulkAll elems + uptoBulkAll spare + 1
  | .agg parts => uptoBulkAll parts + 1
  | .iface _ d => uptoBulk d + 1
  | .map entries => uptoBulkEntries entries + 1
  | .held _ => 1
def uptoBulkAll {H : Type} : List (DataW H) → Nat
  | [] => 0
  | d :: r => uptoBulk d + uptoBulkAll r
def uptoBulkEntries {H : Type} : List (Lit × DataW H) → Nat
  | [] => 0
  | x :: r => uptoBulkEntry x + uptoBulkEntries r
def uptoBulkEntry {H : Type} : Lit × DataW H → Nat
  | (.string bytes, d) => bytes.length + uptoBulk d + 1
  | (_, d) => uptoBulk d + 1
 end
def uptoSmall : (H : Type) → List (DataW H) → Bool := fun _ ds => decide (uptoBulkAll ds ≤ 1048576)
def OpenSpec.upto (s : _root_.Go.ChangeSpec) : _root_.Go.OpenSpec := { _root_.Go.OpenSpec.ofChange s with cond := some uptoSmall }

/-- 'seamarklaw06.TideNeeds', WHERE WHAT IT READS IS OF BULK AT MOST 1048576: true; the input reads as it did. -/
def tideNeedsUptoRow : OpenClaim := { program := "ythfnmooeijneoaa", sum := "5011e34e5b94ff920b6ff55ba86dcb8a27220a9ac2406da1b6dad468e4f3d5bd", func := "seamark/seamarklaw06.TideNeeds", spec := "tideNeeds", unfollowed := true, recurses := true, apart := false, narrowed := true }
def TideNeedsUptoSaid : Prop := tideNeedsUptoRow.holds Try.pinned (OpenSpec.upto tideNeedsSpec)

/-- 'seamarklaw06.TideMatchesReference', WHERE WHAT IT READS IS OF BULK AT MOST 1048576: true; the input reads as it did. -/
def tideMatchesReferenceUptoRow : OpenClaim := { program := "ythfnmooeijneoaa", sum := "5011e34e5b94ff920b6ff55ba86dcb8a27220a9ac2406da1b6dad468e4f3d5bd", func := "seamark/seamarklaw06.TideMatchesReference", spec := "tideMatchesReference", unfollowed := true, recurses := true, apart := false, narrowed := true }
def TideMatchesReferenceUptoSaid : Prop := tideMatchesReferenceUptoRow.holds Try.pinned (OpenSpec.upto tideMatchesReferenceSpec)

/-- 'seamarklaw39.KeelMatchesReference', WHERE WHAT IT READS IS OF BULK AT MOST 1048576: true; the input reads as it did. -/
def keelMatchesReferenceUptoRow : OpenClaim := { program := "ythfnmooeijneoaa", sum := "5011e34e5b94ff920b6ff55ba86dcb8a27220a9ac2406da1b6dad468e4f3d5bd", func := "seamark/seamarklaw39.KeelMatchesReference", spec := "keelMatchesReference", unfollowed := true, recurses := true, apart := false, narrowed := true }
def KeelMatchesReferenceUptoSaid : Prop := keelMatchesReferenceUptoRow.holds Try.pinned (OpenSpec.upto keelMatchesReferenceSpec)

/-- 'seamarklaw39.KeelNeeds', WHERE WHAT IT READS IS OF BULK AT MOST 1048576: true; the input reads as it did. -/
def keelNeedsUptoRow : OpenClaim := { program := "ythfnmooeijneoaa", sum := "5011e34e5b94ff920b6ff55ba86dcb8a27220a9ac2406da1b6dad468e4f3d5bd", func := "seamark/seamarklaw39.KeelNeeds", spec := "keelNeeds", unfollowed := true, recurses := true, apart := false, narrowed := true }
def KeelNeedsUptoSaid : Prop := keelNeedsUptoRow.holds Try.pinned (OpenSpec.upto keelNeedsSpec)

/-- 'seamarklaw39.KeelLeast', WHERE WHAT IT READS IS OF BULK AT MOST 1048576: true; the input reads as it did. -/
def keelLeastUptoRow : OpenClaim := { program := "ythfnmooeijneoaa", sum := "5011e34e5b94ff920b6ff55ba86dcb8a27220a9ac2406da1b6dad468e4f3d5bd", func := "seamark/seamarklaw39.KeelLeast", spec := "keelLeast", unfollowed := true, recurses := true, apart := false, narrowed := true }
def KeelLeastUptoSaid : Prop := keelLeastUptoRow.holds Try.pinned (OpenSpec.upto keelLeastSpec)

/-- 'seamarklaw39.KeelTrue', WHERE WHAT IT READS IS OF BULK AT MOST 1048576: true; the input reads as it did. -/
def keelTrueUptoRow : OpenClaim := { program := "ythfnmooeijneoaa", sum := "5011e34e5b94ff920b6ff55ba86dcb8a27220a9ac2406da1b6dad468e4f3d5bd", func := "seamark/seamarklaw39.KeelTrue", spec := "keelTrue", unfollowed := true, recurses := true, apart := false, narrowed := true }
def KeelTrueUptoSaid : Prop := keelTrueUptoRow.holds Try.pinned (OpenSpec.upto keelTrueSpec)

/-- 'seamarklaw39.KeelFastest', WHERE WHAT IT READS IS OF BULK AT MOST 1048576: true; the input reads as it did. -/
def keelFastestUptoRow : OpenClaim := { program := "ythfnmooeijneoaa", sum := "5011e34e5b94ff920b6ff55ba86dcb8a27220a9ac2406da1b6dad468e4f3d5bd", func := "seamark/seamarklaw39.KeelFastest", spec := "keelFastest", unfollowed := true, recurses := true, apart := false, narrowed := true }
def KeelFastestUptoSaid : Prop := keelFastestUptoRow.holds Try.pinned (OpenSpec.upto keelFastestSpec)

/-- 'seamarklaw39.KeelWindows', WHERE WHAT IT READS IS OF BULK AT MOST 1048576: true; the input reads as it did. -/
def keelWindowsUptoRow : OpenClaim := { program := "ythfnmooeijneoaa", sum := "5011e34e5b94ff920b6ff55ba86dcb8a27220a9ac2406da1b6dad468e4f3d5bd", func := "seamark/seamarklaw39.KeelWindows", spec := "keelWindows", unfollowed := true, recurses := true, apart := false, narrowed := true }
def KeelWindowsUptoSaid : Prop := keelWindowsUptoRow.holds Try.pinned (OpenSpec.upto keelWindowsSpec)

/-- 'seamarklaw39.KeelLeave', WHERE WHAT IT READS IS OF BULK AT MOST 1048576: true; the input reads as it did. -/
def keelLeaveUptoRow : OpenClaim := { program := "ythfnmooeijneoaa", sum := "5011e34e5b94ff920b6ff55ba86dcb8a27220a9ac2406da1b6dad468e4f3d5bd", func := "seamark/seamarklaw39.KeelLeave", spec := "keelLeave", unfollowed := true, recurses := true, apart := false, narrowed := true }
def KeelLeaveUptoSaid : Prop := keelLeaveUptoRow.holds Try.pinned (OpenSpec.upto keelLeaveSpec)

/-- 'seamarklaw39.KeelSlower', WHERE WHAT IT READS IS OF BULK AT MOST 1048576: true; the input reads as it did. -/
def keelSlowerUptoRow : OpenClaim := { program := "ythfnmooeijneoaa", sum := "5011e34e5b94ff920b6ff55ba86dcb8a27220a9ac2406da1b6dad468e4f3d5bd", func := "seamark/seamarklaw39.KeelSlower", spec := "keelSlower", unfollowed := true, recurses := true, apart := false, narrowed := true }
def KeelSlowerUptoSaid : Prop := keelSlowerUptoRow.holds Try.pinned (OpenSpec.upto keelSlowerSpec)

end Rows
end Go.Proofs.Ythfnmooeijneoaa
