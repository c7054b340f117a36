/-
  No cell of these rows narrows 'for every input' (looked for: loops, veiled, ifaces, maps, wideKeys, modest, calm, conditions, laid).
  DERIVED. THE GIVEN ROWS OF THIS SEAT. 7 by the template 'for every input the law returns true; each argument reads behind the call as it read before'; 0 by the template 'total and deterministic' (their statements: YtcfechepbamhkaaGreatTotals.lean).
  GIVEN WITH THE SEED: the statements are not yours to turn. If you find one false, say at which input.
  Laid BY PROGRAM, IN A SANDBOX (cutbox-rows.mjs): the forced cells as the released guide's own fill.sh prints them over the translation 6bb1349d0c389e80… (all of the seat's roots in one cut). By AI agents, Wed Nov 11 2026. No macro, syntax, notation, axiom, sorry.
-/
import Derived.Test.YtcfechepbamhkaaGreatChecked
import GoSem.Claim
import GoSem.ClaimJoined
import GoSem.ClaimMapViews
import Derived.JoinedTies
import Derived.KernelRfl
namespace Go.Proofs.YtcfechepbamhkaaGreat
/- THE CELL 'sum', in the pinned program and in every row, IS THE sha256 OF THE DUMP (.gsa) THAT YtcfechepbamhkaaGreatProg.lean LOADS. Nothing in Lean hashes anything: it is a label: what it is worth is what the hold of that sum in a sandbox is worth. -/
noncomputable def Tryz.pinned : Pinned := { name := "ytcfechepbamhkaagreat", sum := "6bb1349d0c389e803e6be557686241b532cb8c31044f2b8a9db4c82a222c3603", checked := Tryz.checked }
namespace Rows
def none {H : Type} : Left H := { results := [], args := [] }

/-- 'seamarklaw22.FolioWaiting': WHATEVER THE INPUT: true; the input reads as it did. -/
def folioWaitingSpec : ChangeSpec := { name := "folioWaiting", fn := fun _ => fun
  | [d1, d2] => { results := [.lit (.bool true)], args := [d1, d2] }
  | _ => none }
def folioWaitingRow : OpenClaim := { program := "ytcfechepbamhkaagreat", sum := "6bb1349d0c389e803e6be557686241b532cb8c31044f2b8a9db4c82a222c3603", func := "seamark/seamarklaw22.FolioWaiting", spec := "folioWaiting", inPlace := ["slices.overlaps[seamark/api.Notice]", "slices.overlaps[int]"], unfollowed := true, recurses := true, plainKeys := false, apart := false }
def FolioWaitingSaid : Prop := folioWaitingRow.holds Tryz.pinned (OpenSpec.ofChange folioWaitingSpec)

/-- ITS FALSE NEIGHBOUR: 'it returns false'. Refute it at one input. -/
def folioWaitingWrong : ChangeSpec := { name := "folioWaiting", fn := fun _ => fun
  | [d1, d2] => { results := [.lit (.bool false)], args := [d1, d2] }
  | _ => none }
def FolioWaitingWrongFalsely : Prop := folioWaitingRow.holds Tryz.pinned (OpenSpec.ofChange folioWaitingWrong)

/-- 'seamarklaw22.FolioTwice': WHATEVER THE INPUT: true; the input reads as it did. -/
def folioTwiceSpec : ChangeSpec := { name := "folioTwice", fn := fun _ => fun
  | [d1, d2, d3, d4] => { results := [.lit (.bool true)], args := [d1, d2, d3, d4] }
  | _ => none }
def folioTwiceRow : OpenClaim := { program := "ytcfechepbamhkaagreat", sum := "6bb1349d0c389e803e6be557686241b532cb8c31044f2b8a9db4c82a222c3603", func := "seamark/seamarklaw22.FolioTwice", spec := "folioTwice", inPlace := ["slices.overlaps[seamark/api.Notice]", "slices.overlaps[int]"], unfollowed := true, recurses := true, plainKeys := false, apart := false }
def FolioTwiceSaid : Prop := folioTwiceRow.holds Tryz.pinned (OpenSpec.ofChange folioTwiceSpec)

/-- ITS FALSE NEIGHBOUR: 'it returns false'. Refute it at one input. -/
def folioTwiceWrong : ChangeSpec := { name := "folioTwice", fn := fun _ => fun
  | [d1, d2, d3, d4] => { results := [.lit (.bool false)], args := [d1, d2, d3, d4] }
  | _ => none }
def FolioTwiceWrongFalsely : Prop := folioTwiceRow.holds Tryz.pinned (OpenSpec.ofChange folioTwiceWrong)

/-- 'seamarklaw22.FolioShown': WHATEVER THE INPUT: true; the input reads as it did. -/
def folioShownSpec : ChangeSpec := { name := "folioShown", fn := fun _ => fun
  | [d1, d2, d3, d4] => { results := [.lit (.bool true)], args := [d1, d2, d3, d4] }
  | _ => none }
def folioShownRow : OpenClaim := { program := "ytcfechepbamhkaagreat", sum := "6bb1349d0c389e803e6be557686241b532cb8c31044f2b8a9db4c82a222c3603", func := "seamark/seamarklaw22.FolioShown", spec := "folioShown", inPlace := ["slices.overlaps[seamark/api.Notice]", "slices.overlaps[int]"], unfollowed := true, recurses := true, plainKeys := false, apart := false }
def FolioShownSaid : Prop := folioShownRow.holds Tryz.pinned (OpenSpec.ofChange folioShownSpec)

/-- ITS FALSE NEIGHBOUR: 'it returns false'. Refute it at one input. -/
def folioShownWrong : ChangeSpec := { name := "folioShown", fn := fun _ => fun
  | [d1, d2, d3, d4] => { results := [.lit (.bool false)], args := [d1, d2, d3, d4] }
  | _ => none }
def FolioShownWrongFalsely : Prop := folioShownRow.holds Tryz.pinned (OpenSpec.ofChange folioShownWrong)

/-- 'seamarklaw22.FolioSheets': WHATEVER THE INPUT: true; the input reads as it did. -/
def folioSheetsSpec : ChangeSpec := { name := "folioSheets", fn := fun _ => fun
  | [d1, d2, d3] => { results := [.lit (.bool true)], args := [d1, d2, d3] }
  | _ => none }
def folioSheetsRow : OpenClaim := { program := "ytcfechepbamhkaagreat", sum := "6bb1349d0c389e803e6be557686241b532cb8c31044f2b8a9db4c82a222c3603", func := "seamark/seamarklaw22.FolioSheets", spec := "folioSheets", inPlace := ["slices.overlaps[seamark/api.Notice]", "slices.overlaps[int]"], unfollowed := true, recurses := true, plainKeys := false, apart := false }
def FolioSheetsSaid : Prop := folioSheetsRow.holds Tryz.pinned (OpenSpec.ofChange folioSheetsSpec)

/-- ITS FALSE NEIGHBOUR: 'it returns false'. Refute it at one input. -/
def folioSheetsWrong : ChangeSpec := { name := "folioSheets", fn := fun _ => fun
  | [d1, d2, d3] => { results := [.lit (.bool false)], args := [d1, d2, d3] }
  | _ => none }
def FolioSheetsWrongFalsely : Prop := folioSheetsRow.holds Tryz.pinned (OpenSpec.ofChange folioSheetsWrong)

/-- 'seamarklaw22.FolioMerged': WHATEVER THE INPUT: true; the input reads as it did. -/
def folioMergedSpec : ChangeSpec := { name := "folioMerged", fn := fun _ => fun
  | [d1, d2] => { results := [.lit (.bool true)], args := [d1, d2] }
  | _ => none }
def folioMergedRow : OpenClaim := { program := "ytcfechepbamhkaagreat", sum := "6bb1349d0c389e803e6be557686241b532cb8c31044f2b8a9db4c82a222c3603", func := "seamark/seamarklaw22.FolioMerged", spec := "folioMerged", inPlace := ["slices.overlaps[seamark/api.Notice]", "slices.overlaps[int]"], unfollowed := true, recurses := true, plainKeys := false, apart := false }
def FolioMergedSaid : Prop := folioMergedRow.holds Tryz.pinned (OpenSpec.ofChange folioMergedSpec)

/-- ITS FALSE NEIGHBOUR: 'it returns false'. Refute it at one input. -/
def folioMergedWrong : ChangeSpec := { name := "folioMerged", fn := fun _ => fun
  | [d1, d2] => { results := [.lit (.bool false)], args := [d1, d2] }
  | _ => none }
def FolioMergedWrongFalsely : Prop := folioMergedRow.holds Tryz.pinned (OpenSpec.ofChange folioMergedWrong)

/-- 'seamarklaw22.FolioMatchesReference': WHATEVER THE INPUT: true; the input reads as it did. -/
def folioMatchesReferenceSpec : ChangeSpec := { name := "folioMatchesReference", fn := fun _ => fun
  | [d1, d2, d3, d4, d5, d6] => { results := [.lit (.bool true)], args := [d1, d2, d3, d4, d5, d6] }
  | _ => none }
def folioMatchesReferenceRow : OpenClaim := { program := "ytcfechepbamhkaagreat", sum := "6bb1349d0c389e803e6be557686241b532cb8c31044f2b8a9db4c82a222c3603", func := "seamark/seamarklaw22.FolioMatchesReference", spec := "folioMatchesReference", inPlace := ["slices.overlaps[seamark/api.Notice]", "slices.overlaps[int]"], unfollowed := true, recurses := true, plainKeys := false, apart := false }
def FolioMatchesReferenceSaid : Prop := folioMatchesReferenceRow.holds Tryz.pinned (OpenSpec.ofChange folioMatchesReferenceSpec)

/-- ITS FALSE NEIGHBOUR: 'it returns false'. Refute it at one input. -/
def folioMatchesReferenceWrong : ChangeSpec := { name := "folioMatchesReference", fn := fun _ => fun
  | [d1, d2, d3, d4, d5, d6] => { results := [.lit (.bool false)], args := [d1, d2, d3, d4, d5, d6] }
  | _ => none }
def FolioMatchesReferenceWrongFalsely : Prop := folioMatchesReferenceRow.holds Tryz.pinned (OpenSpec.ofChange folioMatchesReferenceWrong)

/-- 'seamarklaw22.FolioReplaced': WHATEVER THE INPUT: true; the input reads as it did. -/
def folioReplacedSpec : ChangeSpec := { name := "folioReplaced", fn := fun _ => fun
  | [d1, d2, d3] => { results := [.lit (.bool true)], args := [d1, d2, d3] }
  | _ => none }
def folioReplacedRow : OpenClaim := { program := "ytcfechepbamhkaagreat", sum := "6bb1349d0c389e803e6be557686241b532cb8c31044f2b8a9db4c82a222c3603", func := "seamark/seamarklaw22.FolioReplaced", spec := "folioReplaced", inPlace := ["slices.overlaps[seamark/api.Notice]", "slices.overlaps[int]"], unfollowed := true, recurses := true, plainKeys := false, apart := false }
def FolioReplacedSaid : Prop := folioReplacedRow.holds Tryz.pinned (OpenSpec.ofChange folioReplacedSpec)

/-- ITS FALSE NEIGHBOUR: 'it returns false'. Refute it at one input. -/
def folioReplacedWrong : ChangeSpec := { name := "folioReplaced", fn := fun _ => fun
  | [d1, d2, d3] => { results := [.lit (.bool false)], args := [d1, d2, d3] }
  | _ => none }
def FolioReplacedWrongFalsely : Prop := folioReplacedRow.holds Tryz.pinned (OpenSpec.ofChange folioReplacedWrong)

/- THE SECOND FORM. 'bulk': how many values and letters a reading holds, each counted each time it is reached (what is shared counts as often as it is met; a slice's spare places count too). A statement '..UptoSaid' is the law's where the arguments, and the package variables that the reading takes, are together of bulk at most 1048576: NARROWER than '..Said'. Prove '..Said' where nothing that the law and all that it calls make is longer than what came in: it says more and counts as full. Else prove '..UptoSaid'. A law counts once. -/
mutual
def uptoBulk {H : Type} : DataW H → Nat
  | .lit (.string bytes) => bytes.length + 1
  | .lit _ => 1
  | .nil => 1
  | .ptr d => uptoBulk d + 1
  | .slice elems spare => uptoBulkAll elems + uptoBulkAll spare + 1
  | .agg parts => uptoBulkAll parts + 1
  | .iface _ d => uptoBulk d + 1
  | .map entries => uptoBulkEntries entries + 1
  | .held _ => 1
def uptoBulkAll {H : Type} : List (DataW H) → Nat
  | [] => 0
  | d :: r => uptoBulk d + uptoBulkAll r
def uptoBulkEntries {H : Type} : List (Lit × DataW H) → Nat
  | [] => 0
  | x :: r => uptoBulkEntry x + uptoBulkEntries r
def uptoBulkEntry {H : Type} : Lit × DataW H → Nat
  | (.string bytes, d) => bytes.length + uptoBulk d + 1
  | (_, d) => uptoBulk d + 1
 end
def uptoSmall : (H : Type) → List (DataW H) → Bool := fun _ ds => decide (uptoBulkAll ds ≤ 1048576)
def OpenSpec.upto (s : _root_.Go.ChangeSpec) : _root_.Go.OpenSpec := { _root_.Go.OpenSpec.ofChange s with cond := some uptoSmall }

/-- 'seamarklaw22.FolioWaiting', WHERE WHAT IT READS IS OF BULK AT MOST 1048576: true; the input reads as it did. -/
def folioWaitingUptoRow : OpenClaim := { program := "ytcfechepbamhkaagreat", sum := "6bb1349d0c389e803e6be557686241b532cb8c31044f2b8a9db4c82a222c3603", func := "seamark/seamarklaw22.FolioWaiting", spec := "folioWaiting", inPlace := ["slices.overlaps[seamark/api.Notice]", "slices.overlaps[int]"], unfollowed := true, recurses := true, plainKeys := false, apart := false, narrowed := true }
def FolioWaitingUptoSaid : Prop := folioWaitingUptoRow.holds Tryz.pinned (OpenSpec.upto folioWaitingSpec)

/-- 'seamarklaw22.FolioTwice', WHERE WHAT IT READS IS OF BULK AT MOST 1048576: true; the input reads as it did. -/
def folioTwiceUptoRow : OpenClaim := { program := "ytcfechepbamhkaagreat", sum := "6bb1349d0c389e803e6be557686241b532cb8c31044f2b8a9db4c82a222c3603", func := "seamark/seamarklaw22.FolioTwice", spec := "folioTwice", inPlace := ["slices.overlaps[seamark/api.Notice]", "slices.overlaps[int]"], unfollowed := true, recurses := true, plainKeys := false, apart := false, narrowed := true }
def FolioTwiceUptoSaid : Prop := folioTwiceUptoRow.holds Tryz.pinned (OpenSpec.upto folioTwiceSpec)

/-- 'seamarklaw22.FolioShown', WHERE WHAT IT READS IS OF BULK AT MOST 1048576: true; the input reads as it did. -/
def folioShownUptoRow : OpenClaim := { program := "ytcfechepbamhkaagreat", sum := "6bb1349d0c389e803e6be557686241b532cb8c31044f2b8a9db4c82a222c3603", func := "seamark/seamarklaw22.FolioShown", spec := "folioShown", inPlace := ["slices.overlaps[seamark/api.Notice]", "slices.overlaps[int]"], unfollowed := true, recurses := true, plainKeys := false, apart := false, narrowed := true }
def FolioShownUptoSaid : Prop := folioShownUptoRow.holds Tryz.pinned (OpenSpec.upto folioShownSpec)

/-- 'seamarklaw22.FolioSheets', WHERE WHAT IT READS IS OF BULK AT MOST 1048576: true; the input reads as it did. -/
def folioSheetsUptoRow : OpenClaim := { program := "ytcfechepbamhkaagreat", sum := "6bb1349d0c389e803e6be557686241b532cb8c31044f2b8a9db4c82a222c3603", func := "seamark/seamarklaw22.FolioSheets", spec := "folioSheets", inPlace := ["slices.overlaps[seamark/api.Notice]", "slices.overlaps[int]"], unfollowed := true, recurses := true, plainKeys := false, apart := false, narrowed := true }
def FolioSheetsUptoSaid : Prop := folioSheetsUptoRow.holds Tryz.pinned (OpenSpec.upto folioSheetsSpec)

/-- 'seamarklaw22.FolioMerged', WHERE WHAT IT READS IS OF BULK AT MOST 1048576: true; the input reads as it did. -/
def folioMergedUptoRow : OpenClaim := { program := "ytcfechepbamhkaagreat", sum := "6bb1349d0c389e803e6be557686241b532cb8c31044f2b8a9db4c82a222c3603", func := "seamark/seamarklaw22.FolioMerged", spec := "folioMerged", inPlace := ["slices.overlaps[seamark/api.Notice]", "slices.overlaps[int]"], unfollowed := true, recurses := true, plainKeys := false, apart := false, narrowed := true }
def FolioMergedUptoSaid : Prop := folioMergedUptoRow.holds Tryz.pinned (OpenSpec.upto folioMergedSpec)

/-- 'seamarklaw22.FolioMatchesReference', WHERE WHAT IT READS IS OF BULK AT MOST 1048576: true; the input reads as it did. -/
def folioMatchesReferenceUptoRow : OpenClaim := { program := "ytcfechepbamhkaagreat", sum := "6bb1349d0c389e803e6be557686241b532cb8c31044f2b8a9db4c82a222c3603", func := "seamark/seamarklaw22.FolioMatchesReference", spec := "folioMatchesReference", inPlace := ["slices.overlaps[seamark/api.Notice]", "slices.overlaps[int]"], unfollowed := true, recurses := true, plainKeys := false, apart := false, narrowed := true }
def FolioMatchesReferenceUptoSaid : Prop := folioMatchesReferenceUptoRow.holds Tryz.pinned (OpenSpec.upto folioMatchesReferenceSpec)

/-- 'seamarklaw22.FolioReplaced', WHERE WHAT IT READS IS OF BULK AT MOST 1048576: true; the input reads as it did. -/
def folioReplacedUptoRow : OpenClaim := { program := "ytcfechepbamhkaagreat", sum := "6bb1349d0c389e803e6be557686241b532cb8c31044f2b8a9db4c82a222c3603", func := "seamark/seamarklaw22.FolioReplaced", spec := "folioReplaced", inPlace := ["slices.overlaps[seamark/api.Notice]", "slices.overlaps[int]"], unfollowed := true, recurses := true, plainKeys := false, apart := false, narrowed := true }
def FolioReplacedUptoSaid : Prop := folioReplacedUptoRow.holds Tryz.pinned (OpenSpec.upto folioReplacedSpec)

end Rows
end Go.Proofs.YtcfechepbamhkaaGreat
