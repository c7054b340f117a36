/-
  No cell of these rows narrows 'for every input' (looked for: loops, veiled, ifaces, maps, wideKeys, modest, calm, conditions, laid).
  DERIVED. THE GIVEN ROWS OF THIS SEAT. 8 by the template 'for every input the law returns true; each argument reads behind the call as it read before'; 0 by the template 'total and deterministic' (their statements: YtmljnelmnagfoaaTotals.lean).
  GIVEN WITH THE SEED: the statements are not yours to turn. If you find one false, say at which input.
  Laid BY PROGRAM, IN A SANDBOX (cutbox-rows.mjs): the forced cells as the released guide's own fill.sh prints them over the translation 166038b7db7168bf… (all of the seat's roots in one cut). By AI agents, Wed Nov 11 2026. No macro, syntax, notation, axiom, sorry.
-/
import Derived.Test.YtmljnelmnagfoaaChecked
import GoSem.Claim
import GoSem.ClaimJoined
import GoSem.ClaimMapViews
import Derived.JoinedTies
import Derived.KernelRfl
namespace Go.Proofs.Ytmljnelmnagfoaa
/- THE CELL 'sum', in the pinned program and in every row, IS THE sha256 OF THE DUMP (.gsa) THAT YtmljnelmnagfoaaProg.lean LOADS. Nothing in Lean hashes anything: it is a label: what it is worth is what the hold of that sum in a sandbox is worth. -/
noncomputable def Try.pinned : Pinned := { name := "ytmljnelmnagfoaa", sum := "166038b7db7168bfe51adcb32f490654acea0476b41135124500520eddae1cb0", checked := Try.checked }
namespace Rows
def none {H : Type} : Left H := { results := [], args := [] }

/-- 'seamarklaw06.TideTrue': WHATEVER THE INPUT: true; the input reads as it did. -/
def tideTrueSpec : ChangeSpec := { name := "tideTrue", fn := fun _ => fun
  | [d1, d2, d3, d4, d5, d6] => { results := [.lit (.bool true)], args := [d1, d2, d3, d4, d5, d6] }
  | _ => none }
def tideTrueRow : OpenClaim := { program := "ytmljnelmnagfoaa", sum := "166038b7db7168bfe51adcb32f490654acea0476b41135124500520eddae1cb0", func := "seamark/seamarklaw06.TideTrue", spec := "tideTrue", unfollowed := true, recurses := true, apart := false }
def TideTrueSaid : Prop := tideTrueRow.holds Try.pinned (OpenSpec.ofChange tideTrueSpec)

/-- ITS FALSE NEIGHBOUR: 'it returns false'. Refute it at one input. -/
def tideTrueWrong : ChangeSpec := { name := "tideTrue", fn := fun _ => fun
  | [d1, d2, d3, d4, d5, d6] => { results := [.lit (.bool false)], args := [d1, d2, d3, d4, d5, d6] }
  | _ => none }
def TideTrueWrongFalsely : Prop := tideTrueRow.holds Try.pinned (OpenSpec.ofChange tideTrueWrong)

/-- 'seamarklaw06.TideWindows': WHATEVER THE INPUT: true; the input reads as it did. -/
def tideWindowsSpec : ChangeSpec := { name := "tideWindows", fn := fun _ => fun
  | [d1, d2, d3] => { results := [.lit (.bool true)], args := [d1, d2, d3] }
  | _ => none }
def tideWindowsRow : OpenClaim := { program := "ytmljnelmnagfoaa", sum := "166038b7db7168bfe51adcb32f490654acea0476b41135124500520eddae1cb0", func := "seamark/seamarklaw06.TideWindows", spec := "tideWindows", unfollowed := true, recurses := true, apart := false }
def TideWindowsSaid : Prop := tideWindowsRow.holds Try.pinned (OpenSpec.ofChange tideWindowsSpec)

/-- ITS FALSE NEIGHBOUR: 'it returns false'. Refute it at one input. -/
def tideWindowsWrong : ChangeSpec := { name := "tideWindows", fn := fun _ => fun
  | [d1, d2, d3] => { results := [.lit (.bool false)], args := [d1, d2, d3] }
  | _ => none }
def TideWindowsWrongFalsely : Prop := tideWindowsRow.holds Try.pinned (OpenSpec.ofChange tideWindowsWrong)

/-- 'seamarklaw06.TideNext': WHATEVER THE INPUT: true; the input reads as it did. -/
def tideNextSpec : ChangeSpec := { name := "tideNext", fn := fun _ => fun
  | [d1, d2, d3, d4, d5] => { results := [.lit (.bool true)], args := [d1, d2, d3, d4, d5] }
  | _ => none }
def tideNextRow : OpenClaim := { program := "ytmljnelmnagfoaa", sum := "166038b7db7168bfe51adcb32f490654acea0476b41135124500520eddae1cb0", func := "seamark/seamarklaw06.TideNext", spec := "tideNext", unfollowed := true, recurses := true, apart := false }
def TideNextSaid : Prop := tideNextRow.holds Try.pinned (OpenSpec.ofChange tideNextSpec)

/-- ITS FALSE NEIGHBOUR: 'it returns false'. Refute it at one input. -/
def tideNextWrong : ChangeSpec := { name := "tideNext", fn := fun _ => fun
  | [d1, d2, d3, d4, d5] => { results := [.lit (.bool false)], args := [d1, d2, d3, d4, d5] }
  | _ => none }
def TideNextWrongFalsely : Prop := tideNextRow.holds Try.pinned (OpenSpec.ofChange tideNextWrong)

/-- 'seamarklaw06.TideShifted': WHATEVER THE INPUT: true; the input reads as it did. -/
def tideShiftedSpec : ChangeSpec := { name := "tideShifted", fn := fun _ => fun
  | [d1, d2, d3, d4, d5] => { results := [.lit (.bool true)], args := [d1, d2, d3, d4, d5] }
  | _ => none }
def tideShiftedRow : OpenClaim := { program := "ytmljnelmnagfoaa", sum := "166038b7db7168bfe51adcb32f490654acea0476b41135124500520eddae1cb0", func := "seamark/seamarklaw06.TideShifted", spec := "tideShifted", unfollowed := true, recurses := true, apart := false }
def TideShiftedSaid : Prop := tideShiftedRow.holds Try.pinned (OpenSpec.ofChange tideShiftedSpec)

/-- ITS FALSE NEIGHBOUR: 'it returns false'. Refute it at one input. -/
def tideShiftedWrong : ChangeSpec := { name := "tideShifted", fn := fun _ => fun
  | [d1, d2, d3, d4, d5] => { results := [.lit (.bool false)], args := [d1, d2, d3, d4, d5] }
  | _ => none }
def TideShiftedWrongFalsely : Prop := tideShiftedRow.holds Try.pinned (OpenSpec.ofChange tideShiftedWrong)

/-- 'seamarklaw06.TideNeeds': WHATEVER THE INPUT: true; the input reads as it did. -/
def tideNeedsSpec : ChangeSpec := { name := "tideNeeds", fn := fun _ => fun
  | [d1, d2, d3, d4, d5] => { results := [.lit (.bool true)], args := [d1, d2, d3, d4, d5] }
  | _ => none }
def tideNeedsRow : OpenClaim := { program := "ytmljnelmnagfoaa", sum := "166038b7db7168bfe51adcb32f490654acea0476b41135124500520eddae1cb0", func := "seamark/seamarklaw06.TideNeeds", spec := "tideNeeds", unfollowed := true, recurses := true, apart := false }
def TideNeedsSaid : Prop := tideNeedsRow.holds Try.pinned (OpenSpec.ofChange tideNeedsSpec)

/-- ITS FALSE NEIGHBOUR: 'it returns false'. Refute it at one input. -/
def tideNeedsWrong : ChangeSpec := { name := "tideNeeds", fn := fun _ => fun
  | [d1, d2, d3, d4, d5] => { results := [.lit (.bool false)], args := [d1, d2, d3, d4, d5] }
  | _ => none }
def TideNeedsWrongFalsely : Prop := tideNeedsRow.holds Try.pinned (OpenSpec.ofChange tideNeedsWrong)

/-- 'seamarklaw06.TideMatchesReference': WHATEVER THE INPUT: true; the input reads as it did. -/
def tideMatchesReferenceSpec : ChangeSpec := { name := "tideMatchesReference", fn := fun _ => fun
  | [d1, d2, d3, d4, d5, d6] => { results := [.lit (.bool true)], args := [d1, d2, d3, d4, d5, d6] }
  | _ => none }
def tideMatchesReferenceRow : OpenClaim := { program := "ytmljnelmnagfoaa", sum := "166038b7db7168bfe51adcb32f490654acea0476b41135124500520eddae1cb0", func := "seamark/seamarklaw06.TideMatchesReference", spec := "tideMatchesReference", unfollowed := true, recurses := true, apart := false }
def TideMatchesReferenceSaid : Prop := tideMatchesReferenceRow.holds Try.pinned (OpenSpec.ofChange tideMatchesReferenceSpec)

/-- ITS FALSE NEIGHBOUR: 'it returns false'. Refute it at one input. -/
def tideMatchesReferenceWrong : ChangeSpec := { name := "tideMatchesReference", fn := fun _ => fun
  | [d1, d2, d3, d4, d5, d6] => { results := [.lit (.bool false)], args := [d1, d2, d3, d4, d5, d6] }
  | _ => none }
def TideMatchesReferenceWrongFalsely : Prop := tideMatchesReferenceRow.holds Try.pinned (OpenSpec.ofChange tideMatchesReferenceWrong)

/-- 'seamarklaw06.TideParts': WHATEVER THE INPUT: true; the input reads as it did. -/
def tidePartsSpec : ChangeSpec := { name := "tideParts", fn := fun _ => fun
  | [d1, d2, d3, d4] => { results := [.lit (.bool true)], args := [d1, d2, d3, d4] }
  | _ => none }
def tidePartsRow : OpenClaim := { program := "ytmljnelmnagfoaa", sum := "166038b7db7168bfe51adcb32f490654acea0476b41135124500520eddae1cb0", func := "seamark/seamarklaw06.TideParts", spec := "tideParts", unfollowed := true, recurses := true, apart := false }
def TidePartsSaid : Prop := tidePartsRow.holds Try.pinned (OpenSpec.ofChange tidePartsSpec)

/-- ITS FALSE NEIGHBOUR: 'it returns false'. Refute it at one input. -/
def tidePartsWrong : ChangeSpec := { name := "tideParts", fn := fun _ => fun
  | [d1, d2, d3, d4] => { results := [.lit (.bool false)], args := [d1, d2, d3, d4] }
  | _ => none }
def TidePartsWrongFalsely : Prop := tidePartsRow.holds Try.pinned (OpenSpec.ofChange tidePartsWrong)

/-- 'seamarklaw06.TideBoth': WHATEVER THE INPUT: true; the input reads as it did. -/
def tideBothSpec : ChangeSpec := { name := "tideBoth", fn := fun _ => fun
  | [d1, d2, d3, d4, d5] => { results := [.lit (.bool true)], args := [d1, d2, d3, d4, d5] }
  | _ => none }
def tideBothRow : OpenClaim := { program := "ytmljnelmnagfoaa", sum := "166038b7db7168bfe51adcb32f490654acea0476b41135124500520eddae1cb0", func := "seamark/seamarklaw06.TideBoth", spec := "tideBoth", unfollowed := true, recurses := true, apart := false }
def TideBothSaid : Prop := tideBothRow.holds Try.pinned (OpenSpec.ofChange tideBothSpec)

/-- ITS FALSE NEIGHBOUR: 'it returns false'. Refute it at one input. -/
def tideBothWrong : ChangeSpec := { name := "tideBoth", fn := fun _ => fun
  | [d1, d2, d3, d4, d5] => { results := [.lit (.bool false)], args := [d1, d2, d3, d4, d5] }
  | _ => none }
def TideBothWrongFalsely : Prop := tideBothRow.holds Try.pinned (OpenSpec.ofChange tideBothWrong)

/- THE SECOND FORM. 'bulk': how many values and letters a reading holds, each counted each time it is reached (what is shared counts as often as it is met; a slice's spare places count too). A statement '..UptoSaid' is the law's where the arguments, and the package variables that the reading takes, are together of bulk at most 1048576: NARROWER than '..Said'. Prove '..Said' where nothing that the law and all that it calls make is longer than what came in: it says more and counts as full. Else prove '..UptoSaid'. A law counts once. -/
mutual
def uptoBulk {H : Type} : DataW H → Nat
  | .lit (.string bytes) => bytes.length + 1
  | .lit _ => 1
  | .nil => 1
  | .ptr d => uptoBulk d + 1
  | .slice elems spare => uptoBulkAll elems + uptoBulkAll spare + 1
  | .agg parts => uptoBulkAll parts + 1
  | .iface _ d => uptoBulk d + 1
  | .map entries => uptoBulkEntries entries + 1
  | .held _ => 1
def uptoBulkAll {H : Type} : List (DataW H) → Nat
  | [] => 0
  | d :: r => uptoBulk d + uptoBulkAll r
def uptoBulkEntries {H : Type} : List (Lit × DataW H) → Nat
  | [] => 0
  | x :: r => uptoBulkEntry x + uptoBulkEntries r
def uptoBulkEntry {H : Type} : Lit × DataW H → Nat
  | (.string bytes, d) => bytes.length + uptoBulk d + 1
  | (_, d) => uptoBulk d + 1
 end
def uptoSmall : (H : Type) → List (DataW H) → Bool := fun _ ds => decide (uptoBulkAll ds ≤ 1048576)
def OpenSpec.upto (s : _root_.Go.ChangeSpec) : _root_.Go.OpenSpec := { _root_.Go.OpenSpec.ofChange s with cond := some uptoSmall }

/-- 'seamarklaw06.TideTrue', WHERE WHAT IT READS IS OF BULK AT MOST 1048576: true; the input reads as it did. -/
def tideTrueUptoRow : OpenClaim := { program := "ytmljnelmnagfoaa", sum := "166038b7db7168bfe51adcb32f490654acea0476b41135124500520eddae1cb0", func := "seamark/seamarklaw06.TideTrue", spec := "tideTrue", unfollowed := true, recurses := true, apart := false, narrowed := true }
def TideTrueUptoSaid : Prop := tideTrueUptoRow.holds Try.pinned (OpenSpec.upto tideTrueSpec)

/-- 'seamarklaw06.TideWindows', WHERE WHAT IT READS IS OF BULK AT MOST 1048576: true; the input reads as it did. -/
def tideWindowsUptoRow : OpenClaim := { program := "ytmljnelmnagfoaa", sum := "166038b7db7168bfe51adcb32f490654acea0476b41135124500520eddae1cb0", func := "seamark/seamarklaw06.TideWindows", spec := "tideWindows", unfollowed := true, recurses := true, apart := false, narrowed := true }
def TideWindowsUptoSaid : Prop := tideWindowsUptoRow.holds Try.pinned (OpenSpec.upto tideWindowsSpec)

/-- 'seamarklaw06.TideNext', WHERE WHAT IT READS IS OF BULK AT MOST 1048576: true; the input reads as it did. -/
def tideNextUptoRow : OpenClaim := { program := "ytmljnelmnagfoaa", sum := "166038b7db7168bfe51adcb32f490654acea0476b41135124500520eddae1cb0", func := "seamark/seamarklaw06.TideNext", spec := "tideNext", unfollowed := true, recurses := true, apart := false, narrowed := true }
def TideNextUptoSaid : Prop := tideNextUptoRow.holds Try.pinned (OpenSpec.upto tideNextSpec)

/-- 'seamarklaw06.TideShifted', WHERE WHAT IT READS IS OF BULK AT MOST 1048576: true; the input reads as it did. -/
def tideShiftedUptoRow : OpenClaim := { program := "ytmljnelmnagfoaa", sum := "166038b7db7168bfe51adcb32f490654acea0476b41135124500520eddae1cb0", func := "seamark/seamarklaw06.TideShifted", spec := "tideShifted", unfollowed := true, recurses := true, apart := false, narrowed := true }
def TideShiftedUptoSaid : Prop := tideShiftedUptoRow.holds Try.pinned (OpenSpec.upto tideShiftedSpec)

/-- 'seamarklaw06.TideNeeds', WHERE WHAT IT READS IS OF BULK AT MOST 1048576: true; the input reads as it did. -/
def tideNeedsUptoRow : OpenClaim := { program := "ytmljnelmnagfoaa", sum := "166038b7db7168bfe51adcb32f490654acea0476b41135124500520eddae1cb0", func := "seamark/seamarklaw06.TideNeeds", spec := "tideNeeds", unfollowed := true, recurses := true, apart := false, narrowed := true }
def TideNeedsUptoSaid : Prop := tideNeedsUptoRow.holds Try.pinned (OpenSpec.upto tideNeedsSpec)

/-- 'seamarklaw06.TideMatchesReference', WHERE WHAT IT READS IS OF BULK AT MOST 1048576: true; the input reads as it did. -/
def tideMatchesReferenceUptoRow : OpenClaim := { program := "ytmljnelmnagfoaa", sum := "166038b7db7168bfe51adcb32f490654acea0476b41135124500520eddae1cb0", func := "seamark/seamarklaw06.TideMatchesReference", spec := "tideMatchesReference", unfollowed := true, recurses := true, apart := false, narrowed := true }
def TideMatchesReferenceUptoSaid : Prop := tideMatchesReferenceUptoRow.holds Try.pinned (OpenSpec.upto tideMatchesReferenceSpec)

/-- 'seamarklaw06.TideParts', WHERE WHAT IT READS IS OF BULK AT MOST 1048576: true; the input reads as it did. -/
def tidePartsUptoRow : OpenClaim := { program := "ytmljnelmnagfoaa", sum := "166038b7db7168bfe51adcb32f490654acea0476b41135124500520eddae1cb0", func := "seamark/seamarklaw06.TideParts", spec := "tideParts", unfollowed := true, recurses := true, apart := false, narrowed := true }
def TidePartsUptoSaid : Prop := tidePartsUptoRow.holds Try.pinned (OpenSpec.upto tidePartsSpec)

/-- 'seamarklaw06.TideBoth', WHERE WHAT IT READS IS OF BULK AT MOST 1048576: true; the input reads as it did. -/
def tideBothUptoRow : OpenClaim := { program := "ytmljnelmnagfoaa", sum := "166038b7db7168bfe51adcb32f490654acea0476b41135124500520eddae1cb0", func := "seamark/seamarklaw06.TideBoth", spec := "tideBoth", unfollowed := true, recurses := true, apart := false, narrowed := true }
def TideBothUptoSaid : Prop := tideBothUptoRow.holds Try.pinned (OpenSpec.upto tideBothSpec)

end Rows
end Go.Proofs.Ytmljnelmnagfoaa
