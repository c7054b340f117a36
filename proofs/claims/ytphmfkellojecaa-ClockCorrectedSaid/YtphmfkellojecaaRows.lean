/-
  No cell of these rows narrows 'for every input' (looked for: loops, veiled, ifaces, maps, wideKeys, modest, calm, conditions, laid).
  DERIVED. THE GIVEN ROWS OF THIS SEAT. 8 by the template 'for every input the law returns true; each argument reads behind the call as it read before'; 0 by the template 'total and deterministic' (their statements: YtphmfkellojecaaTotals.lean).
  GIVEN WITH THE SEED: the statements are not yours to turn. If you find one false, say at which input.
  Laid BY PROGRAM, IN A SANDBOX (cutbox-rows.mjs): the forced cells as the released guide's own fill.sh prints them over the translation 7e3523b42c0b601f… (all of the seat's roots in one cut). By AI agents, Wed Nov 11 2026. No macro, syntax, notation, axiom, sorry.
-/
import Derived.Test.YtphmfkellojecaaChecked
import GoSem.Claim
import GoSem.ClaimJoined
import GoSem.ClaimMapViews
import Derived.JoinedTies
import Derived.KernelRfl
namespace Go.Proofs.Ytphmfkellojecaa
/- THE CELL 'sum', in the pinned program and in every row, IS THE sha256 OF THE DUMP (.gsa) THAT YtphmfkellojecaaProg.lean LOADS. Nothing in Lean hashes anything: it is a label: what it is worth is what the hold of that sum in a sandbox is worth. -/
noncomputable def Try.pinned : Pinned := { name := "ytphmfkellojecaa", sum := "7e3523b42c0b601f758e7a2ff7bbd562168f692dc9c2b7920e7ba79184c6855a", checked := Try.checked }
namespace Rows
def none {H : Type} : Left H := { results := [], args := [] }

/-- 'seamarklaw34.ClockMatchesReference': WHATEVER THE INPUT: true; the input reads as it did. -/
def clockMatchesReferenceSpec : ChangeSpec := { name := "clockMatchesReference", fn := fun _ => fun
  | [d1, d2, d3, d4] => { results := [.lit (.bool true)], args := [d1, d2, d3, d4] }
  | _ => none }
def clockMatchesReferenceRow : OpenClaim := { program := "ytphmfkellojecaa", sum := "7e3523b42c0b601f758e7a2ff7bbd562168f692dc9c2b7920e7ba79184c6855a", func := "seamark/seamarklaw34.ClockMatchesReference", spec := "clockMatchesReference", unfollowed := true, recurses := true, apart := false }
def ClockMatchesReferenceSaid : Prop := clockMatchesReferenceRow.holds Try.pinned (OpenSpec.ofChange clockMatchesReferenceSpec)

/-- ITS FALSE NEIGHBOUR: 'it returns false'. Refute it at one input. -/
def clockMatchesReferenceWrong : ChangeSpec := { name := "clockMatchesReference", fn := fun _ => fun
  | [d1, d2, d3, d4] => { results := [.lit (.bool false)], args := [d1, d2, d3, d4] }
  | _ => none }
def ClockMatchesReferenceWrongFalsely : Prop := clockMatchesReferenceRow.holds Try.pinned (OpenSpec.ofChange clockMatchesReferenceWrong)

/-- 'seamarklaw34.ClockPossible': WHATEVER THE INPUT: true; the input reads as it did. -/
def clockPossibleSpec : ChangeSpec := { name := "clockPossible", fn := fun _ => fun
  | [d1, d2, d3] => { results := [.lit (.bool true)], args := [d1, d2, d3] }
  | _ => none }
def clockPossibleRow : OpenClaim := { program := "ytphmfkellojecaa", sum := "7e3523b42c0b601f758e7a2ff7bbd562168f692dc9c2b7920e7ba79184c6855a", func := "seamark/seamarklaw34.ClockPossible", spec := "clockPossible", unfollowed := true, recurses := true, apart := false }
def ClockPossibleSaid : Prop := clockPossibleRow.holds Try.pinned (OpenSpec.ofChange clockPossibleSpec)

/-- ITS FALSE NEIGHBOUR: 'it returns false'. Refute it at one input. -/
def clockPossibleWrong : ChangeSpec := { name := "clockPossible", fn := fun _ => fun
  | [d1, d2, d3] => { results := [.lit (.bool false)], args := [d1, d2, d3] }
  | _ => none }
def ClockPossibleWrongFalsely : Prop := clockPossibleRow.holds Try.pinned (OpenSpec.ofChange clockPossibleWrong)

/-- 'seamarklaw34.ClockShows': WHATEVER THE INPUT: true; the input reads as it did. -/
def clockShowsSpec : ChangeSpec := { name := "clockShows", fn := fun _ => fun
  | [d1, d2, d3] => { results := [.lit (.bool true)], args := [d1, d2, d3] }
  | _ => none }
def clockShowsRow : OpenClaim := { program := "ytphmfkellojecaa", sum := "7e3523b42c0b601f758e7a2ff7bbd562168f692dc9c2b7920e7ba79184c6855a", func := "seamark/seamarklaw34.ClockShows", spec := "clockShows", unfollowed := true, recurses := true, apart := false }
def ClockShowsSaid : Prop := clockShowsRow.holds Try.pinned (OpenSpec.ofChange clockShowsSpec)

/-- ITS FALSE NEIGHBOUR: 'it returns false'. Refute it at one input. -/
def clockShowsWrong : ChangeSpec := { name := "clockShows", fn := fun _ => fun
  | [d1, d2, d3] => { results := [.lit (.bool false)], args := [d1, d2, d3] }
  | _ => none }
def ClockShowsWrongFalsely : Prop := clockShowsRow.holds Try.pinned (OpenSpec.ofChange clockShowsWrong)

/-- 'seamarklaw34.ClockPassed': WHATEVER THE INPUT: true; the input reads as it did. -/
def clockPassedSpec : ChangeSpec := { name := "clockPassed", fn := fun _ => fun
  | [d1, d2, d3, d4, d5] => { results := [.lit (.bool true)], args := [d1, d2, d3, d4, d5] }
  | _ => none }
def clockPassedRow : OpenClaim := { program := "ytphmfkellojecaa", sum := "7e3523b42c0b601f758e7a2ff7bbd562168f692dc9c2b7920e7ba79184c6855a", func := "seamark/seamarklaw34.ClockPassed", spec := "clockPassed", unfollowed := true, recurses := true, apart := false }
def ClockPassedSaid : Prop := clockPassedRow.holds Try.pinned (OpenSpec.ofChange clockPassedSpec)

/-- ITS FALSE NEIGHBOUR: 'it returns false'. Refute it at one input. -/
def clockPassedWrong : ChangeSpec := { name := "clockPassed", fn := fun _ => fun
  | [d1, d2, d3, d4, d5] => { results := [.lit (.bool false)], args := [d1, d2, d3, d4, d5] }
  | _ => none }
def ClockPassedWrongFalsely : Prop := clockPassedRow.holds Try.pinned (OpenSpec.ofChange clockPassedWrong)

/-- 'seamarklaw34.ClockSet': WHATEVER THE INPUT: true; the input reads as it did. -/
def clockSetSpec : ChangeSpec := { name := "clockSet", fn := fun _ => fun
  | [d1, d2, d3, d4, d5, d6] => { results := [.lit (.bool true)], args := [d1, d2, d3, d4, d5, d6] }
  | _ => none }
def clockSetRow : OpenClaim := { program := "ytphmfkellojecaa", sum := "7e3523b42c0b601f758e7a2ff7bbd562168f692dc9c2b7920e7ba79184c6855a", func := "seamark/seamarklaw34.ClockSet", spec := "clockSet", unfollowed := true, recurses := true, apart := false }
def ClockSetSaid : Prop := clockSetRow.holds Try.pinned (OpenSpec.ofChange clockSetSpec)

/-- ITS FALSE NEIGHBOUR: 'it returns false'. Refute it at one input. -/
def clockSetWrong : ChangeSpec := { name := "clockSet", fn := fun _ => fun
  | [d1, d2, d3, d4, d5, d6] => { results := [.lit (.bool false)], args := [d1, d2, d3, d4, d5, d6] }
  | _ => none }
def ClockSetWrongFalsely : Prop := clockSetRow.holds Try.pinned (OpenSpec.ofChange clockSetWrong)

/-- 'seamarklaw34.ClockCorrected': WHATEVER THE INPUT: true; the input reads as it did. -/
def clockCorrectedSpec : ChangeSpec := { name := "clockCorrected", fn := fun _ => fun
  | [d1, d2, d3, d4, d5] => { results := [.lit (.bool true)], args := [d1, d2, d3, d4, d5] }
  | _ => none }
def clockCorrectedRow : OpenClaim := { program := "ytphmfkellojecaa", sum := "7e3523b42c0b601f758e7a2ff7bbd562168f692dc9c2b7920e7ba79184c6855a", func := "seamark/seamarklaw34.ClockCorrected", spec := "clockCorrected", unfollowed := true, recurses := true, apart := false }
def ClockCorrectedSaid : Prop := clockCorrectedRow.holds Try.pinned (OpenSpec.ofChange clockCorrectedSpec)

/-- ITS FALSE NEIGHBOUR: 'it returns false'. Refute it at one input. -/
def clockCorrectedWrong : ChangeSpec := { name := "clockCorrected", fn := fun _ => fun
  | [d1, d2, d3, d4, d5] => { results := [.lit (.bool false)], args := [d1, d2, d3, d4, d5] }
  | _ => none }
def ClockCorrectedWrongFalsely : Prop := clockCorrectedRow.holds Try.pinned (OpenSpec.ofChange clockCorrectedWrong)

/-- 'seamarklaw34.ClockTrue': WHATEVER THE INPUT: true; the input reads as it did. -/
def clockTrueSpec : ChangeSpec := { name := "clockTrue", fn := fun _ => fun
  | [d1, d2, d3, d4] => { results := [.lit (.bool true)], args := [d1, d2, d3, d4] }
  | _ => none }
def clockTrueRow : OpenClaim := { program := "ytphmfkellojecaa", sum := "7e3523b42c0b601f758e7a2ff7bbd562168f692dc9c2b7920e7ba79184c6855a", func := "seamark/seamarklaw34.ClockTrue", spec := "clockTrue", unfollowed := true, recurses := true, apart := false }
def ClockTrueSaid : Prop := clockTrueRow.holds Try.pinned (OpenSpec.ofChange clockTrueSpec)

/-- ITS FALSE NEIGHBOUR: 'it returns false'. Refute it at one input. -/
def clockTrueWrong : ChangeSpec := { name := "clockTrue", fn := fun _ => fun
  | [d1, d2, d3, d4] => { results := [.lit (.bool false)], args := [d1, d2, d3, d4] }
  | _ => none }
def ClockTrueWrongFalsely : Prop := clockTrueRow.holds Try.pinned (OpenSpec.ofChange clockTrueWrong)

/-- 'seamarklaw34.ClockTwice': WHATEVER THE INPUT: true; the input reads as it did. -/
def clockTwiceSpec : ChangeSpec := { name := "clockTwice", fn := fun _ => fun
  | [d1, d2, d3, d4] => { results := [.lit (.bool true)], args := [d1, d2, d3, d4] }
  | _ => none }
def clockTwiceRow : OpenClaim := { program := "ytphmfkellojecaa", sum := "7e3523b42c0b601f758e7a2ff7bbd562168f692dc9c2b7920e7ba79184c6855a", func := "seamark/seamarklaw34.ClockTwice", spec := "clockTwice", unfollowed := true, recurses := true, apart := false }
def ClockTwiceSaid : Prop := clockTwiceRow.holds Try.pinned (OpenSpec.ofChange clockTwiceSpec)

/-- ITS FALSE NEIGHBOUR: 'it returns false'. Refute it at one input. -/
def clockTwiceWrong : ChangeSpec := { name := "clockTwice", fn := fun _ => fun
  | [d1, d2, d3, d4] => { results := [.lit (.bool false)], args := [d1, d2, d3, d4] }
  | _ => none }
def ClockTwiceWrongFalsely : Prop := clockTwiceRow.holds Try.pinned (OpenSpec.ofChange clockTwiceWrong)

/- THE SECOND FORM. 'bulk': how many values and letters a reading holds, each counted each time it is reached (what is shared counts as often as it is met; a slice's spare places count too). A statement '..UptoSaid' is the law's where the arguments, and the package variables that the reading takes, are together of bulk at most 1048576: NARROWER than '..Said'. Prove '..Said' where nothing that the law and all that it calls make is longer than what came in: it says more and counts as full. Else prove '..UptoSaid'. A law counts once. -/
mutual
def uptoBulk {H : Type} : DataW H → Nat
  | .lit (.string bytes) => bytes.length + 1
  | .lit _ => 1
  | .nil => 1
  | .ptr d => uptoBulk d + 1
  | .slice elems spare => uptoBulkAll elems + uptoBulkAll spare + 1
  | .agg parts => uptoBulkAll parts + 1
  | .iface _ d => uptoBulk d + 1
  | .map entries => uptoBulkEntries entries + 1
  | .held _ => 1
def uptoBulkAll {H : Type} : List (DataW H) → Nat
  | [] => 0
  | d :: r => uptoBulk d + uptoBulkAll r
def uptoBulkEntries {H : Type} : List (Lit × DataW H) → Nat
  | [] => 0
  | x :: r => uptoBulkEntry x + uptoBulkEntries r
def uptoBulkEntry {H : Type} : Lit × DataW H → Nat
  | (.string bytes, d) => bytes.length + uptoBulk d + 1
  | (_, d) => uptoBulk d + 1
 end
def uptoSmall : (H : Type) → List (DataW H) → Bool := fun _ ds => decide (uptoBulkAll ds ≤ 1048576)
def OpenSpec.upto (s : _root_.Go.ChangeSpec) : _root_.Go.OpenSpec := { _root_.Go.OpenSpec.ofChange s with cond := some uptoSmall }

/-- 'seamarklaw34.ClockMatchesReference', WHERE WHAT IT READS IS OF BULK AT MOST 1048576: true; the input reads as it did. -/
def clockMatchesReferenceUptoRow : OpenClaim := { program := "ytphmfkellojecaa", sum := "7e3523b42c0b601f758e7a2ff7bbd562168f692dc9c2b7920e7ba79184c6855a", func := "seamark/seamarklaw34.ClockMatchesReference", spec := "clockMatchesReference", unfollowed := true, recurses := true, apart := false, narrowed := true }
def ClockMatchesReferenceUptoSaid : Prop := clockMatchesReferenceUptoRow.holds Try.pinned (OpenSpec.upto clockMatchesReferenceSpec)

/-- 'seamarklaw34.ClockPossible', WHERE WHAT IT READS IS OF BULK AT MOST 1048576: true; the input reads as it did. -/
def clockPossibleUptoRow : OpenClaim := { program := "ytphmfkellojecaa", sum := "7e3523b42c0b601f758e7a2ff7bbd562168f692dc9c2b7920e7ba79184c6855a", func := "seamark/seamarklaw34.ClockPossible", spec := "clockPossible", unfollowed := true, recurses := true, apart := false, narrowed := true }
def ClockPossibleUptoSaid : Prop := clockPossibleUptoRow.holds Try.pinned (OpenSpec.upto clockPossibleSpec)

/-- 'seamarklaw34.ClockShows', WHERE WHAT IT READS IS OF BULK AT MOST 1048576: true; the input reads as it did. -/
def clockShowsUptoRow : OpenClaim := { program := "ytphmfkellojecaa", sum := "7e3523b42c0b601f758e7a2ff7bbd562168f692dc9c2b7920e7ba79184c6855a", func := "seamark/seamarklaw34.ClockShows", spec := "clockShows", unfollowed := true, recurses := true, apart := false, narrowed := true }
def ClockShowsUptoSaid : Prop := clockShowsUptoRow.holds Try.pinned (OpenSpec.upto clockShowsSpec)

/-- 'seamarklaw34.ClockPassed', WHERE WHAT IT READS IS OF BULK AT MOST 1048576: true; the input reads as it did. -/
def clockPassedUptoRow : OpenClaim := { program := "ytphmfkellojecaa", sum := "7e3523b42c0b601f758e7a2ff7bbd562168f692dc9c2b7920e7ba79184c6855a", func := "seamark/seamarklaw34.ClockPassed", spec := "clockPassed", unfollowed := true, recurses := true, apart := false, narrowed := true }
def ClockPassedUptoSaid : Prop := clockPassedUptoRow.holds Try.pinned (OpenSpec.upto clockPassedSpec)

/-- 'seamarklaw34.ClockSet', WHERE WHAT IT READS IS OF BULK AT MOST 1048576: true; the input reads as it did. -/
def clockSetUptoRow : OpenClaim := { program := "ytphmfkellojecaa", sum := "7e3523b42c0b601f758e7a2ff7bbd562168f692dc9c2b7920e7ba79184c6855a", func := "seamark/seamarklaw34.ClockSet", spec := "clockSet", unfollowed := true, recurses := true, apart := false, narrowed := true }
def ClockSetUptoSaid : Prop := clockSetUptoRow.holds Try.pinned (OpenSpec.upto clockSetSpec)

/-- 'seamarklaw34.ClockCorrected', WHERE WHAT IT READS IS OF BULK AT MOST 1048576: true; the input reads as it did. -/
def clockCorrectedUptoRow : OpenClaim := { program := "ytphmfkellojecaa", sum := "7e3523b42c0b601f758e7a2ff7bbd562168f692dc9c2b7920e7ba79184c6855a", func := "seamark/seamarklaw34.ClockCorrected", spec := "clockCorrected", unfollowed := true, recurses := true, apart := false, narrowed := true }
def ClockCorrectedUptoSaid : Prop := clockCorrectedUptoRow.holds Try.pinned (OpenSpec.upto clockCorrectedSpec)

/-- 'seamarklaw34.ClockTrue', WHERE WHAT IT READS IS OF BULK AT MOST 1048576: true; the input reads as it did. -/
def clockTrueUptoRow : OpenClaim := { program := "ytphmfkellojecaa", sum := "7e3523b42c0b601f758e7a2ff7bbd562168f692dc9c2b7920e7ba79184c6855a", func := "seamark/seamarklaw34.ClockTrue", spec := "clockTrue", unfollowed := true, recurses := true, apart := false, narrowed := true }
def ClockTrueUptoSaid : Prop := clockTrueUptoRow.holds Try.pinned (OpenSpec.upto clockTrueSpec)

/-- 'seamarklaw34.ClockTwice', WHERE WHAT IT READS IS OF BULK AT MOST 1048576: true; the input reads as it did. -/
def clockTwiceUptoRow : OpenClaim := { program := "ytphmfkellojecaa", sum := "7e3523b42c0b601f758e7a2ff7bbd562168f692dc9c2b7920e7ba79184c6855a", func := "seamark/seamarklaw34.ClockTwice", spec := "clockTwice", unfollowed := true, recurses := true, apart := false, narrowed := true }
def ClockTwiceUptoSaid : Prop := clockTwiceUptoRow.holds Try.pinned (OpenSpec.upto clockTwiceSpec)

end Rows
end Go.Proofs.Ytphmfkellojecaa
