/-
  No cell of these rows narrows 'for every input' (looked for: loops, veiled, ifaces, maps, wideKeys, modest, calm, conditions, laid).
  DERIVED. THE GIVEN ROWS OF THIS SEAT. 7 by the template 'for every input the law returns true; each argument reads behind the call as it read before'; 0 by the template 'total and deterministic' (their statements: YtdhgiklbkmkblaaGreatTotals.lean).
  GIVEN WITH THE SEED: the statements are not yours to turn. If you find one false, say at which input.
  Laid BY PROGRAM, IN A SANDBOX (cutbox-rows.mjs): the forced cells as the released guide's own fill.sh prints them over the translation 2b206c7a9c349551… (all of the seat's roots in one cut). By AI agents, Wed Nov 11 2026. No macro, syntax, notation, axiom, sorry.
-/
import Derived.Test.YtdhgiklbkmkblaaGreatChecked
import GoSem.Claim
import GoSem.ClaimJoined
import GoSem.ClaimMapViews
import Derived.JoinedTies
import Derived.KernelRfl
namespace Go.Proofs.YtdhgiklbkmkblaaGreat
/- THE CELL 'sum', in the pinned program and in every row, IS THE sha256 OF THE DUMP (.gsa) THAT YtdhgiklbkmkblaaGreatProg.lean LOADS. Nothing in Lean hashes anything: it is a label: what it is worth is what the hold of that sum in a sandbox is worth. -/
noncomputable def Tryz.pinned : Pinned := { name := "ytdhgiklbkmkblaagreat", sum := "2b206c7a9c34955186812cf411a5a431c0a175e63508426a32125a2715277c6e", checked := Tryz.checked }
namespace Rows
def none {H : Type} : Left H := { results := [], args := [] }

/-- 'seamarklaw21.EditionMatchesReference': WHATEVER THE INPUT: true; the input reads as it did. -/
def editionMatchesReferenceSpec : ChangeSpec := { name := "editionMatchesReference", fn := fun _ => fun
  | [d1, d2, d3, d4, d5, d6] => { results := [.lit (.bool true)], args := [d1, d2, d3, d4, d5, d6] }
  | _ => none }
def editionMatchesReferenceRow : OpenClaim := { program := "ytdhgiklbkmkblaagreat", sum := "2b206c7a9c34955186812cf411a5a431c0a175e63508426a32125a2715277c6e", func := "seamark/seamarklaw21.EditionMatchesReference", spec := "editionMatchesReference", inPlace := ["slices.overlaps[int]"], unfollowed := true, recurses := true, apart := false }
def EditionMatchesReferenceSaid : Prop := editionMatchesReferenceRow.holds Tryz.pinned (OpenSpec.ofChange editionMatchesReferenceSpec)

/-- ITS FALSE NEIGHBOUR: 'it returns false'. Refute it at one input. -/
def editionMatchesReferenceWrong : ChangeSpec := { name := "editionMatchesReference", fn := fun _ => fun
  | [d1, d2, d3, d4, d5, d6] => { results := [.lit (.bool false)], args := [d1, d2, d3, d4, d5, d6] }
  | _ => none }
def EditionMatchesReferenceWrongFalsely : Prop := editionMatchesReferenceRow.holds Tryz.pinned (OpenSpec.ofChange editionMatchesReferenceWrong)

/-- 'seamarklaw21.EditionApplied': WHATEVER THE INPUT: true; the input reads as it did. -/
def editionAppliedSpec : ChangeSpec := { name := "editionApplied", fn := fun _ => fun
  | [d1, d2] => { results := [.lit (.bool true)], args := [d1, d2] }
  | _ => none }
def editionAppliedRow : OpenClaim := { program := "ytdhgiklbkmkblaagreat", sum := "2b206c7a9c34955186812cf411a5a431c0a175e63508426a32125a2715277c6e", func := "seamark/seamarklaw21.EditionApplied", spec := "editionApplied", inPlace := ["slices.overlaps[int]"], unfollowed := true, recurses := true, apart := false }
def EditionAppliedSaid : Prop := editionAppliedRow.holds Tryz.pinned (OpenSpec.ofChange editionAppliedSpec)

/-- ITS FALSE NEIGHBOUR: 'it returns false'. Refute it at one input. -/
def editionAppliedWrong : ChangeSpec := { name := "editionApplied", fn := fun _ => fun
  | [d1, d2] => { results := [.lit (.bool false)], args := [d1, d2] }
  | _ => none }
def EditionAppliedWrongFalsely : Prop := editionAppliedRow.holds Tryz.pinned (OpenSpec.ofChange editionAppliedWrong)

/-- 'seamarklaw21.EditionNumbers': WHATEVER THE INPUT: true; the input reads as it did. -/
def editionNumbersSpec : ChangeSpec := { name := "editionNumbers", fn := fun _ => fun
  | [d1, d2] => { results := [.lit (.bool true)], args := [d1, d2] }
  | _ => none }
def editionNumbersRow : OpenClaim := { program := "ytdhgiklbkmkblaagreat", sum := "2b206c7a9c34955186812cf411a5a431c0a175e63508426a32125a2715277c6e", func := "seamark/seamarklaw21.EditionNumbers", spec := "editionNumbers", inPlace := ["slices.overlaps[int]"], unfollowed := true, recurses := true, apart := false }
def EditionNumbersSaid : Prop := editionNumbersRow.holds Tryz.pinned (OpenSpec.ofChange editionNumbersSpec)

/-- ITS FALSE NEIGHBOUR: 'it returns false'. Refute it at one input. -/
def editionNumbersWrong : ChangeSpec := { name := "editionNumbers", fn := fun _ => fun
  | [d1, d2] => { results := [.lit (.bool false)], args := [d1, d2] }
  | _ => none }
def EditionNumbersWrongFalsely : Prop := editionNumbersRow.holds Tryz.pinned (OpenSpec.ofChange editionNumbersWrong)

/-- 'seamarklaw21.EditionSeveral': WHATEVER THE INPUT: true; the input reads as it did. -/
def editionSeveralSpec : ChangeSpec := { name := "editionSeveral", fn := fun _ => fun
  | [d1, d2, d3] => { results := [.lit (.bool true)], args := [d1, d2, d3] }
  | _ => none }
def editionSeveralRow : OpenClaim := { program := "ytdhgiklbkmkblaagreat", sum := "2b206c7a9c34955186812cf411a5a431c0a175e63508426a32125a2715277c6e", func := "seamark/seamarklaw21.EditionSeveral", spec := "editionSeveral", inPlace := ["slices.overlaps[int]"], unfollowed := true, recurses := true, apart := false }
def EditionSeveralSaid : Prop := editionSeveralRow.holds Tryz.pinned (OpenSpec.ofChange editionSeveralSpec)

/-- ITS FALSE NEIGHBOUR: 'it returns false'. Refute it at one input. -/
def editionSeveralWrong : ChangeSpec := { name := "editionSeveral", fn := fun _ => fun
  | [d1, d2, d3] => { results := [.lit (.bool false)], args := [d1, d2, d3] }
  | _ => none }
def EditionSeveralWrongFalsely : Prop := editionSeveralRow.holds Tryz.pinned (OpenSpec.ofChange editionSeveralWrong)

/-- 'seamarklaw21.EditionOthers': WHATEVER THE INPUT: true; the input reads as it did. -/
def editionOthersSpec : ChangeSpec := { name := "editionOthers", fn := fun _ => fun
  | [d1, d2] => { results := [.lit (.bool true)], args := [d1, d2] }
  | _ => none }
def editionOthersRow : OpenClaim := { program := "ytdhgiklbkmkblaagreat", sum := "2b206c7a9c34955186812cf411a5a431c0a175e63508426a32125a2715277c6e", func := "seamark/seamarklaw21.EditionOthers", spec := "editionOthers", inPlace := ["slices.overlaps[int]"], unfollowed := true, recurses := true, apart := false }
def EditionOthersSaid : Prop := editionOthersRow.holds Tryz.pinned (OpenSpec.ofChange editionOthersSpec)

/-- ITS FALSE NEIGHBOUR: 'it returns false'. Refute it at one input. -/
def editionOthersWrong : ChangeSpec := { name := "editionOthers", fn := fun _ => fun
  | [d1, d2] => { results := [.lit (.bool false)], args := [d1, d2] }
  | _ => none }
def EditionOthersWrongFalsely : Prop := editionOthersRow.holds Tryz.pinned (OpenSpec.ofChange editionOthersWrong)

/-- 'seamarklaw21.EditionCompared': WHATEVER THE INPUT: true; the input reads as it did. -/
def editionComparedSpec : ChangeSpec := { name := "editionCompared", fn := fun _ => fun
  | [d1, d2] => { results := [.lit (.bool true)], args := [d1, d2] }
  | _ => none }
def editionComparedRow : OpenClaim := { program := "ytdhgiklbkmkblaagreat", sum := "2b206c7a9c34955186812cf411a5a431c0a175e63508426a32125a2715277c6e", func := "seamark/seamarklaw21.EditionCompared", spec := "editionCompared", inPlace := ["slices.overlaps[int]"], unfollowed := true, recurses := true, apart := false }
def EditionComparedSaid : Prop := editionComparedRow.holds Tryz.pinned (OpenSpec.ofChange editionComparedSpec)

/-- ITS FALSE NEIGHBOUR: 'it returns false'. Refute it at one input. -/
def editionComparedWrong : ChangeSpec := { name := "editionCompared", fn := fun _ => fun
  | [d1, d2] => { results := [.lit (.bool false)], args := [d1, d2] }
  | _ => none }
def EditionComparedWrongFalsely : Prop := editionComparedRow.holds Tryz.pinned (OpenSpec.ofChange editionComparedWrong)

/-- 'seamarklaw21.EditionMade': WHATEVER THE INPUT: true; the input reads as it did. -/
def editionMadeSpec : ChangeSpec := { name := "editionMade", fn := fun _ => fun
  | [d1, d2] => { results := [.lit (.bool true)], args := [d1, d2] }
  | _ => none }
def editionMadeRow : OpenClaim := { program := "ytdhgiklbkmkblaagreat", sum := "2b206c7a9c34955186812cf411a5a431c0a175e63508426a32125a2715277c6e", func := "seamark/seamarklaw21.EditionMade", spec := "editionMade", inPlace := ["slices.overlaps[int]"], unfollowed := true, recurses := true, apart := false }
def EditionMadeSaid : Prop := editionMadeRow.holds Tryz.pinned (OpenSpec.ofChange editionMadeSpec)

/-- ITS FALSE NEIGHBOUR: 'it returns false'. Refute it at one input. -/
def editionMadeWrong : ChangeSpec := { name := "editionMade", fn := fun _ => fun
  | [d1, d2] => { results := [.lit (.bool false)], args := [d1, d2] }
  | _ => none }
def EditionMadeWrongFalsely : Prop := editionMadeRow.holds Tryz.pinned (OpenSpec.ofChange editionMadeWrong)

/- THE SECOND FORM. 'bulk': how many values and letters a reading holds, each counted each time it is reached (what is shared counts as often as it is met; a slice's spare places count too). A statement '..UptoSaid' is the law's where the arguments, and the package variables that the reading takes, are together of bulk at most 1048576: NARROWER than '..Said'. Prove '..Said' where nothing that the law and all that it calls make is longer than what came in: it says more and counts as full. Else prove '..UptoSaid'. A law counts once. -/
mutual
def uptoBulk {H : Type} : DataW H → Nat
  | .lit (.string bytes) => bytes.length + 1
  | .lit _ => 1
  | .nil => 1
  | .ptr d => uptoBulk d + 1
  | .slice elems spare => uptoBulkAll elems + uptoBulkAll spare + 1
  | .agg parts => uptoBulkAll parts + 1
  | .iface _ d => uptoBulk d + 1
  | .map entries => uptoBulkEntries entries + 1
  | .held _ => 1
def uptoBulkAll {H : Type} : List (DataW H) → Nat
  | [] => 0
  | d :: r => uptoBulk d + uptoBulkAll r
def uptoBulkEntries {H : Type} : List (Lit × DataW H) → Nat
  | [] => 0
  | x :: r => uptoBulkEntry x + uptoBulkEntries r
def uptoBulkEntry {H : Type} : Lit × DataW H → Nat
  | (.string bytes, d) => bytes.length + uptoBulk d + 1
  | (_, d) => uptoBulk d + 1
 end
def uptoSmall : (H : Type) → List (DataW H) → Bool := fun _ ds => decide (uptoBulkAll ds ≤ 1048576)
def OpenSpec.upto (s : _root_.Go.ChangeSpec) : _root_.Go.OpenSpec := { _root_.Go.OpenSpec.ofChange s with cond := some uptoSmall }

/-- 'seamarklaw21.EditionMatchesReference', WHERE WHAT IT READS IS OF BULK AT MOST 1048576: true; the input reads as it did. -/
def editionMatchesReferenceUptoRow : OpenClaim := { program := "ytdhgiklbkmkblaagreat", sum := "2b206c7a9c34955186812cf411a5a431c0a175e63508426a32125a2715277c6e", func := "seamark/seamarklaw21.EditionMatchesReference", spec := "editionMatchesReference", inPlace := ["slices.overlaps[int]"], unfollowed := true, recurses := true, apart := false, narrowed := true }
def EditionMatchesReferenceUptoSaid : Prop := editionMatchesReferenceUptoRow.holds Tryz.pinned (OpenSpec.upto editionMatchesReferenceSpec)

/-- 'seamarklaw21.EditionApplied', WHERE WHAT IT READS IS OF BULK AT MOST 1048576: true; the input reads as it did. -/
def editionAppliedUptoRow : OpenClaim := { program := "ytdhgiklbkmkblaagreat", sum := "2b206c7a9c34955186812cf411a5a431c0a175e63508426a32125a2715277c6e", func := "seamark/seamarklaw21.EditionApplied", spec := "editionApplied", inPlace := ["slices.overlaps[int]"], unfollowed := true, recurses := true, apart := false, narrowed := true }
def EditionAppliedUptoSaid : Prop := editionAppliedUptoRow.holds Tryz.pinned (OpenSpec.upto editionAppliedSpec)

/-- 'seamarklaw21.EditionNumbers', WHERE WHAT IT READS IS OF BULK AT MOST 1048576: true; the input reads as it did. -/
def editionNumbersUptoRow : OpenClaim := { program := "ytdhgiklbkmkblaagreat", sum := "2b206c7a9c34955186812cf411a5a431c0a175e63508426a32125a2715277c6e", func := "seamark/seamarklaw21.EditionNumbers", spec := "editionNumbers", inPlace := ["slices.overlaps[int]"], unfollowed := true, recurses := true, apart := false, narrowed := true }
def EditionNumbersUptoSaid : Prop := editionNumbersUptoRow.holds Tryz.pinned (OpenSpec.upto editionNumbersSpec)

/-- 'seamarklaw21.EditionSeveral', WHERE WHAT IT READS IS OF BULK AT MOST 1048576: true; the input reads as it did. -/
def editionSeveralUptoRow : OpenClaim := { program := "ytdhgiklbkmkblaagreat", sum := "2b206c7a9c34955186812cf411a5a431c0a175e63508426a32125a2715277c6e", func := "seamark/seamarklaw21.EditionSeveral", spec := "editionSeveral", inPlace := ["slices.overlaps[int]"], unfollowed := true, recurses := true, apart := false, narrowed := true }
def EditionSeveralUptoSaid : Prop := editionSeveralUptoRow.holds Tryz.pinned (OpenSpec.upto editionSeveralSpec)

/-- 'seamarklaw21.EditionOthers', WHERE WHAT IT READS IS OF BULK AT MOST 1048576: true; the input reads as it did. -/
def editionOthersUptoRow : OpenClaim := { program := "ytdhgiklbkmkblaagreat", sum := "2b206c7a9c34955186812cf411a5a431c0a175e63508426a32125a2715277c6e", func := "seamark/seamarklaw21.EditionOthers", spec := "editionOthers", inPlace := ["slices.overlaps[int]"], unfollowed := true, recurses := true, apart := false, narrowed := true }
def EditionOthersUptoSaid : Prop := editionOthersUptoRow.holds Tryz.pinned (OpenSpec.upto editionOthersSpec)

/-- 'seamarklaw21.EditionCompared', WHERE WHAT IT READS IS OF BULK AT MOST 1048576: true; the input reads as it did. -/
def editionComparedUptoRow : OpenClaim := { program := "ytdhgiklbkmkblaagreat", sum := "2b206c7a9c34955186812cf411a5a431c0a175e63508426a32125a2715277c6e", func := "seamark/seamarklaw21.EditionCompared", spec := "editionCompared", inPlace := ["slices.overlaps[int]"], unfollowed := true, recurses := true, apart := false, narrowed := true }
def EditionComparedUptoSaid : Prop := editionComparedUptoRow.holds Tryz.pinned (OpenSpec.upto editionComparedSpec)

/-- 'seamarklaw21.EditionMade', WHERE WHAT IT READS IS OF BULK AT MOST 1048576: true; the input reads as it did. -/
def editionMadeUptoRow : OpenClaim := { program := "ytdhgiklbkmkblaagreat", sum := "2b206c7a9c34955186812cf411a5a431c0a175e63508426a32125a2715277c6e", func := "seamark/seamarklaw21.EditionMade", spec := "editionMade", inPlace := ["slices.overlaps[int]"], unfollowed := true, recurses := true, apart := false, narrowed := true }
def EditionMadeUptoSaid : Prop := editionMadeUptoRow.holds Tryz.pinned (OpenSpec.upto editionMadeSpec)

end Rows
end Go.Proofs.YtdhgiklbkmkblaaGreat
