/-
  NARROWER THAN 'FOR EVERY INPUT', by the rows' own cells (each row's printed sentence says how): ClashMatchesReference: laid · ClashParts: laid · ClashCore: laid · ClashRepair: laid · ClashBlame: laid · ClashPairs: laid · ClashFurther: laid · ClashAnyOrder: laid.
  DERIVED. THE GIVEN ROWS OF THIS SEAT. 8 by the template 'for every input the law returns true; each argument reads behind the call as it read before'; 0 by the template 'total and deterministic' (their statements: YtmnejmpjmniiiaaGreatDoorTotals.lean).
  GIVEN WITH THE SEED: the statements are not yours to turn. If you find one false, say at which input.
  Laid BY PROGRAM, IN A SANDBOX (cutbox-rows.mjs): the forced cells as the released guide's own fill.sh prints them over the translation 63710666f3dfaa33… (all of the seat's roots in one cut). By AI agents, Wed Nov 11 2026. No macro, syntax, notation, axiom, sorry.
-/
import Derived.Test.YtmnejmpjmniiiaaGreatDoorChecked
import GoSem.Claim
import GoSem.ClaimJoined
import GoSem.ClaimMapViews
import Derived.JoinedTies
import Derived.KernelRfl
namespace Go.Proofs.YtmnejmpjmniiiaaGreatDoor
/- THE CELL 'sum', in the pinned program and in every row, IS THE sha256 OF THE DUMP (.gsa) THAT YtmnejmpjmniiiaaGreatDoorProg.lean LOADS. Nothing in Lean hashes anything: it is a label: what it is worth is what the hold of that sum in a sandbox is worth. -/
noncomputable def Tryz.pinned : Pinned := { name := "ytmnejmpjmniiiaagreatdoor", sum := "63710666f3dfaa33a8d508d3e96005daeaae0b565de02d1b42eead852229836e", checked := Tryz.checked }
namespace Rows
def none {H : Type} : Left H := { results := [], args := [] }

/- WHAT THE LISTED PACKAGE-LEVEL VARIABLES READ AS WHEN THE CALL BEGINS. Each datum BY PROGRAM (the guide's laid-datum.mjs) off the statement by which the dump's own 'gosem.cut.vars' lays the variable. In a bare row this is a premise. The card (YtmnejmpjmniiiaaGreatDoorCards.lean) ties it to the program's text. -/
def laid_math_bits_deBruijn32tab {H : Type} : DataW H := .agg [.lit (.int .u8 0), .lit (.int .u8 1), .lit (.int .u8 28), .lit (.int .u8 2), .lit (.int .u8 29), .lit (.int .u8 14), .lit (.int .u8 24), .lit (.int .u8 3), .lit (.int .u8 30), .lit (.int .u8 22), .lit (.int .u8 20), .lit (.int .u8 15), .lit (.int .u8 25), .lit (.int .u8 17), .lit (.int .u8 4), .lit (.int .u8 8), .lit (.int .u8 31), .lit (.int .u8 27), .lit (.int .u8 13), .lit (.int .u8 23), .lit (.int .u8 21), .lit (.int .u8 19), .lit (.int .u8 16), .lit (.int .u8 7), .lit (.int .u8 26), .lit (.int .u8 12), .lit (.int .u8 18), .lit (.int .u8 6), .lit (.int .u8 11), .lit (.int .u8 5), .lit (.int .u8 10), .lit (.int .u8 9)]
def laid_math_bits_deBruijn64tab {H : Type} : DataW H := .agg [.lit (.int .u8 0), .lit (.int .u8 1), .lit (.int .u8 56), .lit (.int .u8 2), .lit (.int .u8 57), .lit (.int .u8 49), .lit (.int .u8 28), .lit (.int .u8 3), .lit (.int .u8 61), .lit (.int .u8 58), .lit (.int .u8 42), .lit (.int .u8 50), .lit (.int .u8 38), .lit (.int .u8 29), .lit (.int .u8 17), .lit (.int .u8 4), .lit (.int .u8 62), .lit (.int .u8 47), .lit (.int .u8 59), .lit (.int .u8 36), .lit (.int .u8 45), .lit (.int .u8 43), .lit (.int .u8 51), .lit (.int .u8 22), .lit (.int .u8 53), .lit (.int .u8 39), .lit (.int .u8 33), .lit (.int .u8 30), .lit (.int .u8 24), .lit (.int .u8 18), .lit (.int .u8 12), .lit (.int .u8 5), .lit (.int .u8 63), .lit (.int .u8 55), .lit (.int .u8 48), .lit (.int .u8 27), .lit (.int .u8 60), .lit (.int .u8 41), .lit (.int .u8 37), .lit (.int .u8 16), .lit (.int .u8 46), .lit (.int .u8 35), .lit (.int .u8 44), .lit (.int .u8 21), .lit (.int .u8 52), .lit (.int .u8 32), .lit (.int .u8 23), .lit (.int .u8 11), .lit (.int .u8 54), .lit (.int .u8 26), .lit (.int .u8 40), .lit (.int .u8 15), .lit (.int .u8 34), .lit (.int .u8 20), .lit (.int .u8 31), .lit (.int .u8 10), .lit (.int .u8 25), .lit (.int .u8 14), .lit (.int .u8 19), .lit (.int .u8 9), .lit (.int .u8 13), .lit (.int .u8 8), .lit (.int .u8 7), .lit (.int .u8 6)]

/-- 'seamarklaw19.ClashMatchesReference': WHATEVER THE INPUT: true; the input reads as it did. -/
def clashMatchesReferenceSpec : ChangeSpec := { name := "clashMatchesReference", fn := fun _ => fun
  | [d1, d2] => { results := [.lit (.bool true)], args := [d1, d2] }
  | _ => none }
def clashMatchesReferenceRow : OpenClaim := { program := "ytmnejmpjmniiiaagreatdoor", sum := "63710666f3dfaa33a8d508d3e96005daeaae0b565de02d1b42eead852229836e", func := "seamark/seamarklaw19.ClashMatchesReference", spec := "clashMatchesReference", unfollowed := true, recurses := true, named := ["math/bits.deBruijn32tab", "math/bits.deBruijn64tab"], apart := false, laid := [("math/bits.deBruijn32tab", laid_math_bits_deBruijn32tab), ("math/bits.deBruijn64tab", laid_math_bits_deBruijn64tab)] }
def ClashMatchesReferenceSaid : Prop := clashMatchesReferenceRow.holds Tryz.pinned (OpenSpec.ofChange clashMatchesReferenceSpec)

/-- ITS FALSE NEIGHBOUR: 'it returns false'. Refute it at one input. -/
def clashMatchesReferenceWrong : ChangeSpec := { name := "clashMatchesReference", fn := fun _ => fun
  | [d1, d2] => { results := [.lit (.bool false)], args := [d1, d2] }
  | _ => none }
def ClashMatchesReferenceWrongFalsely : Prop := clashMatchesReferenceRow.holds Tryz.pinned (OpenSpec.ofChange clashMatchesReferenceWrong)

/-- 'seamarklaw19.ClashParts': WHATEVER THE INPUT: true; the input reads as it did. -/
def clashPartsSpec : ChangeSpec := { name := "clashParts", fn := fun _ => fun
  | [d1, d2, d3] => { results := [.lit (.bool true)], args := [d1, d2, d3] }
  | _ => none }
def clashPartsRow : OpenClaim := { program := "ytmnejmpjmniiiaagreatdoor", sum := "63710666f3dfaa33a8d508d3e96005daeaae0b565de02d1b42eead852229836e", func := "seamark/seamarklaw19.ClashParts", spec := "clashParts", unfollowed := true, recurses := true, named := ["math/bits.deBruijn32tab", "math/bits.deBruijn64tab"], apart := false, laid := [("math/bits.deBruijn32tab", laid_math_bits_deBruijn32tab), ("math/bits.deBruijn64tab", laid_math_bits_deBruijn64tab)] }
def ClashPartsSaid : Prop := clashPartsRow.holds Tryz.pinned (OpenSpec.ofChange clashPartsSpec)

/-- ITS FALSE NEIGHBOUR: 'it returns false'. Refute it at one input. -/
def clashPartsWrong : ChangeSpec := { name := "clashParts", fn := fun _ => fun
  | [d1, d2, d3] => { results := [.lit (.bool false)], args := [d1, d2, d3] }
  | _ => none }
def ClashPartsWrongFalsely : Prop := clashPartsRow.holds Tryz.pinned (OpenSpec.ofChange clashPartsWrong)

/-- 'seamarklaw19.ClashCore': WHATEVER THE INPUT: true; the input reads as it did. -/
def clashCoreSpec : ChangeSpec := { name := "clashCore", fn := fun _ => fun
  | [d1, d2] => { results := [.lit (.bool true)], args := [d1, d2] }
  | _ => none }
def clashCoreRow : OpenClaim := { program := "ytmnejmpjmniiiaagreatdoor", sum := "63710666f3dfaa33a8d508d3e96005daeaae0b565de02d1b42eead852229836e", func := "seamark/seamarklaw19.ClashCore", spec := "clashCore", unfollowed := true, recurses := true, named := ["math/bits.deBruijn32tab", "math/bits.deBruijn64tab"], apart := false, laid := [("math/bits.deBruijn32tab", laid_math_bits_deBruijn32tab), ("math/bits.deBruijn64tab", laid_math_bits_deBruijn64tab)] }
def ClashCoreSaid : Prop := clashCoreRow.holds Tryz.pinned (OpenSpec.ofChange clashCoreSpec)

/-- ITS FALSE NEIGHBOUR: 'it returns false'. Refute it at one input. -/
def clashCoreWrong : ChangeSpec := { name := "clashCore", fn := fun _ => fun
  | [d1, d2] => { results := [.lit (.bool false)], args := [d1, d2] }
  | _ => none }
def ClashCoreWrongFalsely : Prop := clashCoreRow.holds Tryz.pinned (OpenSpec.ofChange clashCoreWrong)

/-- 'seamarklaw19.ClashRepair': WHATEVER THE INPUT: true; the input reads as it did. -/
def clashRepairSpec : ChangeSpec := { name := "clashRepair", fn := fun _ => fun
  | [d1, d2, d3] => { results := [.lit (.bool true)], args := [d1, d2, d3] }
  | _ => none }
def clashRepairRow : OpenClaim := { program := "ytmnejmpjmniiiaagreatdoor", sum := "63710666f3dfaa33a8d508d3e96005daeaae0b565de02d1b42eead852229836e", func := "seamark/seamarklaw19.ClashRepair", spec := "clashRepair", unfollowed := true, recurses := true, named := ["math/bits.deBruijn32tab", "math/bits.deBruijn64tab"], apart := false, laid := [("math/bits.deBruijn32tab", laid_math_bits_deBruijn32tab), ("math/bits.deBruijn64tab", laid_math_bits_deBruijn64tab)] }
def ClashRepairSaid : Prop := clashRepairRow.holds Tryz.pinned (OpenSpec.ofChange clashRepairSpec)

/-- ITS FALSE NEIGHBOUR: 'it returns false'. Refute it at one input. -/
def clashRepairWrong : ChangeSpec := { name := "clashRepair", fn := fun _ => fun
  | [d1, d2, d3] => { results := [.lit (.bool false)], args := [d1, d2, d3] }
  | _ => none }
def ClashRepairWrongFalsely : Prop := clashRepairRow.holds Tryz.pinned (OpenSpec.ofChange clashRepairWrong)

/-- 'seamarklaw19.ClashBlame': WHATEVER THE INPUT: true; the input reads as it did. -/
def clashBlameSpec : ChangeSpec := { name := "clashBlame", fn := fun _ => fun
  | [d] => { results := [.lit (.bool true)], args := [d] }
  | _ => none }
def clashBlameRow : OpenClaim := { program := "ytmnejmpjmniiiaagreatdoor", sum := "63710666f3dfaa33a8d508d3e96005daeaae0b565de02d1b42eead852229836e", func := "seamark/seamarklaw19.ClashBlame", spec := "clashBlame", unfollowed := true, recurses := true, named := ["math/bits.deBruijn32tab", "math/bits.deBruijn64tab"], apart := false, laid := [("math/bits.deBruijn32tab", laid_math_bits_deBruijn32tab), ("math/bits.deBruijn64tab", laid_math_bits_deBruijn64tab)] }
def ClashBlameSaid : Prop := clashBlameRow.holds Tryz.pinned (OpenSpec.ofChange clashBlameSpec)

/-- ITS FALSE NEIGHBOUR: 'it returns false'. Refute it at one input. -/
def clashBlameWrong : ChangeSpec := { name := "clashBlame", fn := fun _ => fun
  | [d] => { results := [.lit (.bool false)], args := [d] }
  | _ => none }
def ClashBlameWrongFalsely : Prop := clashBlameRow.holds Tryz.pinned (OpenSpec.ofChange clashBlameWrong)

/-- 'seamarklaw19.ClashPairs': WHATEVER THE INPUT: true; the input reads as it did. -/
def clashPairsSpec : ChangeSpec := { name := "clashPairs", fn := fun _ => fun
  | [d1, d2] => { results := [.lit (.bool true)], args := [d1, d2] }
  | _ => none }
def clashPairsRow : OpenClaim := { program := "ytmnejmpjmniiiaagreatdoor", sum := "63710666f3dfaa33a8d508d3e96005daeaae0b565de02d1b42eead852229836e", func := "seamark/seamarklaw19.ClashPairs", spec := "clashPairs", unfollowed := true, recurses := true, named := ["math/bits.deBruijn32tab", "math/bits.deBruijn64tab"], apart := false, laid := [("math/bits.deBruijn32tab", laid_math_bits_deBruijn32tab), ("math/bits.deBruijn64tab", laid_math_bits_deBruijn64tab)] }
def ClashPairsSaid : Prop := clashPairsRow.holds Tryz.pinned (OpenSpec.ofChange clashPairsSpec)

/-- ITS FALSE NEIGHBOUR: 'it returns false'. Refute it at one input. -/
def clashPairsWrong : ChangeSpec := { name := "clashPairs", fn := fun _ => fun
  | [d1, d2] => { results := [.lit (.bool false)], args := [d1, d2] }
  | _ => none }
def ClashPairsWrongFalsely : Prop := clashPairsRow.holds Tryz.pinned (OpenSpec.ofChange clashPairsWrong)

/-- 'seamarklaw19.ClashFurther': WHATEVER THE INPUT: true; the input reads as it did. -/
def clashFurtherSpec : ChangeSpec := { name := "clashFurther", fn := fun _ => fun
  | [d1, d2, d3, d4] => { results := [.lit (.bool true)], args := [d1, d2, d3, d4] }
  | _ => none }
def clashFurtherRow : OpenClaim := { program := "ytmnejmpjmniiiaagreatdoor", sum := "63710666f3dfaa33a8d508d3e96005daeaae0b565de02d1b42eead852229836e", func := "seamark/seamarklaw19.ClashFurther", spec := "clashFurther", unfollowed := true, recurses := true, named := ["math/bits.deBruijn32tab", "math/bits.deBruijn64tab"], apart := false, laid := [("math/bits.deBruijn32tab", laid_math_bits_deBruijn32tab), ("math/bits.deBruijn64tab", laid_math_bits_deBruijn64tab)] }
def ClashFurtherSaid : Prop := clashFurtherRow.holds Tryz.pinned (OpenSpec.ofChange clashFurtherSpec)

/-- ITS FALSE NEIGHBOUR: 'it returns false'. Refute it at one input. -/
def clashFurtherWrong : ChangeSpec := { name := "clashFurther", fn := fun _ => fun
  | [d1, d2, d3, d4] => { results := [.lit (.bool false)], args := [d1, d2, d3, d4] }
  | _ => none }
def ClashFurtherWrongFalsely : Prop := clashFurtherRow.holds Tryz.pinned (OpenSpec.ofChange clashFurtherWrong)

/-- 'seamarklaw19.ClashAnyOrder': WHATEVER THE INPUT: true; the input reads as it did. -/
def clashAnyOrderSpec : ChangeSpec := { name := "clashAnyOrder", fn := fun _ => fun
  | [d1, d2, d3] => { results := [.lit (.bool true)], args := [d1, d2, d3] }
  | _ => none }
def clashAnyOrderRow : OpenClaim := { program := "ytmnejmpjmniiiaagreatdoor", sum := "63710666f3dfaa33a8d508d3e96005daeaae0b565de02d1b42eead852229836e", func := "seamark/seamarklaw19.ClashAnyOrder", spec := "clashAnyOrder", unfollowed := true, recurses := true, named := ["math/bits.deBruijn32tab", "math/bits.deBruijn64tab"], apart := false, laid := [("math/bits.deBruijn32tab", laid_math_bits_deBruijn32tab), ("math/bits.deBruijn64tab", laid_math_bits_deBruijn64tab)] }
def ClashAnyOrderSaid : Prop := clashAnyOrderRow.holds Tryz.pinned (OpenSpec.ofChange clashAnyOrderSpec)

/-- ITS FALSE NEIGHBOUR: 'it returns false'. Refute it at one input. -/
def clashAnyOrderWrong : ChangeSpec := { name := "clashAnyOrder", fn := fun _ => fun
  | [d1, d2, d3] => { results := [.lit (.bool false)], args := [d1, d2, d3] }
  | _ => none }
def ClashAnyOrderWrongFalsely : Prop := clashAnyOrderRow.holds Tryz.pinned (OpenSpec.ofChange clashAnyOrderWrong)

/- THE SECOND FORM. 'bulk': how many values and letters a reading holds, each counted each time it is reached (what is shared counts as often as it is met; a slice's spare places count too). A statement '..UptoSaid' is the law's where the arguments, and the package variables that the reading takes, are together of bulk at most 1048576: NARROWER than '..Said'. Prove '..Said' where nothing that the law and all that it calls make is longer than what came in: it says more and counts as full. Else prove '..UptoSaid'. A law counts once. -/
mutual
def uptoBulk {H : Type} : DataW H → Nat
  | .lit (.string bytes) => bytes.length + 1
  | .lit _ => 1
  | .nil => 1
  | .ptr d => uptoBulk d + 1
  | .slice elems spare => uptoBulkAll elems + uptoBulkAll spare + 1
  | .agg parts => uptoBulkAll parts + 1
  | .iface _ d => uptoBulk d + 1
  | .map entries => uptoBulkEntries entries + 1
  | .held _ => 1
def uptoBulkAll {H : Type} : List (DataW H) → Nat
  | [] => 0
  | d :: r => uptoBulk d + uptoBulkAll r
def uptoBulkEntries {H : Type} : List (Lit × DataW H) → Nat
  | [] => 0
  | x :: r => uptoBulkEntry x + uptoBulkEntries r
def uptoBulkEntry {H : Type} : Lit × DataW H → Nat
  | (.string bytes, d) => bytes.length + uptoBulk d + 1
  | (_, d) => uptoBulk d + 1
 end
def uptoSmall : (H : Type) → List (DataW H) → Bool := fun _ ds => decide (uptoBulkAll ds ≤ 1048576)
def OpenSpec.upto (s : _root_.Go.ChangeSpec) : _root_.Go.OpenSpec := { _root_.Go.OpenSpec.ofChange s with cond := some uptoSmall }

/-- 'seamarklaw19.ClashMatchesReference', WHERE WHAT IT READS IS OF BULK AT MOST 1048576: true; the input reads as it did. -/
def clashMatchesReferenceUptoRow : OpenClaim := { program := "ytmnejmpjmniiiaagreatdoor", sum := "63710666f3dfaa33a8d508d3e96005daeaae0b565de02d1b42eead852229836e", func := "seamark/seamarklaw19.ClashMatchesReference", spec := "clashMatchesReference", unfollowed := true, recurses := true, named := ["math/bits.deBruijn32tab", "math/bits.deBruijn64tab"], apart := false, laid := [("math/bits.deBruijn32tab", laid_math_bits_deBruijn32tab), ("math/bits.deBruijn64tab", laid_math_bits_deBruijn64tab)], narrowed := true }
def ClashMatchesReferenceUptoSaid : Prop := clashMatchesReferenceUptoRow.holds Tryz.pinned (OpenSpec.upto clashMatchesReferenceSpec)

/-- 'seamarklaw19.ClashParts', WHERE WHAT IT READS IS OF BULK AT MOST 1048576: true; the input reads as it did. -/
def clashPartsUptoRow : OpenClaim := { program := "ytmnejmpjmniiiaagreatdoor", sum := "63710666f3dfaa33a8d508d3e96005daeaae0b565de02d1b42eead852229836e", func := "seamark/seamarklaw19.ClashParts", spec := "clashParts", unfollowed := true, recurses := true, named := ["math/bits.deBruijn32tab", "math/bits.deBruijn64tab"], apart := false, laid := [("math/bits.deBruijn32tab", laid_math_bits_deBruijn32tab), ("math/bits.deBruijn64tab", laid_math_bits_deBruijn64tab)], narrowed := true }
def ClashPartsUptoSaid : Prop := clashPartsUptoRow.holds Tryz.pinned (OpenSpec.upto clashPartsSpec)

/-- 'seamarklaw19.ClashCore', WHERE WHAT IT READS IS OF BULK AT MOST 1048576: true; the input reads as it did. -/
def clashCoreUptoRow : OpenClaim := { program := "ytmnejmpjmniiiaagreatdoor", sum := "63710666f3dfaa33a8d508d3e96005daeaae0b565de02d1b42eead852229836e", func := "seamark/seamarklaw19.ClashCore", spec := "clashCore", unfollowed := true, recurses := true, named := ["math/bits.deBruijn32tab", "math/bits.deBruijn64tab"], apart := false, laid := [("math/bits.deBruijn32tab", laid_math_bits_deBruijn32tab), ("math/bits.deBruijn64tab", laid_math_bits_deBruijn64tab)], narrowed := true }
def ClashCoreUptoSaid : Prop := clashCoreUptoRow.holds Tryz.pinned (OpenSpec.upto clashCoreSpec)

/-- 'seamarklaw19.ClashRepair', WHERE WHAT IT READS IS OF BULK AT MOST 1048576: true; the input reads as it did. -/
def clashRepairUptoRow : OpenClaim := { program := "ytmnejmpjmniiiaagreatdoor", sum := "63710666f3dfaa33a8d508d3e96005daeaae0b565de02d1b42eead852229836e", func := "seamark/seamarklaw19.ClashRepair", spec := "clashRepair", unfollowed := true, recurses := true, named := ["math/bits.deBruijn32tab", "math/bits.deBruijn64tab"], apart := false, laid := [("math/bits.deBruijn32tab", laid_math_bits_deBruijn32tab), ("math/bits.deBruijn64tab", laid_math_bits_deBruijn64tab)], narrowed := true }
def ClashRepairUptoSaid : Prop := clashRepairUptoRow.holds Tryz.pinned (OpenSpec.upto clashRepairSpec)

/-- 'seamarklaw19.ClashBlame', WHERE WHAT IT READS IS OF BULK AT MOST 1048576: true; the input reads as it did. -/
def clashBlameUptoRow : OpenClaim := { program := "ytmnejmpjmniiiaagreatdoor", sum := "63710666f3dfaa33a8d508d3e96005daeaae0b565de02d1b42eead852229836e", func := "seamark/seamarklaw19.ClashBlame", spec := "clashBlame", unfollowed := true, recurses := true, named := ["math/bits.deBruijn32tab", "math/bits.deBruijn64tab"], apart := false, laid := [("math/bits.deBruijn32tab", laid_math_bits_deBruijn32tab), ("math/bits.deBruijn64tab", laid_math_bits_deBruijn64tab)], narrowed := true }
def ClashBlameUptoSaid : Prop := clashBlameUptoRow.holds Tryz.pinned (OpenSpec.upto clashBlameSpec)

/-- 'seamarklaw19.ClashPairs', WHERE WHAT IT READS IS OF BULK AT MOST 1048576: true; the input reads as it did. -/
def clashPairsUptoRow : OpenClaim := { program := "ytmnejmpjmniiiaagreatdoor", sum := "63710666f3dfaa33a8d508d3e96005daeaae0b565de02d1b42eead852229836e", func := "seamark/seamarklaw19.ClashPairs", spec := "clashPairs", unfollowed := true, recurses := true, named := ["math/bits.deBruijn32tab", "math/bits.deBruijn64tab"], apart := false, laid := [("math/bits.deBruijn32tab", laid_math_bits_deBruijn32tab), ("math/bits.deBruijn64tab", laid_math_bits_deBruijn64tab)], narrowed := true }
def ClashPairsUptoSaid : Prop := clashPairsUptoRow.holds Tryz.pinned (OpenSpec.upto clashPairsSpec)

/-- 'seamarklaw19.ClashFurther', WHERE WHAT IT READS IS OF BULK AT MOST 1048576: true; the input reads as it did. -/
def clashFurtherUptoRow : OpenClaim := { program := "ytmnejmpjmniiiaagreatdoor", sum := "63710666f3dfaa33a8d508d3e96005daeaae0b565de02d1b42eead852229836e", func := "seamark/seamarklaw19.ClashFurther", spec := "clashFurther", unfollowed := true, recurses := true, named := ["math/bits.deBruijn32tab", "math/bits.deBruijn64tab"], apart := false, laid := [("math/bits.deBruijn32tab", laid_math_bits_deBruijn32tab), ("math/bits.deBruijn64tab", laid_math_bits_deBruijn64tab)], narrowed := true }
def ClashFurtherUptoSaid : Prop := clashFurtherUptoRow.holds Tryz.pinned (OpenSpec.upto clashFurtherSpec)

/-- 'seamarklaw19.ClashAnyOrder', WHERE WHAT IT READS IS OF BULK AT MOST 1048576: true; the input reads as it did. -/
def clashAnyOrderUptoRow : OpenClaim := { program := "ytmnejmpjmniiiaagreatdoor", sum := "63710666f3dfaa33a8d508d3e96005daeaae0b565de02d1b42eead852229836e", func := "seamark/seamarklaw19.ClashAnyOrder", spec := "clashAnyOrder", unfollowed := true, recurses := true, named := ["math/bits.deBruijn32tab", "math/bits.deBruijn64tab"], apart := false, laid := [("math/bits.deBruijn32tab", laid_math_bits_deBruijn32tab), ("math/bits.deBruijn64tab", laid_math_bits_deBruijn64tab)], narrowed := true }
def ClashAnyOrderUptoSaid : Prop := clashAnyOrderUptoRow.holds Tryz.pinned (OpenSpec.upto clashAnyOrderSpec)

end Rows
end Go.Proofs.YtmnejmpjmniiiaaGreatDoor
