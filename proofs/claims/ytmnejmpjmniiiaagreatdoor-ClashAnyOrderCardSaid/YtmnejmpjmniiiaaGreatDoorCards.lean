/-
  DERIVED. GIVEN WITH THE SEED: THE CARDS: each row of YtmnejmpjmniiiaaGreatDoorRows.lean that lists a variable, with what it lists TIED to the program's text (the seventh form; the later family's looks); each row that meets fmt, with fmt's text TOLD by the authors' own Lean function (tested against real Go, not proved from fmt's source: count such statements apart). THE CARD IS WHAT COUNTS. Prove the row's statement (the work); the ties are given (YtmnejmpjmniiiaaGreatDoorTie.lean); close each card by the builder's one call (the guide's Derived/Test/ToyasCard.lean, 'card_holds'). Laid BY PROGRAM, IN A SANDBOX (cutbox-door.mjs). By AI agents, Wed Nov 11 2026. No macro, syntax, notation, axiom, sorry.
-/
import Derived.Test.YtmnejmpjmniiiaaGreatDoorRows
import GoSem.ClaimSeven
namespace Go.Proofs.YtmnejmpjmniiiaaGreatDoor
namespace Rows

/-- THE TIED CARD OF 'seamarklaw19.ClashMatchesReference'. -/
def clashMatchesReferenceCard : Claim7 := { stood := { row := clashMatchesReferenceRow, standIns := [], harness := (true, "c423e455aa52841bf1b2d613d3a2cfd8f4767d7e9b85d99136304ecc55709775"), looks := false }, kinds := [], alts := [], laidByText := true, laidKinds := [.data, .data], laidTests := true, laidLooks := .later }
def ClashMatchesReferenceCardSaid : Prop := Claim7.holds Tryz.pinned (.plain (OpenSpec.ofChange clashMatchesReferenceSpec)) clashMatchesReferenceCard

/-- THE TIED CARD OF 'seamarklaw19.ClashParts'. -/
def clashPartsCard : Claim7 := { stood := { row := clashPartsRow, standIns := [], harness := (true, "c423e455aa52841bf1b2d613d3a2cfd8f4767d7e9b85d99136304ecc55709775"), looks := false }, kinds := [], alts := [], laidByText := true, laidKinds := [.data, .data], laidTests := true, laidLooks := .later }
def ClashPartsCardSaid : Prop := Claim7.holds Tryz.pinned (.plain (OpenSpec.ofChange clashPartsSpec)) clashPartsCard

/-- THE TIED CARD OF 'seamarklaw19.ClashCore'. -/
def clashCoreCard : Claim7 := { stood := { row := clashCoreRow, standIns := [], harness := (true, "c423e455aa52841bf1b2d613d3a2cfd8f4767d7e9b85d99136304ecc55709775"), looks := false }, kinds := [], alts := [], laidByText := true, laidKinds := [.data, .data], laidTests := true, laidLooks := .later }
def ClashCoreCardSaid : Prop := Claim7.holds Tryz.pinned (.plain (OpenSpec.ofChange clashCoreSpec)) clashCoreCard

/-- THE TIED CARD OF 'seamarklaw19.ClashRepair'. -/
def clashRepairCard : Claim7 := { stood := { row := clashRepairRow, standIns := [], harness := (true, "c423e455aa52841bf1b2d613d3a2cfd8f4767d7e9b85d99136304ecc55709775"), looks := false }, kinds := [], alts := [], laidByText := true, laidKinds := [.data, .data], laidTests := true, laidLooks := .later }
def ClashRepairCardSaid : Prop := Claim7.holds Tryz.pinned (.plain (OpenSpec.ofChange clashRepairSpec)) clashRepairCard

/-- THE TIED CARD OF 'seamarklaw19.ClashBlame'. -/
def clashBlameCard : Claim7 := { stood := { row := clashBlameRow, standIns := [], harness := (true, "c423e455aa52841bf1b2d613d3a2cfd8f4767d7e9b85d99136304ecc55709775"), looks := false }, kinds := [], alts := [], laidByText := true, laidKinds := [.data, .data], laidTests := true, laidLooks := .later }
def ClashBlameCardSaid : Prop := Claim7.holds Tryz.pinned (.plain (OpenSpec.ofChange clashBlameSpec)) clashBlameCard

/-- THE TIED CARD OF 'seamarklaw19.ClashPairs'. -/
def clashPairsCard : Claim7 := { stood := { row := clashPairsRow, standIns := [], harness := (true, "c423e455aa52841bf1b2d613d3a2cfd8f4767d7e9b85d99136304ecc55709775"), looks := false }, kinds := [], alts := [], laidByText := true, laidKinds := [.data, .data], laidTests := true, laidLooks := .later }
def ClashPairsCardSaid : Prop := Claim7.holds Tryz.pinned (.plain (OpenSpec.ofChange clashPairsSpec)) clashPairsCard

/-- THE TIED CARD OF 'seamarklaw19.ClashFurther'. -/
def clashFurtherCard : Claim7 := { stood := { row := clashFurtherRow, standIns := [], harness := (true, "c423e455aa52841bf1b2d613d3a2cfd8f4767d7e9b85d99136304ecc55709775"), looks := false }, kinds := [], alts := [], laidByText := true, laidKinds := [.data, .data], laidTests := true, laidLooks := .later }
def ClashFurtherCardSaid : Prop := Claim7.holds Tryz.pinned (.plain (OpenSpec.ofChange clashFurtherSpec)) clashFurtherCard

/-- THE TIED CARD OF 'seamarklaw19.ClashAnyOrder'. -/
def clashAnyOrderCard : Claim7 := { stood := { row := clashAnyOrderRow, standIns := [], harness := (true, "c423e455aa52841bf1b2d613d3a2cfd8f4767d7e9b85d99136304ecc55709775"), looks := false }, kinds := [], alts := [], laidByText := true, laidKinds := [.data, .data], laidTests := true, laidLooks := .later }
def ClashAnyOrderCardSaid : Prop := Claim7.holds Tryz.pinned (.plain (OpenSpec.ofChange clashAnyOrderSpec)) clashAnyOrderCard

/-- THE SECOND FORM's CARD OF 'seamarklaw19.ClashMatchesReference'. -/
def clashMatchesReferenceUptoCard : Claim7 := { stood := { row := clashMatchesReferenceUptoRow, standIns := [], harness := (true, "c423e455aa52841bf1b2d613d3a2cfd8f4767d7e9b85d99136304ecc55709775"), looks := false }, kinds := [], alts := [], laidByText := true, laidKinds := [.data, .data], laidTests := true, laidLooks := .later }
def ClashMatchesReferenceUptoCardSaid : Prop := Claim7.holds Tryz.pinned (.plain (OpenSpec.upto clashMatchesReferenceSpec)) clashMatchesReferenceUptoCard

/-- THE SECOND FORM's CARD OF 'seamarklaw19.ClashParts'. -/
def clashPartsUptoCard : Claim7 := { stood := { row := clashPartsUptoRow, standIns := [], harness := (true, "c423e455aa52841bf1b2d613d3a2cfd8f4767d7e9b85d99136304ecc55709775"), looks := false }, kinds := [], alts := [], laidByText := true, laidKinds := [.data, .data], laidTests := true, laidLooks := .later }
def ClashPartsUptoCardSaid : Prop := Claim7.holds Tryz.pinned (.plain (OpenSpec.upto clashPartsSpec)) clashPartsUptoCard

/-- THE SECOND FORM's CARD OF 'seamarklaw19.ClashCore'. -/
def clashCoreUptoCard : Claim7 := { stood := { row := clashCoreUptoRow, standIns := [], harness := (true, "c423e455aa52841bf1b2d613d3a2cfd8f4767d7e9b85d99136304ecc55709775"), looks := false }, kinds := [], alts := [], laidByText := true, laidKinds := [.data, .data], laidTests := true, laidLooks := .later }
def ClashCoreUptoCardSaid : Prop := Claim7.holds Tryz.pinned (.plain (OpenSpec.upto clashCoreSpec)) clashCoreUptoCard

/-- THE SECOND FORM's CARD OF 'seamarklaw19.ClashRepair'. -/
def clashRepairUptoCard : Claim7 := { stood := { row := clashRepairUptoRow, standIns := [], harness := (true, "c423e455aa52841bf1b2d613d3a2cfd8f4767d7e9b85d99136304ecc55709775"), looks := false }, kinds := [], alts := [], laidByText := true, laidKinds := [.data, .data], laidTests := true, laidLooks := .later }
def ClashRepairUptoCardSaid : Prop := Claim7.holds Tryz.pinned (.plain (OpenSpec.upto clashRepairSpec)) clashRepairUptoCard

/-- THE SECOND FORM's CARD OF 'seamarklaw19.ClashBlame'. -/
def clashBlameUptoCard : Claim7 := { stood := { row := clashBlameUptoRow, standIns := [], harness := (true, "c423e455aa52841bf1b2d613d3a2cfd8f4767d7e9b85d99136304ecc55709775"), looks := false }, kinds := [], alts := [], laidByText := true, laidKinds := [.data, .data], laidTests := true, laidLooks := .later }
def ClashBlameUptoCardSaid : Prop := Claim7.holds Tryz.pinned (.plain (OpenSpec.upto clashBlameSpec)) clashBlameUptoCard

/-- THE SECOND FORM's CARD OF 'seamarklaw19.ClashPairs'. -/
def clashPairsUptoCard : Claim7 := { stood := { row := clashPairsUptoRow, standIns := [], harness := (true, "c423e455aa52841bf1b2d613d3a2cfd8f4767d7e9b85d99136304ecc55709775"), looks := false }, kinds := [], alts := [], laidByText := true, laidKinds := [.data, .data], laidTests := true, laidLooks := .later }
def ClashPairsUptoCardSaid : Prop := Claim7.holds Tryz.pinned (.plain (OpenSpec.upto clashPairsSpec)) clashPairsUptoCard

/-- THE SECOND FORM's CARD OF 'seamarklaw19.ClashFurther'. -/
def clashFurtherUptoCard : Claim7 := { stood := { row := clashFurtherUptoRow, standIns := [], harness := (true, "c423e455aa52841bf1b2d613d3a2cfd8f4767d7e9b85d99136304ecc55709775"), looks := false }, kinds := [], alts := [], laidByText := true, laidKinds := [.data, .data], laidTests := true, laidLooks := .later }
def ClashFurtherUptoCardSaid : Prop := Claim7.holds Tryz.pinned (.plain (OpenSpec.upto clashFurtherSpec)) clashFurtherUptoCard

/-- THE SECOND FORM's CARD OF 'seamarklaw19.ClashAnyOrder'. -/
def clashAnyOrderUptoCard : Claim7 := { stood := { row := clashAnyOrderUptoRow, standIns := [], harness := (true, "c423e455aa52841bf1b2d613d3a2cfd8f4767d7e9b85d99136304ecc55709775"), looks := false }, kinds := [], alts := [], laidByText := true, laidKinds := [.data, .data], laidTests := true, laidLooks := .later }
def ClashAnyOrderUptoCardSaid : Prop := Claim7.holds Tryz.pinned (.plain (OpenSpec.upto clashAnyOrderSpec)) clashAnyOrderUptoCard
end Rows
end Go.Proofs.YtmnejmpjmniiiaaGreatDoor
