/-
  DERIVED. GIVEN WITH THE SEED: THE CARDS: each row of YtjphmebhofkhcaaDoorRows.lean that lists a variable, with what it lists TIED to the program's text (the seventh form; the later family's looks); each row that meets fmt, with fmt's text TOLD by the authors' own Lean function (tested against real Go, not proved from fmt's source: count such statements apart). THE CARD IS WHAT COUNTS. Prove the row's statement (the work); the ties are given (YtjphmebhofkhcaaDoorTie.lean); close each card by the builder's one call (the guide's Derived/Test/ToyasCard.lean, 'card_holds'). Laid BY PROGRAM, IN A SANDBOX (cutbox-door.mjs). By AI agents, Wed Nov 11 2026. No macro, syntax, notation, axiom, sorry.
-/
import Derived.Test.YtjphmebhofkhcaaDoorRows
import GoSem.ClaimSeven
namespace Go.Proofs.YtjphmebhofkhcaaDoor
namespace Rows

/-- THE TIED CARD OF 'chancellaw05.SegmentLoads'. -/
def segmentLoadsCard : Claim7 := { stood := { row := segmentLoadsRow, standIns := [], harness := (true, "590cb27152f4f6f2a9c3dab41872559a44ab2107bb29b67653591757b7981723"), looks := false }, kinds := [], alts := [], laidByText := true, laidKinds := [.data, .pinned], laidTests := true, laidLooks := .later }
def SegmentLoadsCardSaid : Prop := Claim7.holds Tryd.pinned (.plain (OpenSpec.ofChange segmentLoadsSpec)) segmentLoadsCard

/-- THE TIED CARD OF 'chancellaw05.SegmentInsert'. -/
def segmentInsertCard : Claim7 := { stood := { row := segmentInsertRow, standIns := [], harness := (true, "590cb27152f4f6f2a9c3dab41872559a44ab2107bb29b67653591757b7981723"), looks := false }, kinds := [], alts := [], laidByText := true, laidKinds := [.data, .pinned], laidTests := true, laidLooks := .later }
def SegmentInsertCardSaid : Prop := Claim7.holds Tryd.pinned (.plain (OpenSpec.ofChange segmentInsertSpec)) segmentInsertCard

/-- THE TIED CARD OF 'chancellaw05.SegmentWhole'. -/
def segmentWholeCard : Claim7 := { stood := { row := segmentWholeRow, standIns := [], harness := (true, "590cb27152f4f6f2a9c3dab41872559a44ab2107bb29b67653591757b7981723"), looks := false }, kinds := [], alts := [], laidByText := true, laidKinds := [.data, .pinned], laidTests := true, laidLooks := .later }
def SegmentWholeCardSaid : Prop := Claim7.holds Tryd.pinned (.plain (OpenSpec.ofChange segmentWholeSpec)) segmentWholeCard

/-- THE TIED CARD OF 'chancellaw05.SegmentParts'. -/
def segmentPartsCard : Claim7 := { stood := { row := segmentPartsRow, standIns := [], harness := (true, "590cb27152f4f6f2a9c3dab41872559a44ab2107bb29b67653591757b7981723"), looks := false }, kinds := [], alts := [], laidByText := true, laidKinds := [.data, .pinned], laidTests := true, laidLooks := .later }
def SegmentPartsCardSaid : Prop := Claim7.holds Tryd.pinned (.plain (OpenSpec.ofChange segmentPartsSpec)) segmentPartsCard

/-- THE TIED CARD OF 'chancellaw05.SegmentTakenBack'. -/
def segmentTakenBackCard : Claim7 := { stood := { row := segmentTakenBackRow, standIns := [], harness := (true, "590cb27152f4f6f2a9c3dab41872559a44ab2107bb29b67653591757b7981723"), looks := false }, kinds := [], alts := [], laidByText := true, laidKinds := [.data, .pinned], laidTests := true, laidLooks := .later }
def SegmentTakenBackCardSaid : Prop := Claim7.holds Tryd.pinned (.plain (OpenSpec.ofChange segmentTakenBackSpec)) segmentTakenBackCard

/-- THE SECOND FORM's CARD OF 'chancellaw05.SegmentLoads'. -/
def segmentLoadsUptoCard : Claim7 := { stood := { row := segmentLoadsUptoRow, standIns := [], harness := (true, "590cb27152f4f6f2a9c3dab41872559a44ab2107bb29b67653591757b7981723"), looks := false }, kinds := [], alts := [], laidByText := true, laidKinds := [.data, .pinned], laidTests := true, laidLooks := .later }
def SegmentLoadsUptoCardSaid : Prop := Claim7.holds Tryd.pinned (.plain (OpenSpec.upto segmentLoadsSpec)) segmentLoadsUptoCard

/-- THE SECOND FORM's CARD OF 'chancellaw05.SegmentInsert'. -/
def segmentInsertUptoCard : Claim7 := { stood := { row := segmentInsertUptoRow, standIns := [], harness := (true, "590cb27152f4f6f2a9c3dab41872559a44ab2107bb29b67653591757b7981723"), looks := false }, kinds := [], alts := [], laidByText := true, laidKinds := [.data, .pinned], laidTests := true, laidLooks := .later }
def SegmentInsertUptoCardSaid : Prop := Claim7.holds Tryd.pinned (.plain (OpenSpec.upto segmentInsertSpec)) segmentInsertUptoCard

/-- THE SECOND FORM's CARD OF 'chancellaw05.SegmentWhole'. -/
def segmentWholeUptoCard : Claim7 := { stood := { row := segmentWholeUptoRow, standIns := [], harness := (true, "590cb27152f4f6f2a9c3dab41872559a44ab2107bb29b67653591757b7981723"), looks := false }, kinds := [], alts := [], laidByText := true, laidKinds := [.data, .pinned], laidTests := true, laidLooks := .later }
def SegmentWholeUptoCardSaid : Prop := Claim7.holds Tryd.pinned (.plain (OpenSpec.upto segmentWholeSpec)) segmentWholeUptoCard

/-- THE SECOND FORM's CARD OF 'chancellaw05.SegmentParts'. -/
def segmentPartsUptoCard : Claim7 := { stood := { row := segmentPartsUptoRow, standIns := [], harness := (true, "590cb27152f4f6f2a9c3dab41872559a44ab2107bb29b67653591757b7981723"), looks := false }, kinds := [], alts := [], laidByText := true, laidKinds := [.data, .pinned], laidTests := true, laidLooks := .later }
def SegmentPartsUptoCardSaid : Prop := Claim7.holds Tryd.pinned (.plain (OpenSpec.upto segmentPartsSpec)) segmentPartsUptoCard

/-- THE SECOND FORM's CARD OF 'chancellaw05.SegmentTakenBack'. -/
def segmentTakenBackUptoCard : Claim7 := { stood := { row := segmentTakenBackUptoRow, standIns := [], harness := (true, "590cb27152f4f6f2a9c3dab41872559a44ab2107bb29b67653591757b7981723"), looks := false }, kinds := [], alts := [], laidByText := true, laidKinds := [.data, .pinned], laidTests := true, laidLooks := .later }
def SegmentTakenBackUptoCardSaid : Prop := Claim7.holds Tryd.pinned (.plain (OpenSpec.upto segmentTakenBackSpec)) segmentTakenBackUptoCard
end Rows
end Go.Proofs.YtjphmebhofkhcaaDoor
