/-
  DERIVED. GIVEN WITH THE SEED: THE CARDS: each row of YtkkjebjlgcggcaaDoorRows.lean that lists a variable, with what it lists TIED to the program's text (the seventh form; the later family's looks); each row that meets fmt, with fmt's text TOLD by the authors' own Lean function (tested against real Go, not proved from fmt's source: count such statements apart). THE CARD IS WHAT COUNTS. Prove the row's statement (the work); the ties are given (YtkkjebjlgcggcaaDoorTie.lean); close each card by the builder's one call (the guide's Derived/Test/ToyasCard.lean, 'card_holds'). Laid BY PROGRAM, IN A SANDBOX (cutbox-door.mjs). By AI agents, Wed Nov 11 2026. No macro, syntax, notation, axiom, sorry.
-/
import Derived.Test.YtkkjebjlgcggcaaDoorRows
import GoSem.ClaimSeven
namespace Go.Proofs.YtkkjebjlgcggcaaDoor
namespace Rows

/-- THE TIED CARD OF 'chancellaw06.SheetLoads'. -/
def sheetLoadsCard : Claim7 := { stood := { row := sheetLoadsRow, standIns := [], harness := (true, "cf0e02f5203b3f890020dd6485da7acb4120f7152e4ad66fb4936cb137c5eefb"), looks := false }, kinds := [], alts := [], laidByText := true, laidKinds := [.data, .pinned], laidTests := true, laidLooks := .later }
def SheetLoadsCardSaid : Prop := Claim7.holds Tryd.pinned (.plain (OpenSpec.ofChange sheetLoadsSpec)) sheetLoadsCard

/-- THE TIED CARD OF 'chancellaw06.SheetFinds'. -/
def sheetFindsCard : Claim7 := { stood := { row := sheetFindsRow, standIns := [], harness := (true, "cf0e02f5203b3f890020dd6485da7acb4120f7152e4ad66fb4936cb137c5eefb"), looks := false }, kinds := [], alts := [], laidByText := true, laidKinds := [.data, .pinned], laidTests := true, laidLooks := .later }
def SheetFindsCardSaid : Prop := Claim7.holds Tryd.pinned (.plain (OpenSpec.ofChange sheetFindsSpec)) sheetFindsCard

/-- THE TIED CARD OF 'chancellaw06.SheetAfter'. -/
def sheetAfterCard : Claim7 := { stood := { row := sheetAfterRow, standIns := [], harness := (true, "cf0e02f5203b3f890020dd6485da7acb4120f7152e4ad66fb4936cb137c5eefb"), looks := false }, kinds := [], alts := [], laidByText := true, laidKinds := [.data, .pinned], laidTests := true, laidLooks := .later }
def SheetAfterCardSaid : Prop := Claim7.holds Tryd.pinned (.plain (OpenSpec.ofChange sheetAfterSpec)) sheetAfterCard

/-- THE TIED CARD OF 'chancellaw06.SheetForks'. -/
def sheetForksCard : Claim7 := { stood := { row := sheetForksRow, standIns := [], harness := (true, "cf0e02f5203b3f890020dd6485da7acb4120f7152e4ad66fb4936cb137c5eefb"), looks := false }, kinds := [], alts := [], laidByText := true, laidKinds := [.data, .pinned], laidTests := true, laidLooks := .later }
def SheetForksCardSaid : Prop := Claim7.holds Tryd.pinned (.plain (OpenSpec.ofChange sheetForksSpec)) sheetForksCard

/-- THE SECOND FORM's CARD OF 'chancellaw06.SheetLoads'. -/
def sheetLoadsUptoCard : Claim7 := { stood := { row := sheetLoadsUptoRow, standIns := [], harness := (true, "cf0e02f5203b3f890020dd6485da7acb4120f7152e4ad66fb4936cb137c5eefb"), looks := false }, kinds := [], alts := [], laidByText := true, laidKinds := [.data, .pinned], laidTests := true, laidLooks := .later }
def SheetLoadsUptoCardSaid : Prop := Claim7.holds Tryd.pinned (.plain (OpenSpec.upto sheetLoadsSpec)) sheetLoadsUptoCard

/-- THE SECOND FORM's CARD OF 'chancellaw06.SheetFinds'. -/
def sheetFindsUptoCard : Claim7 := { stood := { row := sheetFindsUptoRow, standIns := [], harness := (true, "cf0e02f5203b3f890020dd6485da7acb4120f7152e4ad66fb4936cb137c5eefb"), looks := false }, kinds := [], alts := [], laidByText := true, laidKinds := [.data, .pinned], laidTests := true, laidLooks := .later }
def SheetFindsUptoCardSaid : Prop := Claim7.holds Tryd.pinned (.plain (OpenSpec.upto sheetFindsSpec)) sheetFindsUptoCard

/-- THE SECOND FORM's CARD OF 'chancellaw06.SheetAfter'. -/
def sheetAfterUptoCard : Claim7 := { stood := { row := sheetAfterUptoRow, standIns := [], harness := (true, "cf0e02f5203b3f890020dd6485da7acb4120f7152e4ad66fb4936cb137c5eefb"), looks := false }, kinds := [], alts := [], laidByText := true, laidKinds := [.data, .pinned], laidTests := true, laidLooks := .later }
def SheetAfterUptoCardSaid : Prop := Claim7.holds Tryd.pinned (.plain (OpenSpec.upto sheetAfterSpec)) sheetAfterUptoCard

/-- THE SECOND FORM's CARD OF 'chancellaw06.SheetForks'. -/
def sheetForksUptoCard : Claim7 := { stood := { row := sheetForksUptoRow, standIns := [], harness := (true, "cf0e02f5203b3f890020dd6485da7acb4120f7152e4ad66fb4936cb137c5eefb"), looks := false }, kinds := [], alts := [], laidByText := true, laidKinds := [.data, .pinned], laidTests := true, laidLooks := .later }
def SheetForksUptoCardSaid : Prop := Claim7.holds Tryd.pinned (.plain (OpenSpec.upto sheetForksSpec)) sheetForksUptoCard
end Rows
end Go.Proofs.YtkkjebjlgcggcaaDoor
