/-
  DERIVED. GIVEN WITH THE SEED: THE CARDS: each row of YthkihkkmoknbjaaDoorRows.lean that lists a variable, with what it lists TIED to the program's text (the seventh form; the later family's looks); each row that meets fmt, with fmt's text TOLD by the authors' own Lean function (tested against real Go, not proved from fmt's source: count such statements apart). THE CARD IS WHAT COUNTS. Prove the row's statement (the work); the ties are given (YthkihkkmoknbjaaDoorTie.lean); close each card by the builder's one call (the guide's Derived/Test/ToyasCard.lean, 'card_holds'). Laid BY PROGRAM, IN A SANDBOX (cutbox-door.mjs). By AI agents, Wed Nov 11 2026. No macro, syntax, notation, axiom, sorry.
-/
import Derived.Test.YthkihkkmoknbjaaDoorRows
import GoSem.ClaimSeven
namespace Go.Proofs.YthkihkkmoknbjaaDoor
namespace Rows

/-- THE TIED CARD OF 'chancellaw07.UndoThings'. -/
def undoThingsCard : Claim7 := { stood := { row := undoThingsRow, standIns := [], harness := (true, "edcab00340c67218e0d6f39c8ac844224e712abee4ab74e9b365b887eb6efa8c"), looks := true }, kinds := [], alts := [], laidByText := true, laidKinds := [.data, .pinned], laidTests := true, laidLooks := .later }
def UndoThingsCardSaid : Prop := Claim7.holds Tryd.pinned (.plain (OpenSpec.ofChange undoThingsSpec)) undoThingsCard

/-- THE TIED CARD OF 'chancellaw07.UndoLoads'. -/
def undoLoadsCard : Claim7 := { stood := { row := undoLoadsRow, standIns := [], harness := (true, "edcab00340c67218e0d6f39c8ac844224e712abee4ab74e9b365b887eb6efa8c"), looks := true }, kinds := [], alts := [], laidByText := true, laidKinds := [.data, .pinned], laidTests := true, laidLooks := .later }
def UndoLoadsCardSaid : Prop := Claim7.holds Tryd.pinned (.plain (OpenSpec.ofChange undoLoadsSpec)) undoLoadsCard

/-- THE TIED CARD OF 'chancellaw07.UndoDepth'. -/
def undoDepthCard : Claim7 := { stood := { row := undoDepthRow, standIns := [], harness := (true, "edcab00340c67218e0d6f39c8ac844224e712abee4ab74e9b365b887eb6efa8c"), looks := true }, kinds := [], alts := [], laidByText := true, laidKinds := [.data, .pinned], laidTests := true, laidLooks := .later }
def UndoDepthCardSaid : Prop := Claim7.holds Tryd.pinned (.plain (OpenSpec.ofChange undoDepthSpec)) undoDepthCard

/-- THE TIED CARD OF 'chancellaw07.UndoPushes'. -/
def undoPushesCard : Claim7 := { stood := { row := undoPushesRow, standIns := [], harness := (true, "edcab00340c67218e0d6f39c8ac844224e712abee4ab74e9b365b887eb6efa8c"), looks := true }, kinds := [], alts := [], laidByText := true, laidKinds := [.data, .pinned], laidTests := true, laidLooks := .later }
def UndoPushesCardSaid : Prop := Claim7.holds Tryd.pinned (.plain (OpenSpec.ofChange undoPushesSpec)) undoPushesCard

/-- THE TIED CARD OF 'chancellaw07.UndoFinds'. -/
def undoFindsCard : Claim7 := { stood := { row := undoFindsRow, standIns := [], harness := (true, "edcab00340c67218e0d6f39c8ac844224e712abee4ab74e9b365b887eb6efa8c"), looks := true }, kinds := [], alts := [], laidByText := true, laidKinds := [.data, .pinned], laidTests := true, laidLooks := .later }
def UndoFindsCardSaid : Prop := Claim7.holds Tryd.pinned (.plain (OpenSpec.ofChange undoFindsSpec)) undoFindsCard

/-- THE SECOND FORM's CARD OF 'chancellaw07.UndoThings'. -/
def undoThingsUptoCard : Claim7 := { stood := { row := undoThingsUptoRow, standIns := [], harness := (true, "edcab00340c67218e0d6f39c8ac844224e712abee4ab74e9b365b887eb6efa8c"), looks := true }, kinds := [], alts := [], laidByText := true, laidKinds := [.data, .pinned], laidTests := true, laidLooks := .later }
def UndoThingsUptoCardSaid : Prop := Claim7.holds Tryd.pinned (.plain (OpenSpec.upto undoThingsSpec)) undoThingsUptoCard

/-- THE SECOND FORM's CARD OF 'chancellaw07.UndoLoads'. -/
def undoLoadsUptoCard : Claim7 := { stood := { row := undoLoadsUptoRow, standIns := [], harness := (true, "edcab00340c67218e0d6f39c8ac844224e712abee4ab74e9b365b887eb6efa8c"), looks := true }, kinds := [], alts := [], laidByText := true, laidKinds := [.data, .pinned], laidTests := true, laidLooks := .later }
def UndoLoadsUptoCardSaid : Prop := Claim7.holds Tryd.pinned (.plain (OpenSpec.upto undoLoadsSpec)) undoLoadsUptoCard

/-- THE SECOND FORM's CARD OF 'chancellaw07.UndoDepth'. -/
def undoDepthUptoCard : Claim7 := { stood := { row := undoDepthUptoRow, standIns := [], harness := (true, "edcab00340c67218e0d6f39c8ac844224e712abee4ab74e9b365b887eb6efa8c"), looks := true }, kinds := [], alts := [], laidByText := true, laidKinds := [.data, .pinned], laidTests := true, laidLooks := .later }
def UndoDepthUptoCardSaid : Prop := Claim7.holds Tryd.pinned (.plain (OpenSpec.upto undoDepthSpec)) undoDepthUptoCard

/-- THE SECOND FORM's CARD OF 'chancellaw07.UndoPushes'. -/
def undoPushesUptoCard : Claim7 := { stood := { row := undoPushesUptoRow, standIns := [], harness := (true, "edcab00340c67218e0d6f39c8ac844224e712abee4ab74e9b365b887eb6efa8c"), looks := true }, kinds := [], alts := [], laidByText := true, laidKinds := [.data, .pinned], laidTests := true, laidLooks := .later }
def UndoPushesUptoCardSaid : Prop := Claim7.holds Tryd.pinned (.plain (OpenSpec.upto undoPushesSpec)) undoPushesUptoCard

/-- THE SECOND FORM's CARD OF 'chancellaw07.UndoFinds'. -/
def undoFindsUptoCard : Claim7 := { stood := { row := undoFindsUptoRow, standIns := [], harness := (true, "edcab00340c67218e0d6f39c8ac844224e712abee4ab74e9b365b887eb6efa8c"), looks := true }, kinds := [], alts := [], laidByText := true, laidKinds := [.data, .pinned], laidTests := true, laidLooks := .later }
def UndoFindsUptoCardSaid : Prop := Claim7.holds Tryd.pinned (.plain (OpenSpec.upto undoFindsSpec)) undoFindsUptoCard
end Rows
end Go.Proofs.YthkihkkmoknbjaaDoor
