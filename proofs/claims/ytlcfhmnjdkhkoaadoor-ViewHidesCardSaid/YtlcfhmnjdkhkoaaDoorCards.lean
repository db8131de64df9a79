/-
  DERIVED. GIVEN WITH THE SEED: THE CARDS: each row of YtlcfhmnjdkhkoaaDoorRows.lean that lists a variable, with what it lists TIED to the program's text (the seventh form; the later family's looks); each row that meets fmt, with fmt's text TOLD by the authors' own Lean function (tested against real Go, not proved from fmt's source: count such statements apart). THE CARD IS WHAT COUNTS. Prove the row's statement (the work); the ties are given (YtlcfhmnjdkhkoaaDoorTie.lean); close each card by the builder's one call (the guide's Derived/Test/ToyasCard.lean, 'card_holds'). Laid BY PROGRAM, IN A SANDBOX (cutbox-door.mjs). By AI agents, Wed Nov 11 2026. No macro, syntax, notation, axiom, sorry.
-/
import Derived.Test.YtlcfhmnjdkhkoaaDoorRows
import GoSem.ClaimSeven
namespace Go.Proofs.YtlcfhmnjdkhkoaaDoor
namespace Rows

/-- THE TIED CARD OF 'chancellaw08.ViewRuns'. -/
def viewRunsCard : Claim7 := { stood := { row := viewRunsRow, standIns := [], harness := (true, "1f69ff57eea26320e92d9888f2c006c957e28659a6526c200fc8aed7585acc98"), looks := false }, kinds := [], alts := [], laidByText := true, laidKinds := [.data, .pinned], laidTests := true, laidLooks := .later }
def ViewRunsCardSaid : Prop := Claim7.holds Tryd.pinned (.plain (OpenSpec.ofChange viewRunsSpec)) viewRunsCard

/-- THE TIED CARD OF 'chancellaw08.ViewHides'. -/
def viewHidesCard : Claim7 := { stood := { row := viewHidesRow, standIns := [], harness := (true, "1f69ff57eea26320e92d9888f2c006c957e28659a6526c200fc8aed7585acc98"), looks := false }, kinds := [], alts := [], laidByText := true, laidKinds := [.data, .pinned], laidTests := true, laidLooks := .later }
def ViewHidesCardSaid : Prop := Claim7.holds Tryd.pinned (.plain (OpenSpec.ofChange viewHidesSpec)) viewHidesCard

/-- THE TIED CARD OF 'chancellaw08.ViewWindows'. -/
def viewWindowsCard : Claim7 := { stood := { row := viewWindowsRow, standIns := [], harness := (true, "1f69ff57eea26320e92d9888f2c006c957e28659a6526c200fc8aed7585acc98"), looks := false }, kinds := [], alts := [], laidByText := true, laidKinds := [.data, .pinned], laidTests := true, laidLooks := .later }
def ViewWindowsCardSaid : Prop := Claim7.holds Tryd.pinned (.plain (OpenSpec.ofChange viewWindowsSpec)) viewWindowsCard

/-- THE SECOND FORM's CARD OF 'chancellaw08.ViewRuns'. -/
def viewRunsUptoCard : Claim7 := { stood := { row := viewRunsUptoRow, standIns := [], harness := (true, "1f69ff57eea26320e92d9888f2c006c957e28659a6526c200fc8aed7585acc98"), looks := false }, kinds := [], alts := [], laidByText := true, laidKinds := [.data, .pinned], laidTests := true, laidLooks := .later }
def ViewRunsUptoCardSaid : Prop := Claim7.holds Tryd.pinned (.plain (OpenSpec.upto viewRunsSpec)) viewRunsUptoCard

/-- THE SECOND FORM's CARD OF 'chancellaw08.ViewHides'. -/
def viewHidesUptoCard : Claim7 := { stood := { row := viewHidesUptoRow, standIns := [], harness := (true, "1f69ff57eea26320e92d9888f2c006c957e28659a6526c200fc8aed7585acc98"), looks := false }, kinds := [], alts := [], laidByText := true, laidKinds := [.data, .pinned], laidTests := true, laidLooks := .later }
def ViewHidesUptoCardSaid : Prop := Claim7.holds Tryd.pinned (.plain (OpenSpec.upto viewHidesSpec)) viewHidesUptoCard

/-- THE SECOND FORM's CARD OF 'chancellaw08.ViewWindows'. -/
def viewWindowsUptoCard : Claim7 := { stood := { row := viewWindowsUptoRow, standIns := [], harness := (true, "1f69ff57eea26320e92d9888f2c006c957e28659a6526c200fc8aed7585acc98"), looks := false }, kinds := [], alts := [], laidByText := true, laidKinds := [.data, .pinned], laidTests := true, laidLooks := .later }
def ViewWindowsUptoCardSaid : Prop := Claim7.holds Tryd.pinned (.plain (OpenSpec.upto viewWindowsSpec)) viewWindowsUptoCard
end Rows
end Go.Proofs.YtlcfhmnjdkhkoaaDoor
