/-
  DERIVED. GIVEN WITH THE SEED: THE CARDS: each row of YtdbdcnpajeflkaaDoorRows.lean that lists a variable, with what it lists TIED to the program's text (the seventh form; the later family's looks); each row that meets fmt, with fmt's text TOLD by the authors' own Lean function (tested against real Go, not proved from fmt's source: count such statements apart). THE CARD IS WHAT COUNTS. Prove the row's statement (the work); the ties are given (YtdbdcnpajeflkaaDoorTie.lean); close each card by the builder's one call (the guide's Derived/Test/ToyasCard.lean, 'card_holds'). Laid BY PROGRAM, IN A SANDBOX (cutbox-door.mjs). By AI agents, Wed Nov 11 2026. No macro, syntax, notation, axiom, sorry.
-/
import Derived.Test.YtdbdcnpajeflkaaDoorRows
import GoSem.ClaimSeven
namespace Go.Proofs.YtdbdcnpajeflkaaDoor
namespace Rows

/-- THE TIED CARD OF 'chancellaw02.RopeNew'. -/
def ropeNewCard : Claim7 := { stood := { row := ropeNewRow, standIns := [], harness := (true, "5b012354cfc46ccc8f4c0572671b1b24fe472809fad7f6403004d9104d88d21c"), looks := false }, kinds := [], alts := [], laidByText := true, laidKinds := [.data, .pinned], laidTests := true, laidLooks := .later }
def RopeNewCardSaid : Prop := Claim7.holds Tryd.pinned (.plain (OpenSpec.ofChange ropeNewSpec)) ropeNewCard

/-- THE TIED CARD OF 'chancellaw02.RopeJoin'. -/
def ropeJoinCard : Claim7 := { stood := { row := ropeJoinRow, standIns := [], harness := (true, "5b012354cfc46ccc8f4c0572671b1b24fe472809fad7f6403004d9104d88d21c"), looks := false }, kinds := [], alts := [], laidByText := true, laidKinds := [.data, .pinned], laidTests := true, laidLooks := .later }
def RopeJoinCardSaid : Prop := Claim7.holds Tryd.pinned (.plain (OpenSpec.ofChange ropeJoinSpec)) ropeJoinCard

/-- THE TIED CARD OF 'chancellaw02.RopePut'. -/
def ropePutCard : Claim7 := { stood := { row := ropePutRow, standIns := [], harness := (true, "5b012354cfc46ccc8f4c0572671b1b24fe472809fad7f6403004d9104d88d21c"), looks := false }, kinds := [], alts := [], laidByText := true, laidKinds := [.data, .pinned], laidTests := true, laidLooks := .later }
def RopePutCardSaid : Prop := Claim7.holds Tryd.pinned (.plain (OpenSpec.ofChange ropePutSpec)) ropePutCard

/-- THE TIED CARD OF 'chancellaw02.RopeCut'. -/
def ropeCutCard : Claim7 := { stood := { row := ropeCutRow, standIns := [], harness := (true, "5b012354cfc46ccc8f4c0572671b1b24fe472809fad7f6403004d9104d88d21c"), looks := false }, kinds := [], alts := [], laidByText := true, laidKinds := [.data, .pinned], laidTests := true, laidLooks := .later }
def RopeCutCardSaid : Prop := Claim7.holds Tryd.pinned (.plain (OpenSpec.ofChange ropeCutSpec)) ropeCutCard

/-- THE TIED CARD OF 'chancellaw02.RopeRuns'. -/
def ropeRunsCard : Claim7 := { stood := { row := ropeRunsRow, standIns := [], harness := (true, "5b012354cfc46ccc8f4c0572671b1b24fe472809fad7f6403004d9104d88d21c"), looks := false }, kinds := [], alts := [], laidByText := true, laidKinds := [.data, .pinned], laidTests := true, laidLooks := .later }
def RopeRunsCardSaid : Prop := Claim7.holds Tryd.pinned (.plain (OpenSpec.ofChange ropeRunsSpec)) ropeRunsCard

/-- THE SECOND FORM's CARD OF 'chancellaw02.RopeNew'. -/
def ropeNewUptoCard : Claim7 := { stood := { row := ropeNewUptoRow, standIns := [], harness := (true, "5b012354cfc46ccc8f4c0572671b1b24fe472809fad7f6403004d9104d88d21c"), looks := false }, kinds := [], alts := [], laidByText := true, laidKinds := [.data, .pinned], laidTests := true, laidLooks := .later }
def RopeNewUptoCardSaid : Prop := Claim7.holds Tryd.pinned (.plain (OpenSpec.upto ropeNewSpec)) ropeNewUptoCard

/-- THE SECOND FORM's CARD OF 'chancellaw02.RopeJoin'. -/
def ropeJoinUptoCard : Claim7 := { stood := { row := ropeJoinUptoRow, standIns := [], harness := (true, "5b012354cfc46ccc8f4c0572671b1b24fe472809fad7f6403004d9104d88d21c"), looks := false }, kinds := [], alts := [], laidByText := true, laidKinds := [.data, .pinned], laidTests := true, laidLooks := .later }
def RopeJoinUptoCardSaid : Prop := Claim7.holds Tryd.pinned (.plain (OpenSpec.upto ropeJoinSpec)) ropeJoinUptoCard

/-- THE SECOND FORM's CARD OF 'chancellaw02.RopePut'. -/
def ropePutUptoCard : Claim7 := { stood := { row := ropePutUptoRow, standIns := [], harness := (true, "5b012354cfc46ccc8f4c0572671b1b24fe472809fad7f6403004d9104d88d21c"), looks := false }, kinds := [], alts := [], laidByText := true, laidKinds := [.data, .pinned], laidTests := true, laidLooks := .later }
def RopePutUptoCardSaid : Prop := Claim7.holds Tryd.pinned (.plain (OpenSpec.upto ropePutSpec)) ropePutUptoCard

/-- THE SECOND FORM's CARD OF 'chancellaw02.RopeCut'. -/
def ropeCutUptoCard : Claim7 := { stood := { row := ropeCutUptoRow, standIns := [], harness := (true, "5b012354cfc46ccc8f4c0572671b1b24fe472809fad7f6403004d9104d88d21c"), looks := false }, kinds := [], alts := [], laidByText := true, laidKinds := [.data, .pinned], laidTests := true, laidLooks := .later }
def RopeCutUptoCardSaid : Prop := Claim7.holds Tryd.pinned (.plain (OpenSpec.upto ropeCutSpec)) ropeCutUptoCard

/-- THE SECOND FORM's CARD OF 'chancellaw02.RopeRuns'. -/
def ropeRunsUptoCard : Claim7 := { stood := { row := ropeRunsUptoRow, standIns := [], harness := (true, "5b012354cfc46ccc8f4c0572671b1b24fe472809fad7f6403004d9104d88d21c"), looks := false }, kinds := [], alts := [], laidByText := true, laidKinds := [.data, .pinned], laidTests := true, laidLooks := .later }
def RopeRunsUptoCardSaid : Prop := Claim7.holds Tryd.pinned (.plain (OpenSpec.upto ropeRunsSpec)) ropeRunsUptoCard
end Rows
end Go.Proofs.YtdbdcnpajeflkaaDoor
