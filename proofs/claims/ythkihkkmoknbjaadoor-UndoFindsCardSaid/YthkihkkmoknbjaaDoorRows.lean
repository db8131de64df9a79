/-
  NARROWER THAN 'FOR EVERY INPUT', by the rows' own cells (each row's printed sentence says how): UndoThings: laid · UndoLoads: laid · UndoDepth: laid · UndoPushes: laid · UndoFinds: laid.
  DERIVED. THE GIVEN ROWS OF THIS SEAT. 5 by the template 'for every input the law returns true; each argument reads behind the call as it read before'; 0 by the template 'total and deterministic' (their statements: YthkihkkmoknbjaaDoorTotals.lean).
  GIVEN WITH THE SEED: the statements are not yours to turn. If you find one false, say at which input.
  Laid BY PROGRAM, IN A SANDBOX (cutbox-rows.mjs): the forced cells as the released guide's own fill.sh prints them over the translation 1aea9e1afdcbf1e4… (all of the seat's roots in one cut). By AI agents, Wed Nov 11 2026. No macro, syntax, notation, axiom, sorry.
-/
import Derived.Test.YthkihkkmoknbjaaDoorChecked
import GoSem.PinnedTables
import GoSem.Claim
import GoSem.ClaimJoined
import GoSem.ClaimMapViews
import Derived.JoinedTies
import Derived.KernelRfl
namespace Go.Proofs.YthkihkkmoknbjaaDoor
/- THE CELL 'sum', in the pinned program and in every row, IS THE sha256 OF THE DUMP (.gsa) THAT YthkihkkmoknbjaaDoorProg.lean LOADS. Nothing in Lean hashes anything: it is a label: what it is worth is what the hold of that sum in a sandbox is worth. -/
noncomputable def Tryd.pinned : Pinned := { name := "ythkihkkmoknbjaadoor", sum := "1aea9e1afdcbf1e4e032a19b0f180394771121a259731b50a9c220c102b119cc", checked := Tryd.checked }
namespace Rows
def none {H : Type} : Left H := { results := [], args := [] }

/- WHAT THE LISTED PACKAGE-LEVEL VARIABLES READ AS WHEN THE CALL BEGINS. Each datum BY PROGRAM (the guide's laid-datum.mjs) off the statement by which the dump's own 'gosem.cut.vars' lays the variable. In a bare row this is a premise. The card (YthkihkkmoknbjaaDoorCards.lean) ties it to the program's text. -/
def laid_unicode_utf8_acceptRanges {H : Type} : DataW H := .agg [.agg [.lit (.int .u8 128), .lit (.int .u8 191)], .agg [.lit (.int .u8 160), .lit (.int .u8 191)], .agg [.lit (.int .u8 128), .lit (.int .u8 159)], .agg [.lit (.int .u8 144), .lit (.int .u8 191)], .agg [.lit (.int .u8 128), .lit (.int .u8 143)], .agg [.lit (.int .u8 0), .lit (.int .u8 0)], .agg [.lit (.int .u8 0), .lit (.int .u8 0)], .agg [.lit (.int .u8 0), .lit (.int .u8 0)], .agg [.lit (.int .u8 0), .lit (.int .u8 0)], .agg [.lit (.int .u8 0), .lit (.int .u8 0)], .agg [.lit (.int .u8 0), .lit (.int .u8 0)], .agg [.lit (.int .u8 0), .lit (.int .u8 0)], .agg [.lit (.int .u8 0), .lit (.int .u8 0)], .agg [.lit (.int .u8 0), .lit (.int .u8 0)], .agg [.lit (.int .u8 0), .lit (.int .u8 0)], .agg [.lit (.int .u8 0), .lit (.int .u8 0)]]
/-- One of Go's own tables, pinned by name: the form's constant. -/
def laid_unicode_utf8_first : DataW Unit := Go.Pinned.utf8First

/-- 'chancellaw07.UndoThings': WHATEVER THE INPUT: true; the input reads as it did. -/
def undoThingsSpec : ChangeSpec := { name := "undoThings", fn := fun _ => fun
  | [d] => { results := [.lit (.bool true)], args := [d] }
  | _ => none }
def undoThingsRow : OpenClaim := { program := "ythkihkkmoknbjaadoor", sum := "1aea9e1afdcbf1e4e032a19b0f180394771121a259731b50a9c220c102b119cc", func := "chancel/chancellaw07.UndoThings", spec := "undoThings", inPlace := ["internal/abi.NoEscape", "internal/bytealg.MakeNoZero"], unfollowed := true, recurses := true, named := ["unicode/utf8.first", "unicode/utf8.acceptRanges"], apart := false, laid := [("unicode/utf8.acceptRanges", laid_unicode_utf8_acceptRanges), ("unicode/utf8.first", laid_unicode_utf8_first)] }
def UndoThingsSaid : Prop := undoThingsRow.holds Tryd.pinned (OpenSpec.ofChange undoThingsSpec)

/-- ITS FALSE NEIGHBOUR: 'it returns false'. Refute it at one input. -/
def undoThingsWrong : ChangeSpec := { name := "undoThings", fn := fun _ => fun
  | [d] => { results := [.lit (.bool false)], args := [d] }
  | _ => none }
def UndoThingsWrongFalsely : Prop := undoThingsRow.holds Tryd.pinned (OpenSpec.ofChange undoThingsWrong)

/-- 'chancellaw07.UndoLoads': WHATEVER THE INPUT: true; the input reads as it did. -/
def undoLoadsSpec : ChangeSpec := { name := "undoLoads", fn := fun _ => fun
  | [d] => { results := [.lit (.bool true)], args := [d] }
  | _ => none }
def undoLoadsRow : OpenClaim := { program := "ythkihkkmoknbjaadoor", sum := "1aea9e1afdcbf1e4e032a19b0f180394771121a259731b50a9c220c102b119cc", func := "chancel/chancellaw07.UndoLoads", spec := "undoLoads", inPlace := ["internal/abi.NoEscape", "internal/bytealg.MakeNoZero"], unfollowed := true, recurses := true, named := ["unicode/utf8.first", "unicode/utf8.acceptRanges"], apart := false, laid := [("unicode/utf8.acceptRanges", laid_unicode_utf8_acceptRanges), ("unicode/utf8.first", laid_unicode_utf8_first)] }
def UndoLoadsSaid : Prop := undoLoadsRow.holds Tryd.pinned (OpenSpec.ofChange undoLoadsSpec)

/-- ITS FALSE NEIGHBOUR: 'it returns false'. Refute it at one input. -/
def undoLoadsWrong : ChangeSpec := { name := "undoLoads", fn := fun _ => fun
  | [d] => { results := [.lit (.bool false)], args := [d] }
  | _ => none }
def UndoLoadsWrongFalsely : Prop := undoLoadsRow.holds Tryd.pinned (OpenSpec.ofChange undoLoadsWrong)

/-- 'chancellaw07.UndoDepth': WHATEVER THE INPUT: true; the input reads as it did. -/
def undoDepthSpec : ChangeSpec := { name := "undoDepth", fn := fun _ => fun
  | [d1, d2] => { results := [.lit (.bool true)], args := [d1, d2] }
  | _ => none }
def undoDepthRow : OpenClaim := { program := "ythkihkkmoknbjaadoor", sum := "1aea9e1afdcbf1e4e032a19b0f180394771121a259731b50a9c220c102b119cc", func := "chancel/chancellaw07.UndoDepth", spec := "undoDepth", inPlace := ["internal/abi.NoEscape", "internal/bytealg.MakeNoZero"], unfollowed := true, recurses := true, named := ["unicode/utf8.first", "unicode/utf8.acceptRanges"], apart := false, laid := [("unicode/utf8.acceptRanges", laid_unicode_utf8_acceptRanges), ("unicode/utf8.first", laid_unicode_utf8_first)] }
def UndoDepthSaid : Prop := undoDepthRow.holds Tryd.pinned (OpenSpec.ofChange undoDepthSpec)

/-- ITS FALSE NEIGHBOUR: 'it returns false'. Refute it at one input. -/
def undoDepthWrong : ChangeSpec := { name := "undoDepth", fn := fun _ => fun
  | [d1, d2] => { results := [.lit (.bool false)], args := [d1, d2] }
  | _ => none }
def UndoDepthWrongFalsely : Prop := undoDepthRow.holds Tryd.pinned (OpenSpec.ofChange undoDepthWrong)

/-- 'chancellaw07.UndoPushes': WHATEVER THE INPUT: true; the input reads as it did. -/
def undoPushesSpec : ChangeSpec := { name := "undoPushes", fn := fun _ => fun
  | [d1, d2, d3] => { results := [.lit (.bool true)], args := [d1, d2, d3] }
  | _ => none }
def undoPushesRow : OpenClaim := { program := "ythkihkkmoknbjaadoor", sum := "1aea9e1afdcbf1e4e032a19b0f180394771121a259731b50a9c220c102b119cc", func := "chancel/chancellaw07.UndoPushes", spec := "undoPushes", inPlace := ["internal/abi.NoEscape", "internal/bytealg.MakeNoZero"], unfollowed := true, recurses := true, named := ["unicode/utf8.first", "unicode/utf8.acceptRanges"], apart := false, laid := [("unicode/utf8.acceptRanges", laid_unicode_utf8_acceptRanges), ("unicode/utf8.first", laid_unicode_utf8_first)] }
def UndoPushesSaid : Prop := undoPushesRow.holds Tryd.pinned (OpenSpec.ofChange undoPushesSpec)

/-- ITS FALSE NEIGHBOUR: 'it returns false'. Refute it at one input. -/
def undoPushesWrong : ChangeSpec := { name := "undoPushes", fn := fun _ => fun
  | [d1, d2, d3] => { results := [.lit (.bool false)], args := [d1, d2, d3] }
  | _ => none }
def UndoPushesWrongFalsely : Prop := undoPushesRow.holds Tryd.pinned (OpenSpec.ofChange undoPushesWrong)

/-- 'chancellaw07.UndoFinds': WHATEVER THE INPUT: true; the input reads as it did. -/
def undoFindsSpec : ChangeSpec := { name := "undoFinds", fn := fun _ => fun
  | [d1, d2, d3] => { results := [.lit (.bool true)], args := [d1, d2, d3] }
  | _ => none }
def undoFindsRow : OpenClaim := { program := "ythkihkkmoknbjaadoor", sum := "1aea9e1afdcbf1e4e032a19b0f180394771121a259731b50a9c220c102b119cc", func := "chancel/chancellaw07.UndoFinds", spec := "undoFinds", inPlace := ["internal/abi.NoEscape", "internal/bytealg.MakeNoZero"], unfollowed := true, recurses := true, named := ["unicode/utf8.first", "unicode/utf8.acceptRanges"], apart := false, laid := [("unicode/utf8.acceptRanges", laid_unicode_utf8_acceptRanges), ("unicode/utf8.first", laid_unicode_utf8_first)] }
def UndoFindsSaid : Prop := undoFindsRow.holds Tryd.pinned (OpenSpec.ofChange undoFindsSpec)

/-- ITS FALSE NEIGHBOUR: 'it returns false'. Refute it at one input. -/
def undoFindsWrong : ChangeSpec := { name := "undoFinds", fn := fun _ => fun
  | [d1, d2, d3] => { results := [.lit (.bool false)], args := [d1, d2, d3] }
  | _ => none }
def UndoFindsWrongFalsely : Prop := undoFindsRow.holds Tryd.pinned (OpenSpec.ofChange undoFindsWrong)

/- THE SECOND FORM. 'bulk': how many values and letters a reading holds, each counted each time it is reached (what is shared counts as often as it is met; a slice's spare places count too). A statement '..UptoSaid' is the law's where the arguments, and the package variables that the reading takes, are together of bulk at most 1048576: NARROWER than '..Said'. Prove '..Said' where nothing that the law and all that it calls make is longer than what came in: it says more and counts as full. Else prove '..UptoSaid'. A law counts once. -/
mutual
def uptoBulk {H : Type} : DataW H → Nat
  | .lit (.string bytes) => bytes.length + 1
  | .lit _ => 1
  | .nil => 1
  | .ptr d => uptoBulk d + 1
  | .slice elems spare => uptoBulkAll elems + uptoBulkAll spare + 1
  | .agg parts => uptoBulkAll parts + 1
  | .iface _ d => uptoBulk d + 1
  | .map entries => uptoBulkEntries entries + 1
  | .held _ => 1
def uptoBulkAll {H : Type} : List (DataW H) → Nat
  | [] => 0
  | d :: r => uptoBulk d + uptoBulkAll r
def uptoBulkEntries {H : Type} : List (Lit × DataW H) → Nat
  | [] => 0
  | x :: r => uptoBulkEntry x + uptoBulkEntries r
def uptoBulkEntry {H : Type} : Lit × DataW H → Nat
  | (.string bytes, d) => bytes.length + uptoBulk d + 1
  | (_, d) => uptoBulk d + 1
 end
def uptoSmall : (H : Type) → List (DataW H) → Bool := fun _ ds => decide (uptoBulkAll ds ≤ 1048576)
def OpenSpec.upto (s : _root_.Go.ChangeSpec) : _root_.Go.OpenSpec := { _root_.Go.OpenSpec.ofChange s with cond := some uptoSmall }

/-- 'chancellaw07.UndoThings', WHERE WHAT IT READS IS OF BULK AT MOST 1048576: true; the input reads as it did. -/
def undoThingsUptoRow : OpenClaim := { program := "ythkihkkmoknbjaadoor", sum := "1aea9e1afdcbf1e4e032a19b0f180394771121a259731b50a9c220c102b119cc", func := "chancel/chancellaw07.UndoThings", spec := "undoThings", inPlace := ["internal/abi.NoEscape", "internal/bytealg.MakeNoZero"], unfollowed := true, recurses := true, named := ["unicode/utf8.first", "unicode/utf8.acceptRanges"], apart := false, laid := [("unicode/utf8.acceptRanges", laid_unicode_utf8_acceptRanges), ("unicode/utf8.first", laid_unicode_utf8_first)], narrowed := true }
def UndoThingsUptoSaid : Prop := undoThingsUptoRow.holds Tryd.pinned (OpenSpec.upto undoThingsSpec)

/-- 'chancellaw07.UndoLoads', WHERE WHAT IT READS IS OF BULK AT MOST 1048576: true; the input reads as it did. -/
def undoLoadsUptoRow : OpenClaim := { program := "ythkihkkmoknbjaadoor", sum := "1aea9e1afdcbf1e4e032a19b0f180394771121a259731b50a9c220c102b119cc", func := "chancel/chancellaw07.UndoLoads", spec := "undoLoads", inPlace := ["internal/abi.NoEscape", "internal/bytealg.MakeNoZero"], unfollowed := true, recurses := true, named := ["unicode/utf8.first", "unicode/utf8.acceptRanges"], apart := false, laid := [("unicode/utf8.acceptRanges", laid_unicode_utf8_acceptRanges), ("unicode/utf8.first", laid_unicode_utf8_first)], narrowed := true }
def UndoLoadsUptoSaid : Prop := undoLoadsUptoRow.holds Tryd.pinned (OpenSpec.upto undoLoadsSpec)

/-- 'chancellaw07.UndoDepth', WHERE WHAT IT READS IS OF BULK AT MOST 1048576: true; the input reads as it did. -/
def undoDepthUptoRow : OpenClaim := { program := "ythkihkkmoknbjaadoor", sum := "1aea9e1afdcbf1e4e032a19b0f180394771121a259731b50a9c220c102b119cc", func := "chancel/chancellaw07.UndoDepth", spec := "undoDepth", inPlace := ["internal/abi.NoEscape", "internal/bytealg.MakeNoZero"], unfollowed := true, recurses := true, named := ["unicode/utf8.first", "unicode/utf8.acceptRanges"], apart := false, laid := [("unicode/utf8.acceptRanges", laid_unicode_utf8_acceptRanges), ("unicode/utf8.first", laid_unicode_utf8_first)], narrowed := true }
def UndoDepthUptoSaid : Prop := undoDepthUptoRow.holds Tryd.pinned (OpenSpec.upto undoDepthSpec)

/-- 'chancellaw07.UndoPushes', WHERE WHAT IT READS IS OF BULK AT MOST 1048576: true; the input reads as it did. -/
def undoPushesUptoRow : OpenClaim := { program := "ythkihkkmoknbjaadoor", sum := "1aea9e1afdcbf1e4e032a19b0f180394771121a259731b50a9c220c102b119cc", func := "chancel/chancellaw07.UndoPushes", spec := "undoPushes", inPlace := ["internal/abi.NoEscape", "internal/bytealg.MakeNoZero"], unfollowed := true, recurses := true, named := ["unicode/utf8.first", "unicode/utf8.acceptRanges"], apart := false, laid := [("unicode/utf8.acceptRanges", laid_unicode_utf8_acceptRanges), ("unicode/utf8.first", laid_unicode_utf8_first)], narrowed := true }
def UndoPushesUptoSaid : Prop := undoPushesUptoRow.holds Tryd.pinned (OpenSpec.upto undoPushesSpec)

/-- 'chancellaw07.UndoFinds', WHERE WHAT IT READS IS OF BULK AT MOST 1048576: true; the input reads as it did. -/
def undoFindsUptoRow : OpenClaim := { program := "ythkihkkmoknbjaadoor", sum := "1aea9e1afdcbf1e4e032a19b0f180394771121a259731b50a9c220c102b119cc", func := "chancel/chancellaw07.UndoFinds", spec := "undoFinds", inPlace := ["internal/abi.NoEscape", "internal/bytealg.MakeNoZero"], unfollowed := true, recurses := true, named := ["unicode/utf8.first", "unicode/utf8.acceptRanges"], apart := false, laid := [("unicode/utf8.acceptRanges", laid_unicode_utf8_acceptRanges), ("unicode/utf8.first", laid_unicode_utf8_first)], narrowed := true }
def UndoFindsUptoSaid : Prop := undoFindsUptoRow.holds Tryd.pinned (OpenSpec.upto undoFindsSpec)

end Rows
end Go.Proofs.YthkihkkmoknbjaaDoor
