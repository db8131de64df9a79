/-
  NARROWER THAN 'FOR EVERY INPUT', by the rows' own cells (each row's printed sentence says how): SheetLoads: laid · SheetFinds: laid · SheetAfter: laid · SheetForks: laid.
  DERIVED. THE GIVEN ROWS OF THIS SEAT. 4 by the template 'for every input the law returns true; each argument reads behind the call as it read before'; 0 by the template 'total and deterministic' (their statements: YtkkjebjlgcggcaaDoorTotals.lean).
  GIVEN WITH THE SEED: the statements are not yours to turn. If you find one false, say at which input.
  Laid BY PROGRAM, IN A SANDBOX (cutbox-rows.mjs): the forced cells as the released guide's own fill.sh prints them over the translation 187a8ebcc9a7c932… (all of the seat's roots in one cut). By AI agents, Wed Nov 11 2026. No macro, syntax, notation, axiom, sorry.
-/
import Derived.Test.YtkkjebjlgcggcaaDoorChecked
import GoSem.PinnedTables
import GoSem.Claim
import GoSem.ClaimJoined
import GoSem.ClaimMapViews
import Derived.JoinedTies
import Derived.KernelRfl
namespace Go.Proofs.YtkkjebjlgcggcaaDoor
/- THE CELL 'sum', in the pinned program and in every row, IS THE sha256 OF THE DUMP (.gsa) THAT YtkkjebjlgcggcaaDoorProg.lean LOADS. Nothing in Lean hashes anything: it is a label: what it is worth is what the hold of that sum in a sandbox is worth. -/
noncomputable def Tryd.pinned : Pinned := { name := "ytkkjebjlgcggcaadoor", sum := "187a8ebcc9a7c9326732b386c7ce3a58310795b2aac0e15ee2f3edddec4ee3d9", checked := Tryd.checked }
namespace Rows
def none {H : Type} : Left H := { results := [], args := [] }

/- WHAT THE LISTED PACKAGE-LEVEL VARIABLES READ AS WHEN THE CALL BEGINS. Each datum BY PROGRAM (the guide's laid-datum.mjs) off the statement by which the dump's own 'gosem.cut.vars' lays the variable. In a bare row this is a premise. The card (YtkkjebjlgcggcaaDoorCards.lean) ties it to the program's text. -/
def laid_unicode_utf8_acceptRanges {H : Type} : DataW H := .agg [.agg [.lit (.int .u8 128), .lit (.int .u8 191)], .agg [.lit (.int .u8 160), .lit (.int .u8 191)], .agg [.lit (.int .u8 128), .lit (.int .u8 159)], .agg [.lit (.int .u8 144), .lit (.int .u8 191)], .agg [.lit (.int .u8 128), .lit (.int .u8 143)], .agg [.lit (.int .u8 0), .lit (.int .u8 0)], .agg [.lit (.int .u8 0), .lit (.int .u8 0)], .agg [.lit (.int .u8 0), .lit (.int .u8 0)], .agg [.lit (.int .u8 0), .lit (.int .u8 0)], .agg [.lit (.int .u8 0), .lit (.int .u8 0)], .agg [.lit (.int .u8 0), .lit (.int .u8 0)], .agg [.lit (.int .u8 0), .lit (.int .u8 0)], .agg [.lit (.int .u8 0), .lit (.int .u8 0)], .agg [.lit (.int .u8 0), .lit (.int .u8 0)], .agg [.lit (.int .u8 0), .lit (.int .u8 0)], .agg [.lit (.int .u8 0), .lit (.int .u8 0)]]
/-- One of Go's own tables, pinned by name: the form's constant. -/
def laid_unicode_utf8_first : DataW Unit := Go.Pinned.utf8First

/-- 'chancellaw06.SheetLoads': WHATEVER THE INPUT: true; the input reads as it did. -/
def sheetLoadsSpec : ChangeSpec := { name := "sheetLoads", fn := fun _ => fun
  | [d1, d2] => { results := [.lit (.bool true)], args := [d1, d2] }
  | _ => none }
def sheetLoadsRow : OpenClaim := { program := "ytkkjebjlgcggcaadoor", sum := "187a8ebcc9a7c9326732b386c7ce3a58310795b2aac0e15ee2f3edddec4ee3d9", func := "chancel/chancellaw06.SheetLoads", spec := "sheetLoads", inPlace := ["internal/abi.NoEscape", "internal/bytealg.MakeNoZero"], unfollowed := true, recurses := true, named := ["unicode/utf8.first", "unicode/utf8.acceptRanges"], apart := false, laid := [("unicode/utf8.acceptRanges", laid_unicode_utf8_acceptRanges), ("unicode/utf8.first", laid_unicode_utf8_first)] }
def SheetLoadsSaid : Prop := sheetLoadsRow.holds Tryd.pinned (OpenSpec.ofChange sheetLoadsSpec)

/-- ITS FALSE NEIGHBOUR: 'it returns false'. Refute it at one input. -/
def sheetLoadsWrong : ChangeSpec := { name := "sheetLoads", fn := fun _ => fun
  | [d1, d2] => { results := [.lit (.bool false)], args := [d1, d2] }
  | _ => none }
def SheetLoadsWrongFalsely : Prop := sheetLoadsRow.holds Tryd.pinned (OpenSpec.ofChange sheetLoadsWrong)

/-- 'chancellaw06.SheetFinds': WHATEVER THE INPUT: true; the input reads as it did. -/
def sheetFindsSpec : ChangeSpec := { name := "sheetFinds", fn := fun _ => fun
  | [d1, d2, d3] => { results := [.lit (.bool true)], args := [d1, d2, d3] }
  | _ => none }
def sheetFindsRow : OpenClaim := { program := "ytkkjebjlgcggcaadoor", sum := "187a8ebcc9a7c9326732b386c7ce3a58310795b2aac0e15ee2f3edddec4ee3d9", func := "chancel/chancellaw06.SheetFinds", spec := "sheetFinds", inPlace := ["internal/abi.NoEscape", "internal/bytealg.MakeNoZero"], unfollowed := true, recurses := true, named := ["unicode/utf8.first", "unicode/utf8.acceptRanges"], apart := false, laid := [("unicode/utf8.acceptRanges", laid_unicode_utf8_acceptRanges), ("unicode/utf8.first", laid_unicode_utf8_first)] }
def SheetFindsSaid : Prop := sheetFindsRow.holds Tryd.pinned (OpenSpec.ofChange sheetFindsSpec)

/-- ITS FALSE NEIGHBOUR: 'it returns false'. Refute it at one input. -/
def sheetFindsWrong : ChangeSpec := { name := "sheetFinds", fn := fun _ => fun
  | [d1, d2, d3] => { results := [.lit (.bool false)], args := [d1, d2, d3] }
  | _ => none }
def SheetFindsWrongFalsely : Prop := sheetFindsRow.holds Tryd.pinned (OpenSpec.ofChange sheetFindsWrong)

/-- 'chancellaw06.SheetAfter': WHATEVER THE INPUT: true; the input reads as it did. -/
def sheetAfterSpec : ChangeSpec := { name := "sheetAfter", fn := fun _ => fun
  | [d1, d2, d3] => { results := [.lit (.bool true)], args := [d1, d2, d3] }
  | _ => none }
def sheetAfterRow : OpenClaim := { program := "ytkkjebjlgcggcaadoor", sum := "187a8ebcc9a7c9326732b386c7ce3a58310795b2aac0e15ee2f3edddec4ee3d9", func := "chancel/chancellaw06.SheetAfter", spec := "sheetAfter", inPlace := ["internal/abi.NoEscape", "internal/bytealg.MakeNoZero"], unfollowed := true, recurses := true, named := ["unicode/utf8.first", "unicode/utf8.acceptRanges"], apart := false, laid := [("unicode/utf8.acceptRanges", laid_unicode_utf8_acceptRanges), ("unicode/utf8.first", laid_unicode_utf8_first)] }
def SheetAfterSaid : Prop := sheetAfterRow.holds Tryd.pinned (OpenSpec.ofChange sheetAfterSpec)

/-- ITS FALSE NEIGHBOUR: 'it returns false'. Refute it at one input. -/
def sheetAfterWrong : ChangeSpec := { name := "sheetAfter", fn := fun _ => fun
  | [d1, d2, d3] => { results := [.lit (.bool false)], args := [d1, d2, d3] }
  | _ => none }
def SheetAfterWrongFalsely : Prop := sheetAfterRow.holds Tryd.pinned (OpenSpec.ofChange sheetAfterWrong)

/-- 'chancellaw06.SheetForks': WHATEVER THE INPUT: true; the input reads as it did. -/
def sheetForksSpec : ChangeSpec := { name := "sheetForks", fn := fun _ => fun
  | [d1, d2, d3] => { results := [.lit (.bool true)], args := [d1, d2, d3] }
  | _ => none }
def sheetForksRow : OpenClaim := { program := "ytkkjebjlgcggcaadoor", sum := "187a8ebcc9a7c9326732b386c7ce3a58310795b2aac0e15ee2f3edddec4ee3d9", func := "chancel/chancellaw06.SheetForks", spec := "sheetForks", inPlace := ["internal/abi.NoEscape", "internal/bytealg.MakeNoZero"], unfollowed := true, recurses := true, named := ["unicode/utf8.first", "unicode/utf8.acceptRanges"], apart := false, laid := [("unicode/utf8.acceptRanges", laid_unicode_utf8_acceptRanges), ("unicode/utf8.first", laid_unicode_utf8_first)] }
def SheetForksSaid : Prop := sheetForksRow.holds Tryd.pinned (OpenSpec.ofChange sheetForksSpec)

/-- ITS FALSE NEIGHBOUR: 'it returns false'. Refute it at one input. -/
def sheetForksWrong : ChangeSpec := { name := "sheetForks", fn := fun _ => fun
  | [d1, d2, d3] => { results := [.lit (.bool false)], args := [d1, d2, d3] }
  | _ => none }
def SheetForksWrongFalsely : Prop := sheetForksRow.holds Tryd.pinned (OpenSpec.ofChange sheetForksWrong)

/- THE SECOND FORM. 'bulk': how many values and letters a reading holds, each counted each time it is reached (what is shared counts as often as it is met; a slice's spare places count too). A statement '..UptoSaid' is the law's where the arguments, and the package variables that the reading takes, are together of bulk at most 1048576: NARROWER than '..Said'. Prove '..Said' where nothing that the law and all that it calls make is longer than what came in: it says more and counts as full. Else prove '..UptoSaid'. A law counts once. -/
mutual
def uptoBulk {H : Type} : DataW H → Nat
  | .lit (.string bytes) => bytes.length + 1
  | .lit _ => 1
  | .nil => 1
  | .ptr d => uptoBulk d + 1
  | .slice elems spare => uptoBulkAll elems + uptoBulkAll spare + 1
  | .agg parts => uptoBulkAll parts + 1
  | .iface _ d => uptoBulk d + 1
  | .map entries => uptoBulkEntries entries + 1
  | .held _ => 1
def uptoBulkAll {H : Type} : List (DataW H) → Nat
  | [] => 0
  | d :: r => uptoBulk d + uptoBulkAll r
def uptoBulkEntries {H : Type} : List (Lit × DataW H) → Nat
  | [] => 0
  | x :: r => uptoBulkEntry x + uptoBulkEntries r
def uptoBulkEntry {H : Type} : Lit × DataW H → Nat
  | (.string bytes, d) => bytes.length + uptoBulk d + 1
  | (_, d) => uptoBulk d + 1
 end
def uptoSmall : (H : Type) → List (DataW H) → Bool := fun _ ds => decide (uptoBulkAll ds ≤ 1048576)
def OpenSpec.upto (s : _root_.Go.ChangeSpec) : _root_.Go.OpenSpec := { _root_.Go.OpenSpec.ofChange s with cond := some uptoSmall }

/-- 'chancellaw06.SheetLoads', WHERE WHAT IT READS IS OF BULK AT MOST 1048576: true; the input reads as it did. -/
def sheetLoadsUptoRow : OpenClaim := { program := "ytkkjebjlgcggcaadoor", sum := "187a8ebcc9a7c9326732b386c7ce3a58310795b2aac0e15ee2f3edddec4ee3d9", func := "chancel/chancellaw06.SheetLoads", spec := "sheetLoads", inPlace := ["internal/abi.NoEscape", "internal/bytealg.MakeNoZero"], unfollowed := true, recurses := true, named := ["unicode/utf8.first", "unicode/utf8.acceptRanges"], apart := false, laid := [("unicode/utf8.acceptRanges", laid_unicode_utf8_acceptRanges), ("unicode/utf8.first", laid_unicode_utf8_first)], narrowed := true }
def SheetLoadsUptoSaid : Prop := sheetLoadsUptoRow.holds Tryd.pinned (OpenSpec.upto sheetLoadsSpec)

/-- 'chancellaw06.SheetFinds', WHERE WHAT IT READS IS OF BULK AT MOST 1048576: true; the input reads as it did. -/
def sheetFindsUptoRow : OpenClaim := { program := "ytkkjebjlgcggcaadoor", sum := "187a8ebcc9a7c9326732b386c7ce3a58310795b2aac0e15ee2f3edddec4ee3d9", func := "chancel/chancellaw06.SheetFinds", spec := "sheetFinds", inPlace := ["internal/abi.NoEscape", "internal/bytealg.MakeNoZero"], unfollowed := true, recurses := true, named := ["unicode/utf8.first", "unicode/utf8.acceptRanges"], apart := false, laid := [("unicode/utf8.acceptRanges", laid_unicode_utf8_acceptRanges), ("unicode/utf8.first", laid_unicode_utf8_first)], narrowed := true }
def SheetFindsUptoSaid : Prop := sheetFindsUptoRow.holds Tryd.pinned (OpenSpec.upto sheetFindsSpec)

/-- 'chancellaw06.SheetAfter', WHERE WHAT IT READS IS OF BULK AT MOST 1048576: true; the input reads as it did. -/
def sheetAfterUptoRow : OpenClaim := { program := "ytkkjebjlgcggcaadoor", sum := "187a8ebcc9a7c9326732b386c7ce3a58310795b2aac0e15ee2f3edddec4ee3d9", func := "chancel/chancellaw06.SheetAfter", spec := "sheetAfter", inPlace := ["internal/abi.NoEscape", "internal/bytealg.MakeNoZero"], unfollowed := true, recurses := true, named := ["unicode/utf8.first", "unicode/utf8.acceptRanges"], apart := false, laid := [("unicode/utf8.acceptRanges", laid_unicode_utf8_acceptRanges), ("unicode/utf8.first", laid_unicode_utf8_first)], narrowed := true }
def SheetAfterUptoSaid : Prop := sheetAfterUptoRow.holds Tryd.pinned (OpenSpec.upto sheetAfterSpec)

/-- 'chancellaw06.SheetForks', WHERE WHAT IT READS IS OF BULK AT MOST 1048576: true; the input reads as it did. -/
def sheetForksUptoRow : OpenClaim := { program := "ytkkjebjlgcggcaadoor", sum := "187a8ebcc9a7c9326732b386c7ce3a58310795b2aac0e15ee2f3edddec4ee3d9", func := "chancel/chancellaw06.SheetForks", spec := "sheetForks", inPlace := ["internal/abi.NoEscape", "internal/bytealg.MakeNoZero"], unfollowed := true, recurses := true, named := ["unicode/utf8.first", "unicode/utf8.acceptRanges"], apart := false, laid := [("unicode/utf8.acceptRanges", laid_unicode_utf8_acceptRanges), ("unicode/utf8.first", laid_unicode_utf8_first)], narrowed := true }
def SheetForksUptoSaid : Prop := sheetForksUptoRow.holds Tryd.pinned (OpenSpec.upto sheetForksSpec)

end Rows
end Go.Proofs.YtkkjebjlgcggcaaDoor
