/-
  NARROWER THAN 'FOR EVERY INPUT', by the rows' own cells (each row's printed sentence says how): SegmentLoads: laid · SegmentInsert: laid · SegmentWhole: laid · SegmentParts: laid · SegmentTakenBack: laid.
  DERIVED. THE GIVEN ROWS OF THIS SEAT. 5 by the template 'for every input the law returns true; each argument reads behind the call as it read before'; 0 by the template 'total and deterministic' (their statements: YtjphmebhofkhcaaDoorTotals.lean).
  GIVEN WITH THE SEED: the statements are not yours to turn. If you find one false, say at which input.
  Laid BY PROGRAM, IN A SANDBOX (cutbox-rows.mjs): the forced cells as the released guide's own fill.sh prints them over the translation 4720b095db8cf078… (all of the seat's roots in one cut). By AI agents, Wed Nov 11 2026. No macro, syntax, notation, axiom, sorry.
-/
import Derived.Test.YtjphmebhofkhcaaDoorChecked
import GoSem.PinnedTables
import GoSem.Claim
import GoSem.ClaimJoined
import GoSem.ClaimMapViews
import Derived.JoinedTies
import Derived.KernelRfl
namespace Go.Proofs.YtjphmebhofkhcaaDoor
/- THE CELL 'sum', in the pinned program and in every row, IS THE sha256 OF THE DUMP (.gsa) THAT YtjphmebhofkhcaaDoorProg.lean LOADS. Nothing in Lean hashes anything: it is a label: what it is worth is what the hold of that sum in a sandbox is worth. -/
noncomputable def Tryd.pinned : Pinned := { name := "ytjphmebhofkhcaadoor", sum := "4720b095db8cf078fce1a3f50783bd2ff833b58f5ed01c3da154b243b1bc144d", checked := Tryd.checked }
namespace Rows
def none {H : Type} : Left H := { results := [], args := [] }

/- WHAT THE LISTED PACKAGE-LEVEL VARIABLES READ AS WHEN THE CALL BEGINS. Each datum BY PROGRAM (the guide's laid-datum.mjs) off the statement by which the dump's own 'gosem.cut.vars' lays the variable. In a bare row this is a premise. The card (YtjphmebhofkhcaaDoorCards.lean) ties it to the program's text. -/
def laid_unicode_utf8_acceptRanges {H : Type} : DataW H := .agg [.agg [.lit (.int .u8 128), .lit (.int .u8 191)], .agg [.lit (.int .u8 160), .lit (.int .u8 191)], .agg [.lit (.int .u8 128), .lit (.int .u8 159)], .agg [.lit (.int .u8 144), .lit (.int .u8 191)], .agg [.lit (.int .u8 128), .lit (.int .u8 143)], .agg [.lit (.int .u8 0), .lit (.int .u8 0)], .agg [.lit (.int .u8 0), .lit (.int .u8 0)], .agg [.lit (.int .u8 0), .lit (.int .u8 0)], .agg [.lit (.int .u8 0), .lit (.int .u8 0)], .agg [.lit (.int .u8 0), .lit (.int .u8 0)], .agg [.lit (.int .u8 0), .lit (.int .u8 0)], .agg [.lit (.int .u8 0), .lit (.int .u8 0)], .agg [.lit (.int .u8 0), .lit (.int .u8 0)], .agg [.lit (.int .u8 0), .lit (.int .u8 0)], .agg [.lit (.int .u8 0), .lit (.int .u8 0)], .agg [.lit (.int .u8 0), .lit (.int .u8 0)]]
/-- One of Go's own tables, pinned by name: the form's constant. -/
def laid_unicode_utf8_first : DataW Unit := Go.Pinned.utf8First

/-- 'chancellaw05.SegmentLoads': WHATEVER THE INPUT: true; the input reads as it did. -/
def segmentLoadsSpec : ChangeSpec := { name := "segmentLoads", fn := fun _ => fun
  | [d] => { results := [.lit (.bool true)], args := [d] }
  | _ => none }
def segmentLoadsRow : OpenClaim := { program := "ytjphmebhofkhcaadoor", sum := "4720b095db8cf078fce1a3f50783bd2ff833b58f5ed01c3da154b243b1bc144d", func := "chancel/chancellaw05.SegmentLoads", spec := "segmentLoads", inPlace := ["internal/abi.NoEscape", "internal/bytealg.MakeNoZero"], unfollowed := true, recurses := true, named := ["unicode/utf8.first", "unicode/utf8.acceptRanges"], apart := false, laid := [("unicode/utf8.acceptRanges", laid_unicode_utf8_acceptRanges), ("unicode/utf8.first", laid_unicode_utf8_first)] }
def SegmentLoadsSaid : Prop := segmentLoadsRow.holds Tryd.pinned (OpenSpec.ofChange segmentLoadsSpec)

/-- ITS FALSE NEIGHBOUR: 'it returns false'. Refute it at one input. -/
def segmentLoadsWrong : ChangeSpec := { name := "segmentLoads", fn := fun _ => fun
  | [d] => { results := [.lit (.bool false)], args := [d] }
  | _ => none }
def SegmentLoadsWrongFalsely : Prop := segmentLoadsRow.holds Tryd.pinned (OpenSpec.ofChange segmentLoadsWrong)

/-- 'chancellaw05.SegmentInsert': WHATEVER THE INPUT: true; the input reads as it did. -/
def segmentInsertSpec : ChangeSpec := { name := "segmentInsert", fn := fun _ => fun
  | [d1, d2] => { results := [.lit (.bool true)], args := [d1, d2] }
  | _ => none }
def segmentInsertRow : OpenClaim := { program := "ytjphmebhofkhcaadoor", sum := "4720b095db8cf078fce1a3f50783bd2ff833b58f5ed01c3da154b243b1bc144d", func := "chancel/chancellaw05.SegmentInsert", spec := "segmentInsert", inPlace := ["internal/abi.NoEscape", "internal/bytealg.MakeNoZero"], unfollowed := true, recurses := true, named := ["unicode/utf8.first", "unicode/utf8.acceptRanges"], apart := false, laid := [("unicode/utf8.acceptRanges", laid_unicode_utf8_acceptRanges), ("unicode/utf8.first", laid_unicode_utf8_first)] }
def SegmentInsertSaid : Prop := segmentInsertRow.holds Tryd.pinned (OpenSpec.ofChange segmentInsertSpec)

/-- ITS FALSE NEIGHBOUR: 'it returns false'. Refute it at one input. -/
def segmentInsertWrong : ChangeSpec := { name := "segmentInsert", fn := fun _ => fun
  | [d1, d2] => { results := [.lit (.bool false)], args := [d1, d2] }
  | _ => none }
def SegmentInsertWrongFalsely : Prop := segmentInsertRow.holds Tryd.pinned (OpenSpec.ofChange segmentInsertWrong)

/-- 'chancellaw05.SegmentWhole': WHATEVER THE INPUT: true; the input reads as it did. -/
def segmentWholeSpec : ChangeSpec := { name := "segmentWhole", fn := fun _ => fun
  | [d1, d2] => { results := [.lit (.bool true)], args := [d1, d2] }
  | _ => none }
def segmentWholeRow : OpenClaim := { program := "ytjphmebhofkhcaadoor", sum := "4720b095db8cf078fce1a3f50783bd2ff833b58f5ed01c3da154b243b1bc144d", func := "chancel/chancellaw05.SegmentWhole", spec := "segmentWhole", inPlace := ["internal/abi.NoEscape", "internal/bytealg.MakeNoZero"], unfollowed := true, recurses := true, named := ["unicode/utf8.first", "unicode/utf8.acceptRanges"], apart := false, laid := [("unicode/utf8.acceptRanges", laid_unicode_utf8_acceptRanges), ("unicode/utf8.first", laid_unicode_utf8_first)] }
def SegmentWholeSaid : Prop := segmentWholeRow.holds Tryd.pinned (OpenSpec.ofChange segmentWholeSpec)

/-- ITS FALSE NEIGHBOUR: 'it returns false'. Refute it at one input. -/
def segmentWholeWrong : ChangeSpec := { name := "segmentWhole", fn := fun _ => fun
  | [d1, d2] => { results := [.lit (.bool false)], args := [d1, d2] }
  | _ => none }
def SegmentWholeWrongFalsely : Prop := segmentWholeRow.holds Tryd.pinned (OpenSpec.ofChange segmentWholeWrong)

/-- 'chancellaw05.SegmentParts': WHATEVER THE INPUT: true; the input reads as it did. -/
def segmentPartsSpec : ChangeSpec := { name := "segmentParts", fn := fun _ => fun
  | [d1, d2, d3] => { results := [.lit (.bool true)], args := [d1, d2, d3] }
  | _ => none }
def segmentPartsRow : OpenClaim := { program := "ytjphmebhofkhcaadoor", sum := "4720b095db8cf078fce1a3f50783bd2ff833b58f5ed01c3da154b243b1bc144d", func := "chancel/chancellaw05.SegmentParts", spec := "segmentParts", inPlace := ["internal/abi.NoEscape", "internal/bytealg.MakeNoZero"], unfollowed := true, recurses := true, named := ["unicode/utf8.first", "unicode/utf8.acceptRanges"], apart := false, laid := [("unicode/utf8.acceptRanges", laid_unicode_utf8_acceptRanges), ("unicode/utf8.first", laid_unicode_utf8_first)] }
def SegmentPartsSaid : Prop := segmentPartsRow.holds Tryd.pinned (OpenSpec.ofChange segmentPartsSpec)

/-- ITS FALSE NEIGHBOUR: 'it returns false'. Refute it at one input. -/
def segmentPartsWrong : ChangeSpec := { name := "segmentParts", fn := fun _ => fun
  | [d1, d2, d3] => { results := [.lit (.bool false)], args := [d1, d2, d3] }
  | _ => none }
def SegmentPartsWrongFalsely : Prop := segmentPartsRow.holds Tryd.pinned (OpenSpec.ofChange segmentPartsWrong)

/-- 'chancellaw05.SegmentTakenBack': WHATEVER THE INPUT: true; the input reads as it did. -/
def segmentTakenBackSpec : ChangeSpec := { name := "segmentTakenBack", fn := fun _ => fun
  | [d1, d2] => { results := [.lit (.bool true)], args := [d1, d2] }
  | _ => none }
def segmentTakenBackRow : OpenClaim := { program := "ytjphmebhofkhcaadoor", sum := "4720b095db8cf078fce1a3f50783bd2ff833b58f5ed01c3da154b243b1bc144d", func := "chancel/chancellaw05.SegmentTakenBack", spec := "segmentTakenBack", inPlace := ["slices.overlaps[chancel/api.Site]", "internal/abi.NoEscape", "internal/bytealg.MakeNoZero"], unfollowed := true, recurses := true, named := ["unicode/utf8.first", "unicode/utf8.acceptRanges"], apart := false, laid := [("unicode/utf8.acceptRanges", laid_unicode_utf8_acceptRanges), ("unicode/utf8.first", laid_unicode_utf8_first)] }
def SegmentTakenBackSaid : Prop := segmentTakenBackRow.holds Tryd.pinned (OpenSpec.ofChange segmentTakenBackSpec)

/-- ITS FALSE NEIGHBOUR: 'it returns false'. Refute it at one input. -/
def segmentTakenBackWrong : ChangeSpec := { name := "segmentTakenBack", fn := fun _ => fun
  | [d1, d2] => { results := [.lit (.bool false)], args := [d1, d2] }
  | _ => none }
def SegmentTakenBackWrongFalsely : Prop := segmentTakenBackRow.holds Tryd.pinned (OpenSpec.ofChange segmentTakenBackWrong)

/- THE SECOND FORM. 'bulk': how many values and letters a reading holds, each counted each time it is reached (what is shared counts as often as it is met; a slice's spare places count too). A statement '..UptoSaid' is the law's where the arguments, and the package variables that the reading takes, are together of bulk at most 1048576: NARROWER than '..Said'. Prove '..Said' where nothing that the law and all that it calls make is longer than what came in: it says more and counts as full. Else prove '..UptoSaid'. A law counts once. -/
mutual
def uptoBulk {H : Type} : DataW H → Nat
  | .lit (.string bytes) => bytes.length + 1
  | .lit _ => 1
  | .nil => 1
  | .ptr d => uptoBulk d + 1
  | .slice elems spare => uptoBulkAll elems + uptoBulkAll spare + 1
  | .agg parts => uptoBulkAll parts + 1
  | .iface _ d => uptoBulk d + 1
  | .map entries => uptoBulkEntries entries + 1
  | .held _ => 1
def uptoBulkAll {H : Type} : List (DataW H) → Nat
  | [] => 0
  | d :: r => uptoBulk d + uptoBulkAll r
def uptoBulkEntries {H : Type} : List (Lit × DataW H) → Nat
  | [] => 0
  | x :: r => uptoBulkEntry x + uptoBulkEntries r
def uptoBulkEntry {H : Type} : Lit × DataW H → Nat
  | (.string bytes, d) => bytes.length + uptoBulk d + 1
  | (_, d) => uptoBulk d + 1
 end
def uptoSmall : (H : Type) → List (DataW H) → Bool := fun _ ds => decide (uptoBulkAll ds ≤ 1048576)
def OpenSpec.upto (s : _root_.Go.ChangeSpec) : _root_.Go.OpenSpec := { _root_.Go.OpenSpec.ofChange s with cond := some uptoSmall }

/-- 'chancellaw05.SegmentLoads', WHERE WHAT IT READS IS OF BULK AT MOST 1048576: true; the input reads as it did. -/
def segmentLoadsUptoRow : OpenClaim := { program := "ytjphmebhofkhcaadoor", sum := "4720b095db8cf078fce1a3f50783bd2ff833b58f5ed01c3da154b243b1bc144d", func := "chancel/chancellaw05.SegmentLoads", spec := "segmentLoads", inPlace := ["internal/abi.NoEscape", "internal/bytealg.MakeNoZero"], unfollowed := true, recurses := true, named := ["unicode/utf8.first", "unicode/utf8.acceptRanges"], apart := false, laid := [("unicode/utf8.acceptRanges", laid_unicode_utf8_acceptRanges), ("unicode/utf8.first", laid_unicode_utf8_first)], narrowed := true }
def SegmentLoadsUptoSaid : Prop := segmentLoadsUptoRow.holds Tryd.pinned (OpenSpec.upto segmentLoadsSpec)

/-- 'chancellaw05.SegmentInsert', WHERE WHAT IT READS IS OF BULK AT MOST 1048576: true; the input reads as it did. -/
def segmentInsertUptoRow : OpenClaim := { program := "ytjphmebhofkhcaadoor", sum := "4720b095db8cf078fce1a3f50783bd2ff833b58f5ed01c3da154b243b1bc144d", func := "chancel/chancellaw05.SegmentInsert", spec := "segmentInsert", inPlace := ["internal/abi.NoEscape", "internal/bytealg.MakeNoZero"], unfollowed := true, recurses := true, named := ["unicode/utf8.first", "unicode/utf8.acceptRanges"], apart := false, laid := [("unicode/utf8.acceptRanges", laid_unicode_utf8_acceptRanges), ("unicode/utf8.first", laid_unicode_utf8_first)], narrowed := true }
def SegmentInsertUptoSaid : Prop := segmentInsertUptoRow.holds Tryd.pinned (OpenSpec.upto segmentInsertSpec)

/-- 'chancellaw05.SegmentWhole', WHERE WHAT IT READS IS OF BULK AT MOST 1048576: true; the input reads as it did. -/
def segmentWholeUptoRow : OpenClaim := { program := "ytjphmebhofkhcaadoor", sum := "4720b095db8cf078fce1a3f50783bd2ff833b58f5ed01c3da154b243b1bc144d", func := "chancel/chancellaw05.SegmentWhole", spec := "segmentWhole", inPlace := ["internal/abi.NoEscape", "internal/bytealg.MakeNoZero"], unfollowed := true, recurses := true, named := ["unicode/utf8.first", "unicode/utf8.acceptRanges"], apart := false, laid := [("unicode/utf8.acceptRanges", laid_unicode_utf8_acceptRanges), ("unicode/utf8.first", laid_unicode_utf8_first)], narrowed := true }
def SegmentWholeUptoSaid : Prop := segmentWholeUptoRow.holds Tryd.pinned (OpenSpec.upto segmentWholeSpec)

/-- 'chancellaw05.SegmentParts', WHERE WHAT IT READS IS OF BULK AT MOST 1048576: true; the input reads as it did. -/
def segmentPartsUptoRow : OpenClaim := { program := "ytjphmebhofkhcaadoor", sum := "4720b095db8cf078fce1a3f50783bd2ff833b58f5ed01c3da154b243b1bc144d", func := "chancel/chancellaw05.SegmentParts", spec := "segmentParts", inPlace := ["internal/abi.NoEscape", "internal/bytealg.MakeNoZero"], unfollowed := true, recurses := true, named := ["unicode/utf8.first", "unicode/utf8.acceptRanges"], apart := false, laid := [("unicode/utf8.acceptRanges", laid_unicode_utf8_acceptRanges), ("unicode/utf8.first", laid_unicode_utf8_first)], narrowed := true }
def SegmentPartsUptoSaid : Prop := segmentPartsUptoRow.holds Tryd.pinned (OpenSpec.upto segmentPartsSpec)

/-- 'chancellaw05.SegmentTakenBack', WHERE WHAT IT READS IS OF BULK AT MOST 1048576: true; the input reads as it did. -/
def segmentTakenBackUptoRow : OpenClaim := { program := "ytjphmebhofkhcaadoor", sum := "4720b095db8cf078fce1a3f50783bd2ff833b58f5ed01c3da154b243b1bc144d", func := "chancel/chancellaw05.SegmentTakenBack", spec := "segmentTakenBack", inPlace := ["slices.overlaps[chancel/api.Site]", "internal/abi.NoEscape", "internal/bytealg.MakeNoZero"], unfollowed := true, recurses := true, named := ["unicode/utf8.first", "unicode/utf8.acceptRanges"], apart := false, laid := [("unicode/utf8.acceptRanges", laid_unicode_utf8_acceptRanges), ("unicode/utf8.first", laid_unicode_utf8_first)], narrowed := true }
def SegmentTakenBackUptoSaid : Prop := segmentTakenBackUptoRow.holds Tryd.pinned (OpenSpec.upto segmentTakenBackSpec)

end Rows
end Go.Proofs.YtjphmebhofkhcaaDoor
