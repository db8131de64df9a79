/-
  NARROWER THAN 'FOR EVERY INPUT', by the rows' own cells (each row's printed sentence says how): RopeNew: laid · RopeJoin: laid · RopePut: laid · RopeCut: laid · RopeRuns: laid.
  DERIVED. THE GIVEN ROWS OF THIS SEAT. 5 by the template 'for every input the law returns true; each argument reads behind the call as it read before'; 0 by the template 'total and deterministic' (their statements: YtdbdcnpajeflkaaDoorTotals.lean).
  GIVEN WITH THE SEED: the statements are not yours to turn. If you find one false, say at which input.
  Laid BY PROGRAM, IN A SANDBOX (cutbox-rows.mjs): the forced cells as the released guide's own fill.sh prints them over the translation 2f933cc1d1b02930… (all of the seat's roots in one cut). By AI agents, Wed Nov 11 2026. No macro, syntax, notation, axiom, sorry.
-/
import Derived.Test.YtdbdcnpajeflkaaDoorChecked
import GoSem.PinnedTables
import GoSem.Claim
import GoSem.ClaimJoined
import GoSem.ClaimMapViews
import Derived.JoinedTies
import Derived.KernelRfl
namespace Go.Proofs.YtdbdcnpajeflkaaDoor
/- THE CELL 'sum', in the pinned program and in every row, IS THE sha256 OF THE DUMP (.gsa) THAT YtdbdcnpajeflkaaDoorProg.lean LOADS. Nothing in Lean hashes anything: it is a label: what it is worth is what the hold of that sum in a sandbox is worth. -/
noncomputable def Tryd.pinned : Pinned := { name := "ytdbdcnpajeflkaadoor", sum := "2f933cc1d1b029305b0933c918368bbc3e9fc9aff2d5e295e811144e77216388", checked := Tryd.checked }
namespace Rows
def none {H : Type} : Left H := { results := [], args := [] }

/- WHAT THE LISTED PACKAGE-LEVEL VARIABLES READ AS WHEN THE CALL BEGINS. Each datum BY PROGRAM (the guide's laid-datum.mjs) off the statement by which the dump's own 'gosem.cut.vars' lays the variable. In a bare row this is a premise. The card (YtdbdcnpajeflkaaDoorCards.lean) ties it to the program's text. -/
def laid_unicode_utf8_acceptRanges {H : Type} : DataW H := .agg [.agg [.lit (.int .u8 128), .lit (.int .u8 191)], .agg [.lit (.int .u8 160), .lit (.int .u8 191)], .agg [.lit (.int .u8 128), .lit (.int .u8 159)], .agg [.lit (.int .u8 144), .lit (.int .u8 191)], .agg [.lit (.int .u8 128), .lit (.int .u8 143)], .agg [.lit (.int .u8 0), .lit (.int .u8 0)], .agg [.lit (.int .u8 0), .lit (.int .u8 0)], .agg [.lit (.int .u8 0), .lit (.int .u8 0)], .agg [.lit (.int .u8 0), .lit (.int .u8 0)], .agg [.lit (.int .u8 0), .lit (.int .u8 0)], .agg [.lit (.int .u8 0), .lit (.int .u8 0)], .agg [.lit (.int .u8 0), .lit (.int .u8 0)], .agg [.lit (.int .u8 0), .lit (.int .u8 0)], .agg [.lit (.int .u8 0), .lit (.int .u8 0)], .agg [.lit (.int .u8 0), .lit (.int .u8 0)], .agg [.lit (.int .u8 0), .lit (.int .u8 0)]]
/-- One of Go's own tables, pinned by name: the form's constant. -/
def laid_unicode_utf8_first : DataW Unit := Go.Pinned.utf8First

/-- 'chancellaw02.RopeNew': WHATEVER THE INPUT: true; the input reads as it did. -/
def ropeNewSpec : ChangeSpec := { name := "ropeNew", fn := fun _ => fun
  | [d] => { results := [.lit (.bool true)], args := [d] }
  | _ => none }
def ropeNewRow : OpenClaim := { program := "ytdbdcnpajeflkaadoor", sum := "2f933cc1d1b029305b0933c918368bbc3e9fc9aff2d5e295e811144e77216388", func := "chancel/chancellaw02.RopeNew", spec := "ropeNew", inPlace := ["internal/abi.NoEscape", "internal/bytealg.MakeNoZero"], unfollowed := true, recurses := true, named := ["unicode/utf8.first", "unicode/utf8.acceptRanges"], apart := false, laid := [("unicode/utf8.acceptRanges", laid_unicode_utf8_acceptRanges), ("unicode/utf8.first", laid_unicode_utf8_first)] }
def RopeNewSaid : Prop := ropeNewRow.holds Tryd.pinned (OpenSpec.ofChange ropeNewSpec)

/-- ITS FALSE NEIGHBOUR: 'it returns false'. Refute it at one input. -/
def ropeNewWrong : ChangeSpec := { name := "ropeNew", fn := fun _ => fun
  | [d] => { results := [.lit (.bool false)], args := [d] }
  | _ => none }
def RopeNewWrongFalsely : Prop := ropeNewRow.holds Tryd.pinned (OpenSpec.ofChange ropeNewWrong)

/-- 'chancellaw02.RopeJoin': WHATEVER THE INPUT: true; the input reads as it did. -/
def ropeJoinSpec : ChangeSpec := { name := "ropeJoin", fn := fun _ => fun
  | [d1, d2] => { results := [.lit (.bool true)], args := [d1, d2] }
  | _ => none }
def ropeJoinRow : OpenClaim := { program := "ytdbdcnpajeflkaadoor", sum := "2f933cc1d1b029305b0933c918368bbc3e9fc9aff2d5e295e811144e77216388", func := "chancel/chancellaw02.RopeJoin", spec := "ropeJoin", inPlace := ["internal/abi.NoEscape", "internal/bytealg.MakeNoZero"], unfollowed := true, recurses := true, named := ["unicode/utf8.first", "unicode/utf8.acceptRanges"], apart := false, laid := [("unicode/utf8.acceptRanges", laid_unicode_utf8_acceptRanges), ("unicode/utf8.first", laid_unicode_utf8_first)] }
def RopeJoinSaid : Prop := ropeJoinRow.holds Tryd.pinned (OpenSpec.ofChange ropeJoinSpec)

/-- ITS FALSE NEIGHBOUR: 'it returns false'. Refute it at one input. -/
def ropeJoinWrong : ChangeSpec := { name := "ropeJoin", fn := fun _ => fun
  | [d1, d2] => { results := [.lit (.bool false)], args := [d1, d2] }
  | _ => none }
def RopeJoinWrongFalsely : Prop := ropeJoinRow.holds Tryd.pinned (OpenSpec.ofChange ropeJoinWrong)

/-- 'chancellaw02.RopePut': WHATEVER THE INPUT: true; the input reads as it did. -/
def ropePutSpec : ChangeSpec := { name := "ropePut", fn := fun _ => fun
  | [d1, d2, d3] => { results := [.lit (.bool true)], args := [d1, d2, d3] }
  | _ => none }
def ropePutRow : OpenClaim := { program := "ytdbdcnpajeflkaadoor", sum := "2f933cc1d1b029305b0933c918368bbc3e9fc9aff2d5e295e811144e77216388", func := "chancel/chancellaw02.RopePut", spec := "ropePut", inPlace := ["internal/abi.NoEscape", "internal/bytealg.MakeNoZero"], unfollowed := true, recurses := true, named := ["unicode/utf8.first", "unicode/utf8.acceptRanges"], apart := false, laid := [("unicode/utf8.acceptRanges", laid_unicode_utf8_acceptRanges), ("unicode/utf8.first", laid_unicode_utf8_first)] }
def RopePutSaid : Prop := ropePutRow.holds Tryd.pinned (OpenSpec.ofChange ropePutSpec)

/-- ITS FALSE NEIGHBOUR: 'it returns false'. Refute it at one input. -/
def ropePutWrong : ChangeSpec := { name := "ropePut", fn := fun _ => fun
  | [d1, d2, d3] => { results := [.lit (.bool false)], args := [d1, d2, d3] }
  | _ => none }
def RopePutWrongFalsely : Prop := ropePutRow.holds Tryd.pinned (OpenSpec.ofChange ropePutWrong)

/-- 'chancellaw02.RopeCut': WHATEVER THE INPUT: true; the input reads as it did. -/
def ropeCutSpec : ChangeSpec := { name := "ropeCut", fn := fun _ => fun
  | [d1, d2, d3] => { results := [.lit (.bool true)], args := [d1, d2, d3] }
  | _ => none }
def ropeCutRow : OpenClaim := { program := "ytdbdcnpajeflkaadoor", sum := "2f933cc1d1b029305b0933c918368bbc3e9fc9aff2d5e295e811144e77216388", func := "chancel/chancellaw02.RopeCut", spec := "ropeCut", inPlace := ["internal/abi.NoEscape", "internal/bytealg.MakeNoZero"], unfollowed := true, recurses := true, named := ["unicode/utf8.first", "unicode/utf8.acceptRanges"], apart := false, laid := [("unicode/utf8.acceptRanges", laid_unicode_utf8_acceptRanges), ("unicode/utf8.first", laid_unicode_utf8_first)] }
def RopeCutSaid : Prop := ropeCutRow.holds Tryd.pinned (OpenSpec.ofChange ropeCutSpec)

/-- ITS FALSE NEIGHBOUR: 'it returns false'. Refute it at one input. -/
def ropeCutWrong : ChangeSpec := { name := "ropeCut", fn := fun _ => fun
  | [d1, d2, d3] => { results := [.lit (.bool false)], args := [d1, d2, d3] }
  | _ => none }
def RopeCutWrongFalsely : Prop := ropeCutRow.holds Tryd.pinned (OpenSpec.ofChange ropeCutWrong)

/-- 'chancellaw02.RopeRuns': WHATEVER THE INPUT: true; the input reads as it did. -/
def ropeRunsSpec : ChangeSpec := { name := "ropeRuns", fn := fun _ => fun
  | [d] => { results := [.lit (.bool true)], args := [d] }
  | _ => none }
def ropeRunsRow : OpenClaim := { program := "ytdbdcnpajeflkaadoor", sum := "2f933cc1d1b029305b0933c918368bbc3e9fc9aff2d5e295e811144e77216388", func := "chancel/chancellaw02.RopeRuns", spec := "ropeRuns", inPlace := ["internal/abi.NoEscape", "internal/bytealg.MakeNoZero"], unfollowed := true, recurses := true, named := ["unicode/utf8.first", "unicode/utf8.acceptRanges"], apart := false, laid := [("unicode/utf8.acceptRanges", laid_unicode_utf8_acceptRanges), ("unicode/utf8.first", laid_unicode_utf8_first)] }
def RopeRunsSaid : Prop := ropeRunsRow.holds Tryd.pinned (OpenSpec.ofChange ropeRunsSpec)

/-- ITS FALSE NEIGHBOUR: 'it returns false'. Refute it at one input. -/
def ropeRunsWrong : ChangeSpec := { name := "ropeRuns", fn := fun _ => fun
  | [d] => { results := [.lit (.bool false)], args := [d] }
  | _ => none }
def RopeRunsWrongFalsely : Prop := ropeRunsRow.holds Tryd.pinned (OpenSpec.ofChange ropeRunsWrong)

/- THE SECOND FORM. 'bulk': how many values and letters a reading holds, each counted each time it is reached (what is shared counts as often as it is met; a slice's spare places count too). A statement '..UptoSaid' is the law's where the arguments, and the package variables that the reading takes, are together of bulk at most 1048576: NARROWER than '..Said'. Prove '..Said' where nothing that the law and all that it calls make is longer than what came in: it says more and counts as full. Else prove '..UptoSaid'. A law counts once. -/
mutual
def uptoBulk {H : Type} : DataW H → Nat
  | .lit (.string bytes) => bytes.length + 1
  | .lit _ => 1
  | .nil => 1
  | .ptr d => uptoBulk d + 1
  | .slice elems spare => uptoBulkAll elems + uptoBulkAll spare + 1
  | .agg parts => uptoBulkAll parts + 1
  | .iface _ d => uptoBulk d + 1
  | .map entries => uptoBulkEntries entries + 1
  | .held _ => 1
def uptoBulkAll {H : Type} : List (DataW H) → Nat
  | [] => 0
  | d :: r => uptoBulk d + uptoBulkAll r
def uptoBulkEntries {H : Type} : List (Lit × DataW H) → Nat
  | [] => 0
  | x :: r => uptoBulkEntry x + uptoBulkEntries r
def uptoBulkEntry {H : Type} : Lit × DataW H → Nat
  | (.string bytes, d) => bytes.length + uptoBulk d + 1
  | (_, d) => uptoBulk d + 1
 end
def uptoSmall : (H : Type) → List (DataW H) → Bool := fun _ ds => decide (uptoBulkAll ds ≤ 1048576)
def OpenSpec.upto (s : _root_.Go.ChangeSpec) : _root_.Go.OpenSpec := { _root_.Go.OpenSpec.ofChange s with cond := some uptoSmall }

/-- 'chancellaw02.RopeNew', WHERE WHAT IT READS IS OF BULK AT MOST 1048576: true; the input reads as it did. -/
def ropeNewUptoRow : OpenClaim := { program := "ytdbdcnpajeflkaadoor", sum := "2f933cc1d1b029305b0933c918368bbc3e9fc9aff2d5e295e811144e77216388", func := "chancel/chancellaw02.RopeNew", spec := "ropeNew", inPlace := ["internal/abi.NoEscape", "internal/bytealg.MakeNoZero"], unfollowed := true, recurses := true, named := ["unicode/utf8.first", "unicode/utf8.acceptRanges"], apart := false, laid := [("unicode/utf8.acceptRanges", laid_unicode_utf8_acceptRanges), ("unicode/utf8.first", laid_unicode_utf8_first)], narrowed := true }
def RopeNewUptoSaid : Prop := ropeNewUptoRow.holds Tryd.pinned (OpenSpec.upto ropeNewSpec)

/-- 'chancellaw02.RopeJoin', WHERE WHAT IT READS IS OF BULK AT MOST 1048576: true; the input reads as it did. -/
def ropeJoinUptoRow : OpenClaim := { program := "ytdbdcnpajeflkaadoor", sum := "2f933cc1d1b029305b0933c918368bbc3e9fc9aff2d5e295e811144e77216388", func := "chancel/chancellaw02.RopeJoin", spec := "ropeJoin", inPlace := ["internal/abi.NoEscape", "internal/bytealg.MakeNoZero"], unfollowed := true, recurses := true, named := ["unicode/utf8.first", "unicode/utf8.acceptRanges"], apart := false, laid := [("unicode/utf8.acceptRanges", laid_unicode_utf8_acceptRanges), ("unicode/utf8.first", laid_unicode_utf8_first)], narrowed := true }
def RopeJoinUptoSaid : Prop := ropeJoinUptoRow.holds Tryd.pinned (OpenSpec.upto ropeJoinSpec)

/-- 'chancellaw02.RopePut', WHERE WHAT IT READS IS OF BULK AT MOST 1048576: true; the input reads as it did. -/
def ropePutUptoRow : OpenClaim := { program := "ytdbdcnpajeflkaadoor", sum := "2f933cc1d1b029305b0933c918368bbc3e9fc9aff2d5e295e811144e77216388", func := "chancel/chancellaw02.RopePut", spec := "ropePut", inPlace := ["internal/abi.NoEscape", "internal/bytealg.MakeNoZero"], unfollowed := true, recurses := true, named := ["unicode/utf8.first", "unicode/utf8.acceptRanges"], apart := false, laid := [("unicode/utf8.acceptRanges", laid_unicode_utf8_acceptRanges), ("unicode/utf8.first", laid_unicode_utf8_first)], narrowed := true }
def RopePutUptoSaid : Prop := ropePutUptoRow.holds Tryd.pinned (OpenSpec.upto ropePutSpec)

/-- 'chancellaw02.RopeCut', WHERE WHAT IT READS IS OF BULK AT MOST 1048576: true; the input reads as it did. -/
def ropeCutUptoRow : OpenClaim := { program := "ytdbdcnpajeflkaadoor", sum := "2f933cc1d1b029305b0933c918368bbc3e9fc9aff2d5e295e811144e77216388", func := "chancel/chancellaw02.RopeCut", spec := "ropeCut", inPlace := ["internal/abi.NoEscape", "internal/bytealg.MakeNoZero"], unfollowed := true, recurses := true, named := ["unicode/utf8.first", "unicode/utf8.acceptRanges"], apart := false, laid := [("unicode/utf8.acceptRanges", laid_unicode_utf8_acceptRanges), ("unicode/utf8.first", laid_unicode_utf8_first)], narrowed := true }
def RopeCutUptoSaid : Prop := ropeCutUptoRow.holds Tryd.pinned (OpenSpec.upto ropeCutSpec)

/-- 'chancellaw02.RopeRuns', WHERE WHAT IT READS IS OF BULK AT MOST 1048576: true; the input reads as it did. -/
def ropeRunsUptoRow : OpenClaim := { program := "ytdbdcnpajeflkaadoor", sum := "2f933cc1d1b029305b0933c918368bbc3e9fc9aff2d5e295e811144e77216388", func := "chancel/chancellaw02.RopeRuns", spec := "ropeRuns", inPlace := ["internal/abi.NoEscape", "internal/bytealg.MakeNoZero"], unfollowed := true, recurses := true, named := ["unicode/utf8.first", "unicode/utf8.acceptRanges"], apart := false, laid := [("unicode/utf8.acceptRanges", laid_unicode_utf8_acceptRanges), ("unicode/utf8.first", laid_unicode_utf8_first)], narrowed := true }
def RopeRunsUptoSaid : Prop := ropeRunsUptoRow.holds Tryd.pinned (OpenSpec.upto ropeRunsSpec)

end Rows
end Go.Proofs.YtdbdcnpajeflkaaDoor
