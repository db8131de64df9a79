/-
  No cell of these rows narrows 'for every input' (looked for: loops, veiled, ifaces, maps, wideKeys, modest, calm, conditions, laid).
  DERIVED. THE GIVEN ROWS OF THIS SEAT. 6 by the template 'for every input the law returns true; each argument reads behind the call as it read before'; 0 by the template 'total and deterministic' (their statements: YtdgjjdpeaohebaaTotals.lean).
  GIVEN WITH THE SEED: the statements are not yours to turn. If you find one false, say at which input.
  Laid BY PROGRAM, IN A SANDBOX (cutbox-rows.mjs): the forced cells as the released guide's own fill.sh prints them over the translation 5e00416fcdb5063a… (all of the seat's roots in one cut). By AI agents, Wed Nov 11 2026. No macro, syntax, notation, axiom, sorry.
-/
import Derived.Test.YtdgjjdpeaohebaaChecked
import GoSem.Claim
import GoSem.ClaimJoined
import GoSem.ClaimMapViews
import Derived.JoinedTies
import Derived.KernelRfl
namespace Go.Proofs.Ytdgjjdpeaohebaa
/- THE CELL 'sum', in the pinned program and in every row, IS THE sha256 OF THE DUMP (.gsa) THAT YtdgjjdpeaohebaaProg.lean LOADS. Nothing in Lean hashes anything: it is a label: what it is worth is what the hold of that sum in a sandbox is worth. -/
noncomputable def Try.pinned : Pinned := { name := "ytdgjjdpeaohebaa", sum := "5e00416fcdb5063ae996177e4898a534a15ec6eaad26ffa7c2b9ba8f8d1c70fe", checked := Try.checked }
namespace Rows
def none {H : Type} : Left H := { results := [], args := [] }

/-- 'chancellaw04.MarksRight': WHATEVER THE INPUT: true; the input reads as it did. -/
def marksRightSpec : ChangeSpec := { name := "marksRight", fn := fun _ => fun
  | [d1, d2, d3] => { results := [.lit (.bool true)], args := [d1, d2, d3] }
  | _ => none }
def marksRightRow : OpenClaim := { program := "ytdgjjdpeaohebaa", sum := "5e00416fcdb5063ae996177e4898a534a15ec6eaad26ffa7c2b9ba8f8d1c70fe", func := "chancel/chancellaw04.MarksRight", spec := "marksRight", apart := false }
def MarksRightSaid : Prop := marksRightRow.holds Try.pinned (OpenSpec.ofChange marksRightSpec)

/-- ITS FALSE NEIGHBOUR: 'it returns false'. Refute it at one input. -/
def marksRightWrong : ChangeSpec := { name := "marksRight", fn := fun _ => fun
  | [d1, d2, d3] => { results := [.lit (.bool false)], args := [d1, d2, d3] }
  | _ => none }
def MarksRightWrongFalsely : Prop := marksRightRow.holds Try.pinned (OpenSpec.ofChange marksRightWrong)

/-- 'chancellaw04.MarksDrop': WHATEVER THE INPUT: true; the input reads as it did. -/
def marksDropSpec : ChangeSpec := { name := "marksDrop", fn := fun _ => fun
  | [d1, d2] => { results := [.lit (.bool true)], args := [d1, d2] }
  | _ => none }
def marksDropRow : OpenClaim := { program := "ytdgjjdpeaohebaa", sum := "5e00416fcdb5063ae996177e4898a534a15ec6eaad26ffa7c2b9ba8f8d1c70fe", func := "chancel/chancellaw04.MarksDrop", spec := "marksDrop", unfollowed := true, recurses := true, apart := false }
def MarksDropSaid : Prop := marksDropRow.holds Try.pinned (OpenSpec.ofChange marksDropSpec)

/-- ITS FALSE NEIGHBOUR: 'it returns false'. Refute it at one input. -/
def marksDropWrong : ChangeSpec := { name := "marksDrop", fn := fun _ => fun
  | [d1, d2] => { results := [.lit (.bool false)], args := [d1, d2] }
  | _ => none }
def MarksDropWrongFalsely : Prop := marksDropRow.holds Try.pinned (OpenSpec.ofChange marksDropWrong)

/-- 'chancellaw04.MarksPart': WHATEVER THE INPUT: true; the input reads as it did. -/
def marksPartSpec : ChangeSpec := { name := "marksPart", fn := fun _ => fun
  | [d] => { results := [.lit (.bool true)], args := [d] }
  | _ => none }
def marksPartRow : OpenClaim := { program := "ytdgjjdpeaohebaa", sum := "5e00416fcdb5063ae996177e4898a534a15ec6eaad26ffa7c2b9ba8f8d1c70fe", func := "chancel/chancellaw04.MarksPart", spec := "marksPart", apart := false }
def MarksPartSaid : Prop := marksPartRow.holds Try.pinned (OpenSpec.ofChange marksPartSpec)

/-- ITS FALSE NEIGHBOUR: 'it returns false'. Refute it at one input. -/
def marksPartWrong : ChangeSpec := { name := "marksPart", fn := fun _ => fun
  | [d] => { results := [.lit (.bool false)], args := [d] }
  | _ => none }
def MarksPartWrongFalsely : Prop := marksPartRow.holds Try.pinned (OpenSpec.ofChange marksPartWrong)

/-- 'chancellaw04.MarksPut': WHATEVER THE INPUT: true; the input reads as it did. -/
def marksPutSpec : ChangeSpec := { name := "marksPut", fn := fun _ => fun
  | [d1, d2, d3] => { results := [.lit (.bool true)], args := [d1, d2, d3] }
  | _ => none }
def marksPutRow : OpenClaim := { program := "ytdgjjdpeaohebaa", sum := "5e00416fcdb5063ae996177e4898a534a15ec6eaad26ffa7c2b9ba8f8d1c70fe", func := "chancel/chancellaw04.MarksPut", spec := "marksPut", unfollowed := true, recurses := true, apart := false }
def MarksPutSaid : Prop := marksPutRow.holds Try.pinned (OpenSpec.ofChange marksPutSpec)

/-- ITS FALSE NEIGHBOUR: 'it returns false'. Refute it at one input. -/
def marksPutWrong : ChangeSpec := { name := "marksPut", fn := fun _ => fun
  | [d1, d2, d3] => { results := [.lit (.bool false)], args := [d1, d2, d3] }
  | _ => none }
def MarksPutWrongFalsely : Prop := marksPutRow.holds Try.pinned (OpenSpec.ofChange marksPutWrong)

/-- 'chancellaw04.MarksTake': WHATEVER THE INPUT: true; the input reads as it did. -/
def marksTakeSpec : ChangeSpec := { name := "marksTake", fn := fun _ => fun
  | [d1, d2] => { results := [.lit (.bool true)], args := [d1, d2] }
  | _ => none }
def marksTakeRow : OpenClaim := { program := "ytdgjjdpeaohebaa", sum := "5e00416fcdb5063ae996177e4898a534a15ec6eaad26ffa7c2b9ba8f8d1c70fe", func := "chancel/chancellaw04.MarksTake", spec := "marksTake", inPlace := ["slices.overlaps[chancel/api.Site]"], unfollowed := true, recurses := true, apart := false }
def MarksTakeSaid : Prop := marksTakeRow.holds Try.pinned (OpenSpec.ofChange marksTakeSpec)

/-- ITS FALSE NEIGHBOUR: 'it returns false'. Refute it at one input. -/
def marksTakeWrong : ChangeSpec := { name := "marksTake", fn := fun _ => fun
  | [d1, d2] => { results := [.lit (.bool false)], args := [d1, d2] }
  | _ => none }
def MarksTakeWrongFalsely : Prop := marksTakeRow.holds Try.pinned (OpenSpec.ofChange marksTakeWrong)

/-- 'chancellaw04.MarksBack': WHATEVER THE INPUT: true; the input reads as it did. -/
def marksBackSpec : ChangeSpec := { name := "marksBack", fn := fun _ => fun
  | [d1, d2] => { results := [.lit (.bool true)], args := [d1, d2] }
  | _ => none }
def marksBackRow : OpenClaim := { program := "ytdgjjdpeaohebaa", sum := "5e00416fcdb5063ae996177e4898a534a15ec6eaad26ffa7c2b9ba8f8d1c70fe", func := "chancel/chancellaw04.MarksBack", spec := "marksBack", inPlace := ["slices.overlaps[chancel/api.Site]"], unfollowed := true, recurses := true, apart := false }
def MarksBackSaid : Prop := marksBackRow.holds Try.pinned (OpenSpec.ofChange marksBackSpec)

/-- ITS FALSE NEIGHBOUR: 'it returns false'. Refute it at one input. -/
def marksBackWrong : ChangeSpec := { name := "marksBack", fn := fun _ => fun
  | [d1, d2] => { results := [.lit (.bool false)], args := [d1, d2] }
  | _ => none }
def MarksBackWrongFalsely : Prop := marksBackRow.holds Try.pinned (OpenSpec.ofChange marksBackWrong)

/- THE SECOND FORM. 'bulk': how many values and letters a reading holds, each counted each time it is reached (what is shared counts as often as it is met; a slice's spare places count too). A statement '..UptoSaid' is the law's where the arguments, and the package variables that the reading takes, are together of bulk at most 1048576: NARROWER than '..Said'. Prove '..Said' where nothing that the law and all that it calls make is longer than what came in: it says more and counts as full. Else prove '..UptoSaid'. A law counts once. -/
mutual
def uptoBulk {H : Type} : DataW H → Nat
  | .lit (.string bytes) => bytes.length + 1
  | .lit _ => 1
  | .nil => 1
  | .ptr d => uptoBulk d + 1
  | .slice elems spare => uptoBulkAll elems + uptoBulkAll spare + 1
  | .agg parts => uptoBulkAll parts + 1
  | .iface _ d => uptoBulk d + 1
  | .map entries => uptoBulkEntries entries + 1
  | .held _ => 1
def uptoBulkAll {H : Type} : List (DataW H) → Nat
  | [] => 0
  | d :: r => uptoBulk d + uptoBulkAll r
def uptoBulkEntries {H : Type} : List (Lit × DataW H) → Nat
  | [] => 0
  | x :: r => uptoBulkEntry x + uptoBulkEntries r
def uptoBulkEntry {H : Type} : Lit × DataW H → Nat
  | (.string bytes, d) => bytes.length + uptoBulk d + 1
  | (_, d) => uptoBulk d + 1
 end
def uptoSmall : (H : Type) → List (DataW H) → Bool := fun _ ds => decide (uptoBulkAll ds ≤ 1048576)
def OpenSpec.upto (s : _root_.Go.ChangeSpec) : _root_.Go.OpenSpec := { _root_.Go.OpenSpec.ofChange s with cond := some uptoSmall }

/-- 'chancellaw04.MarksRight', WHERE WHAT IT READS IS OF BULK AT MOST 1048576: true; the input reads as it did. -/
def marksRightUptoRow : OpenClaim := { program := "ytdgjjdpeaohebaa", sum := "5e00416fcdb5063ae996177e4898a534a15ec6eaad26ffa7c2b9ba8f8d1c70fe", func := "chancel/chancellaw04.MarksRight", spec := "marksRight", apart := false, narrowed := true }
def MarksRightUptoSaid : Prop := marksRightUptoRow.holds Try.pinned (OpenSpec.upto marksRightSpec)

/-- 'chancellaw04.MarksDrop', WHERE WHAT IT READS IS OF BULK AT MOST 1048576: true; the input reads as it did. -/
def marksDropUptoRow : OpenClaim := { program := "ytdgjjdpeaohebaa", sum := "5e00416fcdb5063ae996177e4898a534a15ec6eaad26ffa7c2b9ba8f8d1c70fe", func := "chancel/chancellaw04.MarksDrop", spec := "marksDrop", unfollowed := true, recurses := true, apart := false, narrowed := true }
def MarksDropUptoSaid : Prop := marksDropUptoRow.holds Try.pinned (OpenSpec.upto marksDropSpec)

/-- 'chancellaw04.MarksPart', WHERE WHAT IT READS IS OF BULK AT MOST 1048576: true; the input reads as it did. -/
def marksPartUptoRow : OpenClaim := { program := "ytdgjjdpeaohebaa", sum := "5e00416fcdb5063ae996177e4898a534a15ec6eaad26ffa7c2b9ba8f8d1c70fe", func := "chancel/chancellaw04.MarksPart", spec := "marksPart", apart := false, narrowed := true }
def MarksPartUptoSaid : Prop := marksPartUptoRow.holds Try.pinned (OpenSpec.upto marksPartSpec)

/-- 'chancellaw04.MarksPut', WHERE WHAT IT READS IS OF BULK AT MOST 1048576: true; the input reads as it did. -/
def marksPutUptoRow : OpenClaim := { program := "ytdgjjdpeaohebaa", sum := "5e00416fcdb5063ae996177e4898a534a15ec6eaad26ffa7c2b9ba8f8d1c70fe", func := "chancel/chancellaw04.MarksPut", spec := "marksPut", unfollowed := true, recurses := true, apart := false, narrowed := true }
def MarksPutUptoSaid : Prop := marksPutUptoRow.holds Try.pinned (OpenSpec.upto marksPutSpec)

/-- 'chancellaw04.MarksTake', WHERE WHAT IT READS IS OF BULK AT MOST 1048576: true; the input reads as it did. -/
def marksTakeUptoRow : OpenClaim := { program := "ytdgjjdpeaohebaa", sum := "5e00416fcdb5063ae996177e4898a534a15ec6eaad26ffa7c2b9ba8f8d1c70fe", func := "chancel/chancellaw04.MarksTake", spec := "marksTake", inPlace := ["slices.overlaps[chancel/api.Site]"], unfollowed := true, recurses := true, apart := false, narrowed := true }
def MarksTakeUptoSaid : Prop := marksTakeUptoRow.holds Try.pinned (OpenSpec.upto marksTakeSpec)

/-- 'chancellaw04.MarksBack', WHERE WHAT IT READS IS OF BULK AT MOST 1048576: true; the input reads as it did. -/
def marksBackUptoRow : OpenClaim := { program := "ytdgjjdpeaohebaa", sum := "5e00416fcdb5063ae996177e4898a534a15ec6eaad26ffa7c2b9ba8f8d1c70fe", func := "chancel/chancellaw04.MarksBack", spec := "marksBack", inPlace := ["slices.overlaps[chancel/api.Site]"], unfollowed := true, recurses := true, apart := false, narrowed := true }
def MarksBackUptoSaid : Prop := marksBackUptoRow.holds Try.pinned (OpenSpec.upto marksBackSpec)

end Rows
end Go.Proofs.Ytdgjjdpeaohebaa
