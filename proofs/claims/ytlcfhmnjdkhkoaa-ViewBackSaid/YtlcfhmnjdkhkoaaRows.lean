/-
  No cell of these rows narrows 'for every input' (looked for: loops, veiled, ifaces, maps, wideKeys, modest, calm, conditions, laid).
  DERIVED. THE GIVEN ROWS OF THIS SEAT. 3 by the template 'for every input the law returns true; each argument reads behind the call as it read before'; 0 by the template 'total and deterministic' (their statements: YtlcfhmnjdkhkoaaTotals.lean).
  GIVEN WITH THE SEED: the statements are not yours to turn. If you find one false, say at which input.
  Laid BY PROGRAM, IN A SANDBOX (cutbox-rows.mjs): the forced cells as the released guide's own fill.sh prints them over the translation 46b90bdd20ac801d… (all of the seat's roots in one cut). By AI agents, Wed Nov 11 2026. No macro, syntax, notation, axiom, sorry.
-/
import Derived.Test.YtlcfhmnjdkhkoaaChecked
import GoSem.Claim
import GoSem.ClaimJoined
import GoSem.ClaimMapViews
import Derived.JoinedTies
import Derived.KernelRfl
namespace Go.Proofs.Ytlcfhmnjdkhkoaa
/- THE CELL 'sum', in the pinned program and in every row, IS THE sha256 OF THE DUMP (.gsa) THAT YtlcfhmnjdkhkoaaProg.lean LOADS. Nothing in Lean hashes anything: it is a label: what it is worth is what the hold of that sum in a sandbox is worth. -/
noncomputable def Try.pinned : Pinned := { name := "ytlcfhmnjdkhkoaa", sum := "46b90bdd20ac801d47dc2000bbcd07a36d764cffb2ec884e6ee7a4d098c1e52e", checked := Try.checked }
namespace Rows
def none {H : Type} : Left H := { results := [], args := [] }

/-- 'chancellaw08.ViewOffset': WHATEVER THE INPUT: true; the input reads as it did. -/
def viewOffsetSpec : ChangeSpec := { name := "viewOffset", fn := fun _ => fun
  | [d1, d2, d3] => { results := [.lit (.bool true)], args := [d1, d2, d3] }
  | _ => none }
def viewOffsetRow : OpenClaim := { program := "ytlcfhmnjdkhkoaa", sum := "46b90bdd20ac801d47dc2000bbcd07a36d764cffb2ec884e6ee7a4d098c1e52e", func := "chancel/chancellaw08.ViewOffset", spec := "viewOffset", apart := false }
def ViewOffsetSaid : Prop := viewOffsetRow.holds Try.pinned (OpenSpec.ofChange viewOffsetSpec)

/-- ITS FALSE NEIGHBOUR: 'it returns false'. Refute it at one input. -/
def viewOffsetWrong : ChangeSpec := { name := "viewOffset", fn := fun _ => fun
  | [d1, d2, d3] => { results := [.lit (.bool false)], args := [d1, d2, d3] }
  | _ => none }
def ViewOffsetWrongFalsely : Prop := viewOffsetRow.holds Try.pinned (OpenSpec.ofChange viewOffsetWrong)

/-- 'chancellaw08.ViewAddress': WHATEVER THE INPUT: true; the input reads as it did. -/
def viewAddressSpec : ChangeSpec := { name := "viewAddress", fn := fun _ => fun
  | [d1, d2] => { results := [.lit (.bool true)], args := [d1, d2] }
  | _ => none }
def viewAddressRow : OpenClaim := { program := "ytlcfhmnjdkhkoaa", sum := "46b90bdd20ac801d47dc2000bbcd07a36d764cffb2ec884e6ee7a4d098c1e52e", func := "chancel/chancellaw08.ViewAddress", spec := "viewAddress", apart := false }
def ViewAddressSaid : Prop := viewAddressRow.holds Try.pinned (OpenSpec.ofChange viewAddressSpec)

/-- ITS FALSE NEIGHBOUR: 'it returns false'. Refute it at one input. -/
def viewAddressWrong : ChangeSpec := { name := "viewAddress", fn := fun _ => fun
  | [d1, d2] => { results := [.lit (.bool false)], args := [d1, d2] }
  | _ => none }
def ViewAddressWrongFalsely : Prop := viewAddressRow.holds Try.pinned (OpenSpec.ofChange viewAddressWrong)

/-- 'chancellaw08.ViewBack': WHATEVER THE INPUT: true; the input reads as it did. -/
def viewBackSpec : ChangeSpec := { name := "viewBack", fn := fun _ => fun
  | [d1, d2, d3] => { results := [.lit (.bool true)], args := [d1, d2, d3] }
  | _ => none }
def viewBackRow : OpenClaim := { program := "ytlcfhmnjdkhkoaa", sum := "46b90bdd20ac801d47dc2000bbcd07a36d764cffb2ec884e6ee7a4d098c1e52e", func := "chancel/chancellaw08.ViewBack", spec := "viewBack", apart := false }
def ViewBackSaid : Prop := viewBackRow.holds Try.pinned (OpenSpec.ofChange viewBackSpec)

/-- ITS FALSE NEIGHBOUR: 'it returns false'. Refute it at one input. -/
def viewBackWrong : ChangeSpec := { name := "viewBack", fn := fun _ => fun
  | [d1, d2, d3] => { results := [.lit (.bool false)], args := [d1, d2, d3] }
  | _ => none }
def ViewBackWrongFalsely : Prop := viewBackRow.holds Try.pinned (OpenSpec.ofChange viewBackWrong)

/- THE SECOND FORM. 'bulk': how many values and letters a reading holds, each counted each time it is reached (what is shared counts as often as it is met; a slice's spare places count too). A statement '..UptoSaid' is the law's where the arguments, and the package variables that the reading takes, are together of bulk at most 1048576: NARROWER than '..Said'. Prove '..Said' where nothing that the law and all that it calls make is longer than what came in: it says more and counts as full. Else prove '..UptoSaid'. A law counts once. -/
mutual
def uptoBulk {H : Type} : DataW H → Nat
  | .lit (.string bytes) => bytes.length + 1
  | .lit _ => 1
  | .nil => 1
  | .ptr d => uptoBulk d + 1
  | .slice elems spare => uptoBulkAll elems + uptoBulkAll spare + 1
  | .agg parts => uptoBulkAll parts + 1
  | .iface _ d => uptoBulk d + 1
  | .map entries => uptoBulkEntries entries + 1
  | .held _ => 1
def uptoBulkAll {H : Type} : List (DataW H) → Nat
  | [] => 0
  | d :: r => uptoBulk d + uptoBulkAll r
def uptoBulkEntries {H : Type} : List (Lit × DataW H) → Nat
  | [] => 0
  | x :: r => uptoBulkEntry x + uptoBulkEntries r
def uptoBulkEntry {H : Type} : Lit × DataW H → Nat
  | (.string bytes, d) => bytes.length + uptoBulk d + 1
  | (_, d) => uptoBulk d + 1
 end
def uptoSmall : (H : Type) → List (DataW H) → Bool := fun _ ds => decide (uptoBulkAll ds ≤ 1048576)
def OpenSpec.upto (s : _root_.Go.ChangeSpec) : _root_.Go.OpenSpec := { _root_.Go.OpenSpec.ofChange s with cond := some uptoSmall }

/-- 'chancellaw08.ViewOffset', WHERE WHAT IT READS IS OF BULK AT MOST 1048576: true; the input reads as it did. -/
def viewOffsetUptoRow : OpenClaim := { program := "ytlcfhmnjdkhkoaa", sum := "46b90bdd20ac801d47dc2000bbcd07a36d764cffb2ec884e6ee7a4d098c1e52e", func := "chancel/chancellaw08.ViewOffset", spec := "viewOffset", apart := false, narrowed := true }
def ViewOffsetUptoSaid : Prop := viewOffsetUptoRow.holds Try.pinned (OpenSpec.upto viewOffsetSpec)

/-- 'chancellaw08.ViewAddress', WHERE WHAT IT READS IS OF BULK AT MOST 1048576: true; the input reads as it did. -/
def viewAddressUptoRow : OpenClaim := { program := "ytlcfhmnjdkhkoaa", sum := "46b90bdd20ac801d47dc2000bbcd07a36d764cffb2ec884e6ee7a4d098c1e52e", func := "chancel/chancellaw08.ViewAddress", spec := "viewAddress", apart := false, narrowed := true }
def ViewAddressUptoSaid : Prop := viewAddressUptoRow.holds Try.pinned (OpenSpec.upto viewAddressSpec)

/-- 'chancellaw08.ViewBack', WHERE WHAT IT READS IS OF BULK AT MOST 1048576: true; the input reads as it did. -/
def viewBackUptoRow : OpenClaim := { program := "ytlcfhmnjdkhkoaa", sum := "46b90bdd20ac801d47dc2000bbcd07a36d764cffb2ec884e6ee7a4d098c1e52e", func := "chancel/chancellaw08.ViewBack", spec := "viewBack", apart := false, narrowed := true }
def ViewBackUptoSaid : Prop := viewBackUptoRow.holds Try.pinned (OpenSpec.upto viewBackSpec)

end Rows
end Go.Proofs.Ytlcfhmnjdkhkoaa
