/- Ropes: the trees that they are, and what it is for a value to be one in a memory. Plain definitions and how they move; no condition. -/
import Derived.Test.YtdbdcnpajeflkaaDoorProg
import Derived.Test.YtdbdcnpajeflkaaDoorWMore
import Derived.WalkSpells
import Derived.Lib.Hide
import Derived.Lib.RuneCountTail
import Derived.Deep.RegionHeld3
import Derived.StillTailTactics
namespace Go.Proofs.YtdbdcnpajeflkaaDoor.Rope
open Go.RowKit Go.Proofs.YtdbdcnpajeflkaaDoorW.PrintWords Go.Proofs.YtdbdcnpajeflkaaDoorW.PrintLast Go.Proofs.YtdbdcnpajeflkaaDoorW.PrintMore
set_option linter.unusedVariables false
set_option linter.unusedSimpArgs false
/-- A rope: a part, or two sides. -/
inductive T where
  | leaf (s : ByteArray)
  | node (l r : T)
namespace T
def h : T → Nat
  | leaf _ => 0
  | node l r => max l.h r.h + 1
def runes : T → Nat
  | leaf s => Lib.runeCount s
  | node l r => l.runes + r.runes
def bytes : T → Nat
  | leaf s => s.size
  | node l r => l.bytes + r.bytes
def parts : T → List ByteArray
  | leaf s => [s]
  | node l r => l.parts ++ r.parts
/-- No part is empty. -/
def Ne : T → Prop
  | leaf s => 0 < s.size
  | node l r => l.Ne ∧ r.Ne
theorem runes_le : ∀ t : T, t.runes ≤ t.bytes
  | leaf s => Lib.runeCount_le s
  | node l r => by have := runes_le l; have := runes_le r; simp only [runes, bytes]; omega
theorem h_lt : ∀ t : T, t.Ne → t.h < t.bytes
  | leaf s, hn => hn
  | node l r, hn => by have := h_lt l hn.1; have := h_lt r hn.2; simp only [h, bytes]; omega
/-- The text of a part; of sides none. -/
def text : T → ByteArray
  | leaf s => s
  | node _ _ => ByteArray.empty
end T
def two (left : Bool) (a b : T) : T := if left then .node b a else .node a b
/-- What rope.fix makes. -/
def fix (stays t : T) (left : Bool) : T :=
  if t.h ≤ stays.h + 1 then two left stays t else
  match t with
  | .leaf _ => two left stays t
  | .node tl tr =>
    if (if left then tr else tl).h ≤ (if left then tl else tr).h then two left (two left stays (if left then tr else tl)) (if left then tl else tr) else
    match (if left then tr else tl) with
    | .leaf _ => two left stays t
    | .node nl nr => two left (two left stays (if left then nr else nl)) (two left (if left then nl else nr) (if left then tl else tr))
/-- What rope.Join makes of two. -/
def join (a b : T) : T :=
  if a.h > b.h + 1 then
    match a with
    | .leaf _ => .node a b
    | .node al ar => fix al (join ar b) false
  else if b.h > a.h + 1 then
    match b with
    | .leaf _ => .node a b
    | .node bl br => fix br (join a bl) true
  else if a.h = 0 ∧ b.h = 0 ∧ a.bytes + b.bytes ≤ 64 then .leaf (a.text ++ b.text)
  else .node a b
termination_by a.h + b.h
decreasing_by all_goals (simp only [T.h]; omega)
/-- .. of none, too. -/
def joinO : Option T → Option T → Option T
  | none, b => b
  | some a, none => some a
  | some a, some b => some (join a b)
def hO : Option T → Nat
  | none => 0
  | some t => t.h
def runesO : Option T → Nat
  | none => 0
  | some t => t.runes
def bytesO : Option T → Nat
  | none => 0
  | some t => t.bytes
def partsO : Option T → List ByteArray
  | none => []
  | some t => t.parts
def NeO : Option T → Prop
  | none => True
  | some t => t.Ne
/-- The cells of a rope's block. -/
def cellsOf (s : ByteArray) (l r : Value) (h n b : Nat) : Array Value := #[.string s, l, r, .int .i64 (h : Int), .int .i64 (n : Int), .int .i64 (b : Int)]
/-- The block b holds the rope t (and others, its sides). -/
def IsT (w : World) : T → Nat → Prop
  | .leaf s, b => w.heap[b]? = some (.cells (cellsOf s (.pointer none) (.pointer none) 0 (Lib.runeCount s) s.size) 52 (0, 0))
  | .node l r, b => ∃ bl br, w.heap[b]? = some (.cells (cellsOf ByteArray.empty (.pointer (some ⟨bl, 0, none⟩)) (.pointer (some ⟨br, 0, none⟩)) (T.node l r).h (T.node l r).runes (T.node l r).bytes) 52 (0, 0)) ∧ IsT w l bl ∧ IsT w r br
theorem IsT.below {w w1 : World} (hb : Below w.heap.size w w1) : ∀ {t : T} {b : Nat}, IsT w t b → IsT w1 t b
  | .leaf s, b, h => blk_below h hb
  | .node l r, b, ⟨bl, br, h, hl, hr⟩ => ⟨bl, br, blk_below h hb, hl.below hb, hr.below hb⟩
theorem IsT.lt {w : World} : ∀ {t : T} {b : Nat}, IsT w t b → b < w.heap.size
  | .leaf s, b, h => blk_lt h
  | .node l r, b, ⟨_, _, h, _, _⟩ => blk_lt h
/-- v is the rope t: nil where there is none. -/
def IsR (w : World) (v : Value) : Option T → Prop
  | none => v = .pointer none
  | some t => ∃ b, v = .pointer (some ⟨b, 0, none⟩) ∧ IsT w t b
theorem IsR.below {w w1 : World} (hb : Below w.heap.size w w1) {v : Value} {t : Option T} (h : IsR w v t) : IsR w1 v t := by
  cases t with
  | none => exact h
  | some t => obtain ⟨b, e, h⟩ := h; exact ⟨b, e, h.below hb⟩
/-- What a rope's own block holds. -/
theorem IsT.cells {w : World} {t : T} {b : Nat} (h : IsT w t b) : ∃ l r, w.heap[b]? = some (.cells (cellsOf t.text l r t.h t.runes t.bytes) 52 (0, 0)) := by
  cases t with
  | leaf s => exact ⟨_, _, h⟩
  | node l r => obtain ⟨bl, br, h, _, _⟩ := h; exact ⟨_, _, h⟩
theorem IsT.sides {w : World} {l r : T} {b : Nat} (h : IsT w (.node l r) b) : ∃ bl br, w.heap[b]? = some (.cells (cellsOf ByteArray.empty (.pointer (some ⟨bl, 0, none⟩)) (.pointer (some ⟨br, 0, none⟩)) (T.node l r).h (T.node l r).runes (T.node l r).bytes) 52 (0, 0)) ∧ IsT w l bl ∧ IsT w r br := h
/-- What a function that makes ropes leaves: a rope, and all that was there as it was. -/
def Ret (t : Option T) (w : World) (e : Ending) (w' : World) : Prop := ∃ v, e = .returned v ∧ IsR w' v t ∧ Below w.heap.size w w'
def RetT (t : T) (w : World) (e : Ending) (w' : World) : Prop := ∃ b, e = .returned (.pointer (some ⟨b, 0, none⟩)) ∧ IsT w' t b ∧ Below w.heap.size w w'
end Go.Proofs.YtdbdcnpajeflkaaDoor.Rope
