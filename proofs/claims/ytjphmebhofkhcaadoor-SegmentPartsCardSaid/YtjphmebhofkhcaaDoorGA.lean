/- Ropes: the trees that they are, and what it is for a value to be one in a memory. Plain definitions and how they move; no condition. -/
import Derived.Test.YtjphmebhofkhcaaDoorProg
import Derived.Test.YtjphmebhofkhcaaDoorWMore
import Derived.WalkSpells
import Derived.Lib.Hide
import Derived.Lib.RuneCountTail
import Derived.Deep.RegionHeld3
import Derived.StillTailTactics
import Derived.Laws.RangeAny
import Derived.Test.YtjphmebhofkhcaaDoorGShelf
namespace Go.Proofs.YtjphmebhofkhcaaDoor.Rope
open Go.RowKit Go.Proofs.YtjphmebhofkhcaaDoorW.PrintWords Go.Proofs.YtjphmebhofkhcaaDoorW.PrintLast Go.Proofs.YtjphmebhofkhcaaDoorW.PrintMore
set_option linter.unusedVariables false
set_option linter.unusedSimpArgs false
/-- A rope: a part, or two sides. -/
inductive T where
  | leaf (s : ByteArray)
  | node (l r : T)
namespace T
def h : T → Nat
  | leaf _ => 0
  | node l r => max l.h r.h + 1
def runes : T → Nat
  | leaf s => Lib.runeCount s
  | node l r => l.runes + r.runes
def bytes : T → Nat
  | leaf s => s.size
  | node l r => l.bytes + r.bytes
def parts : T → List ByteArray
  | leaf s => [s]
  | node l r => l.parts ++ r.parts
/-- No part is empty. -/
def Ne : T → Prop
  | leaf s => 0 < s.size
  | node l r => l.Ne ∧ r.Ne
theorem runes_le : ∀ t : T, t.runes ≤ t.bytes
  | leaf s => Lib.runeCount_le s
  | node l r => by have := runes_le l; have := runes_le r; simp only [runes, bytes]; omega
theorem h_lt : ∀ t : T, t.Ne → t.h < t.bytes
  | leaf s, hn => hn
  | node l r, hn => by have := h_lt l hn.1; have := h_lt r hn.2; simp only [h, bytes]; omega
/-- The text of a part; of sides none. -/
def text : T → ByteArray
  | leaf s => s
  | node _ _ => ByteArray.empty
end T
def two (left : Bool) (a b : T) : T := if left then .node b a else .node a b
/-- What rope.fix makes. -/
def fix (stays t : T) (left : Bool) : T :=
  if t.h ≤ stays.h + 1 then two left stays t else
  match t with
  | .leaf _ => two left stays t
  | .node tl tr =>
    if (if left then tr else tl).h ≤ (if left then tl else tr).h then two left (two left stays (if left then tr else tl)) (if left then tl else tr) else
    match (if left then tr else tl) with
    | .leaf _ => two left stays t
    | .node nl nr => two left (two left stays (if left then nr else nl)) (two left (if left then nl else nr) (if left then tl else tr))
/-- What rope.Join makes of two. -/
def join (a b : T) : T :=
  if a.h > b.h + 1 then
    match a with
    | .leaf _ => .node a b
    | .node al ar => fix al (join ar b) false
  else if b.h > a.h + 1 then
    match b with
    | .leaf _ => .node a b
    | .node bl br => fix br (join a bl) true
  else if a.h = 0 ∧ b.h = 0 ∧ a.bytes + b.bytes ≤ 64 then .leaf (a.text ++ b.text)
  else .node a b
termination_by a.h + b.h
decreasing_by all_goals (simp only [T.h]; omega)
/-- .. of none, too. -/
def joinO : Option T → Option T → Option T
  | none, b => b
  | some a, none => some a
  | some a, some b => some (join a b)
def runesO : Option T → Nat
  | none => 0
  | some t => t.runes
def bytesO : Option T → Nat
  | none => 0
  | some t => t.bytes
def partsO : Option T → List ByteArray
  | none => []
  | some t => t.parts
def NeO : Option T → Prop
  | none => True
  | some t => t.Ne
/-- The cells of a rope's block. -/
def cellsOf (s : ByteArray) (l r : Value) (h n b : Nat) : Array Value := #[.string s, l, r, .int .i64 (h : Int), .int .i64 (n : Int), .int .i64 (b : Int)]
/-- The block b holds the rope t (and others, its sides). -/
def IsT (w : World) : T → Nat → Prop
  | .leaf s, b => w.heap[b]? = some (.cells (cellsOf s (.pointer none) (.pointer none) 0 (Lib.runeCount s) s.size) 103 (0, 0))
  | .node l r, b => ∃ bl br, w.heap[b]? = some (.cells (cellsOf ByteArray.empty (.pointer (some ⟨bl, 0, none⟩)) (.pointer (some ⟨br, 0, none⟩)) (T.node l r).h (T.node l r).runes (T.node l r).bytes) 103 (0, 0)) ∧ IsT w l bl ∧ IsT w r br
theorem IsT.below {w w1 : World} (hb : Below w.heap.size w w1) : ∀ {t : T} {b : Nat}, IsT w t b → IsT w1 t b
  | .leaf s, b, h => blk_below h hb
  | .node l r, b, ⟨bl, br, h, hl, hr⟩ => ⟨bl, br, blk_below h hb, hl.below hb, hr.below hb⟩
theorem IsT.lt {w : World} : ∀ {t : T} {b : Nat}, IsT w t b → b < w.heap.size
  | .leaf s, b, h => blk_lt h
  | .node l r, b, ⟨_, _, h, _, _⟩ => blk_lt h
/-- v is the rope t: nil where there is none. -/
def IsR (w : World) (v : Value) : Option T → Prop
  | none => v = .pointer none
  | some t => ∃ b, v = .pointer (some ⟨b, 0, none⟩) ∧ IsT w t b
theorem IsR.below {w w1 : World} (hb : Below w.heap.size w w1) {v : Value} {t : Option T} (h : IsR w v t) : IsR w1 v t := by
  cases t with
  | none => exact h
  | some t => obtain ⟨b, e, h⟩ := h; exact ⟨b, e, h.below hb⟩
/-- What a rope's own block holds. -/
theorem IsT.cells {w : World} {t : T} {b : Nat} (h : IsT w t b) : ∃ l r, w.heap[b]? = some (.cells (cellsOf t.text l r t.h t.runes t.bytes) 103 (0, 0)) := by
  cases t with
  | leaf s => exact ⟨_, _, h⟩
  | node l r => obtain ⟨bl, br, h, _, _⟩ := h; exact ⟨_, _, h⟩
theorem IsT.sides {w : World} {l r : T} {b : Nat} (h : IsT w (.node l r) b) : ∃ bl br, w.heap[b]? = some (.cells (cellsOf ByteArray.empty (.pointer (some ⟨bl, 0, none⟩)) (.pointer (some ⟨br, 0, none⟩)) (T.node l r).h (T.node l r).runes (T.node l r).bytes) 103 (0, 0)) ∧ IsT w l bl ∧ IsT w r br := h
/-- What a function that makes ropes leaves: a rope, and all that was there as it was. -/
def Ret (t : Option T) (w : World) (e : Ending) (w' : World) : Prop := ∃ v, e = .returned v ∧ IsR w' v t ∧ Below w.heap.size w w'
def RetT (t : T) (w : World) (e : Ending) (w' : World) : Prop := ∃ b, e = .returned (.pointer (some ⟨b, 0, none⟩)) ∧ IsT w' t b ∧ Below w.heap.size w w'
end Go.Proofs.YtjphmebhofkhcaaDoor.Rope
/- The walks of letters.Count and letters.Byte: how many letters a text has, and where one begins. Conditions: texts of at most 2^62 bytes. -/
namespace Go.Proofs.YtjphmebhofkhcaaDoor.Rope
open Go.RowKit Go.Proofs.YtjphmebhofkhcaaDoorW.PrintWords Go.Proofs.YtjphmebhofkhcaaDoorW.PrintLast Go.Proofs.YtjphmebhofkhcaaDoorW.PrintMore
set_option linter.unusedVariables false
set_option linter.unusedSimpArgs false
theorem below_iter {B : Nat} {w : World} (s : ByteArray) (pos : Nat) : Below w.heap.size w (w.iter s pos) := (Below.refl _ _).alloc (Nat.le_refl _) _
set_option maxRecDepth 1000000 in
theorem letters_Count (s : ByteArray) (w : World) (hs : s.size ≤ 4611686018427387904) :
    Calls Tryd.prog 84 #[.string s] w fun e w' => e = .returned (.int .i64 (Lib.runeCount s : Nat)) ∧ Below w.heap.size w w' := by
  go_enter Tryd.func84, Tryd.ntmps84
  go_wp2
  go_loopw [3] (fun n w' => ∃ (pos b m : Nat), w' = w.iter s pos ∧ n = .int .i64 (m : Int) ∧ m + Lib.runeCountFrom s b pos = Lib.runeCount s ∧ s.size ≤ pos + b) (fun _ w' => s.size - w'.iterPos w.heap.size)
  case atStart => exact ⟨0, s.size, 0, rfl, rfl, by simp [Lib.runeCount], by omega⟩
  case round =>
    obtain ⟨pos, b, m, rfl, rfl, hc, hb⟩ := hrel
    have hle := Lib.runeCount_le s
    have hm1 : m ≤ s.size := by omega
    by_cases hp : pos < s.size
    · have hnx : ∀ ty, (Instr.next (.pointer (some ⟨w.heap.size, 0, none⟩)) true ty).run Tryd.prog (w.iter s pos) = _ := fun ty => run_next_any w s pos ty hp
      have HC := Lib.hid hc
      clear hc hle
      go_wp2
      have hwd := Lib.decode_width_pos s pos hp
      go_roundw
      case rel =>
        cases b with
        | zero => omega
        | succ b =>
          refine ⟨pos + (Utf8.decode s pos).2, b, m + 1, rfl, by go_num, ?_, by omega⟩
          have := HC.out
          rw [Lib.runeCountFrom, if_pos hp] at this
          omega
      case measure =>
        simp
        omega
    · have hnx : ∀ ty, (Instr.next (.pointer (some ⟨w.heap.size, 0, none⟩)) true ty).run Tryd.prog (w.iter s pos) = _ := fun ty => run_next_end w s pos ty hp
      have HC := Lib.hid hc
      clear hc hle
      go_wp2
      go_ret
      have := HC.out
      rw [Lib.runeCountFrom_end s b pos hp] at this
      refine ⟨?_, below_iter (B := 0) s pos⟩
      rw [← this]; rfl
/-- How many bytes are ahead of the k-th letter from pos on. -/
def byteFrom (s : ByteArray) : Nat → Nat → Nat → Nat
  | 0, _, _ => s.size
  | f + 1, k, pos => if pos < s.size then (if k = 0 then pos else byteFrom s f (k - 1) (pos + (Utf8.decode s pos).2)) else s.size
def byteAt (s : ByteArray) (at_ : Int) : Nat := if at_ ≤ 0 then 0 else byteFrom s s.size at_.toNat 0
set_option maxRecDepth 1000000 in
theorem letters_Byte (s : ByteArray) (at_ : Int) (w : World) (hs : s.size ≤ 4611686018427387904) :
    Calls Tryd.prog 89 #[.string s, .int .i64 at_] w fun e w' => e = .returned (.int .i64 (byteAt s at_ : Nat)) ∧ Below w.heap.size w w' := by
  by_cases h0 : at_ ≤ 0
  · go_enter Tryd.func89, Tryd.ntmps89
    go_wp2
    go_ret
    refine ⟨?_, Below.refl _ _⟩
    unfold byteAt; rw [if_pos h0]; rfl
  · obtain ⟨k0, rfl⟩ := Int.eq_ofNat_of_zero_le (show 0 ≤ at_ by omega)
    have hbd : decide ((k0 : Int) ≤ 0) = false := by simp; omega
    have hk0 : 0 < k0 := by omega
    have E : byteAt s (k0 : Int) = byteFrom s s.size k0 0 := by unfold byteAt; rw [if_neg h0, Int.toNat_natCast]
    rw [E]
    clear E h0
    go_enter Tryd.func89, Tryd.ntmps89
    go_wp2
    go_loopw [5] (fun n w' => ∃ (pos b m : Nat), w' = w.iter s pos ∧ n = .int .i64 (m : Int) ∧ m ≤ k0 ∧ m ≤ pos ∧ byteFrom s b (k0 - m) pos = byteFrom s s.size k0 0 ∧ s.size ≤ pos + b) (fun _ w' => s.size - w'.iterPos w.heap.size)
    case atStart => exact ⟨0, s.size, 0, rfl, rfl, by omega, by omega, rfl, by omega⟩
    case round =>
      obtain ⟨pos, b, m, rfl, rfl, hm, hmp, hc, hb⟩ := hrel
      by_cases hp : pos < s.size
      · have hnx : ∀ ty, (Instr.next (.pointer (some ⟨w.heap.size, 0, none⟩)) true ty).run Tryd.prog (w.iter s pos) = _ := fun ty => run_next_any w s pos ty hp
        have HC := Lib.hid hc
        clear hc
        by_cases hq : m = k0
        · have hqb : ((m : Int) == (k0 : Int)) = true := by simp [hq]
          have HQ := Lib.hid hq
          clear hq
          go_wp2
          go_ret
          refine ⟨?_, below_iter (B := 0) s _⟩
          have := HC.out
          cases b with
          | zero => omega
          | succ b =>
            rw [byteFrom, if_pos hp, if_pos (by have := HQ.out; omega)] at this
            rw [← this]; rfl
        · have hqb : ((m : Int) == (k0 : Int)) = false := by simp; omega
          have HQ := Lib.hid hq
          clear hq
          go_wp2
          have hwd := Lib.decode_width_pos s pos hp
          go_roundw
          case rel =>
            cases b with
            | zero => omega
            | succ b =>
              have hq := HQ.out
              refine ⟨pos + (Utf8.decode s pos).2, b, m + 1, rfl, by go_num, by omega, by omega, ?_, by omega⟩
              have := HC.out
              rw [byteFrom, if_pos hp, if_neg (by omega)] at this
              rw [show k0 - (m + 1) = k0 - m - 1 by omega]
              exact this
          case measure =>
            simp
            omega
      · have hnx : ∀ ty, (Instr.next (.pointer (some ⟨w.heap.size, 0, none⟩)) true ty).run Tryd.prog (w.iter s pos) = _ := fun ty => run_next_end w s pos ty hp
        have HC := Lib.hid hc
        clear hc
        go_wp2
        go_ret
        refine ⟨?_, below_iter (B := 0) s _⟩
        have := HC.out
        have e : byteFrom s b (k0 - m) pos = s.size := by cases b <;> simp [byteFrom, hp]
        rw [← this, e]; rfl
end Go.Proofs.YtjphmebhofkhcaaDoor.Rope
/- The walks of rope.leaf, node, fix and Join: what they make. Conditions: texts of at most 2^40 bytes. -/
namespace Go.Proofs.YtjphmebhofkhcaaDoor.Rope
open Go.RowKit Go.Proofs.YtjphmebhofkhcaaDoorW.PrintWords Go.Proofs.YtjphmebhofkhcaaDoorW.PrintLast Go.Proofs.YtjphmebhofkhcaaDoorW.PrintMore
set_option linter.unusedVariables false
set_option linter.unusedSimpArgs false
attribute [local go_sem] max2_int min2_int max_two min_two
theorem leaf_calls (s : ByteArray) (w : World) (hs : s.size ≤ 1099511627776) : Calls Tryd.prog 62 #[.string s] w (RetT (.leaf s) w) := by
  have hc : s.size ≤ 4611686018427387904 := by omega
  go_enter Tryd.func62, Tryd.ntmps62
  go_wp2_with (go_at_call 84; refine (letters_Count s _ hc).mono ?_; rintro e w1 ⟨rfl, hb⟩; have HB := Lib.hid hb; clear hb)
  go_ret
  exact ⟨_, rfl, blk_new w1 _, HB.out.alloc HB.out.size _⟩
set_option maxRecDepth 100000 in
theorem node_calls (l r : T) (bl br : Nat) (w : World) (hl : IsT w l bl) (hr : IsT w r br) (nl : l.Ne) (nr : r.Ne) (hs : l.bytes + r.bytes ≤ 1099511627776) :
    Calls Tryd.prog 91 #[.pointer (some ⟨bl, 0, none⟩), .pointer (some ⟨br, 0, none⟩)] w (RetT (.node l r) w) := by
  obtain ⟨la, lb, cl⟩ := hl.cells
  obtain ⟨ra, rb, cr⟩ := hr.cells
  have a3 : w.cell? ⟨bl, 3, none⟩ = some (.int .i64 (l.h : Int)) := blk_cell cl 3
  have a4 : w.cell? ⟨bl, 4, none⟩ = some (.int .i64 (l.runes : Int)) := blk_cell cl 4
  have a5 : w.cell? ⟨bl, 5, none⟩ = some (.int .i64 (l.bytes : Int)) := blk_cell cl 5
  have b3 : w.cell? ⟨br, 3, none⟩ = some (.int .i64 (r.h : Int)) := blk_cell cr 3
  have b4 : w.cell? ⟨br, 4, none⟩ = some (.int .i64 (r.runes : Int)) := blk_cell cr 4
  have b5 : w.cell? ⟨br, 5, none⟩ = some (.int .i64 (r.bytes : Int)) := blk_cell cr 5
  have i1 := l.h_lt nl
  have i2 := r.h_lt nr
  have i3 := l.runes_le
  have i4 := r.runes_le
  go_enter Tryd.func91, Tryd.ntmps91
  go_wp2
  go_still_tail 31, (by kernel_rfl)
  have hd : Below w.heap.size w w.drew := (Below.refl _ _).drew
  change wpList _ _ _ _ _ w.drew
  have HD := Lib.hid hd
  clear hd
  generalize w.drew = w2 at HD ⊢
  have e2 : ((T.node l r).runes : Int) = (l.runes : Int) + (r.runes : Int) := by simp only [T.runes]; omega
  have e3 : ((T.node l r).bytes : Int) = (l.bytes : Int) + (r.bytes : Int) := by simp only [T.bytes]; omega
  have E2 := Lib.hid e2
  have E3 := Lib.hid e3
  clear e2 e3
  go_wp2
  all_goals
    have e1 : ((T.node l r).h : Int) = ((if l.h < r.h then r.h else l.h : Nat) : Int) + 1 := by simp only [T.h]; split <;> omega
    go_ret
    refine ⟨_, rfl, ⟨bl, br, ?_, hl.below (HD.out.alloc HD.out.size _), hr.below (HD.out.alloc HD.out.size _)⟩, HD.out.alloc HD.out.size _⟩
    rw [blk_new, cellsOf, e1, E2.out, E3.out]
    first | rw [if_pos ‹l.h < r.h›] | rw [if_neg ‹¬ l.h < r.h›]
    rfl
set_option maxRecDepth 100000 in
theorem two_calls (left : Bool) (l r : T) (bl br c : Nat) (w : World) (hl : IsT w l bl) (hr : IsT w r br) (nl : l.Ne) (nr : r.Ne) (hs : l.bytes + r.bytes ≤ 1099511627776) (hc : w.cell? ⟨c, 0, none⟩ = some (.bool left)) :
    Calls Tryd.prog 104 #[.pointer (some ⟨bl, 0, none⟩), .pointer (some ⟨br, 0, none⟩), .pointer (some ⟨c, 0, none⟩)] w (RetT (two left l r) w) := by
  cases left
  · go_enter Tryd.func104, Tryd.ntmps104
    go_wp2_with (go_at_call 91; refine (node_calls l r bl br _ hl hr nl nr hs).mono ?_; rintro e w1 ⟨b, rfl, hb⟩)
    go_ret
    exact ⟨b, rfl, hb⟩
  · have hs' : r.bytes + l.bytes ≤ 1099511627776 := by omega
    go_enter Tryd.func104, Tryd.ntmps104
    go_wp2_with (go_at_call 91; refine (node_calls r l br bl _ hr hl nr nl hs').mono ?_; rintro e w1 ⟨b, rfl, hb⟩)
    go_ret
    exact ⟨b, rfl, hb⟩
end Go.Proofs.YtjphmebhofkhcaaDoor.Rope
/- The walks of rope.fix and rope.Join: the ropes that they make. Conditions: texts of at most 2^40 bytes. -/
namespace Go.Proofs.YtjphmebhofkhcaaDoor.Rope
open Go.RowKit Go.Proofs.YtjphmebhofkhcaaDoorW.PrintWords Go.Proofs.YtjphmebhofkhcaaDoorW.PrintLast Go.Proofs.YtjphmebhofkhcaaDoorW.PrintMore
set_option linter.unusedVariables false
set_option linter.unusedSimpArgs false
theorem two_Ne {left : Bool} {a b : T} (ha : a.Ne) (hb : b.Ne) : (two left a b).Ne := by cases left <;> exact ⟨‹_›, ‹_›⟩
theorem two_bytes (left : Bool) (a b : T) : (two left a b).bytes = a.bytes + b.bytes := by cases left <;> simp [two, T.bytes] <;> omega

set_option maxRecDepth 100000 in
theorem fix_false_1 (s t : T) (bs bt : Nat) (w : World) (hs : IsT w s bs) (ht : IsT w t bt) (ns : s.Ne) (nt : t.Ne) (hz : s.bytes + t.bytes ≤ 1099511627776) (h1 : t.h ≤ s.h + 1) :
    Calls Tryd.prog 90 #[.pointer (some ⟨bs, 0, none⟩), .pointer (some ⟨bt, 0, none⟩), .bool false] w (RetT (two false s t) w) := by
  obtain ⟨sa, sb, cs⟩ := hs.cells
  obtain ⟨ta, tb, ct⟩ := ht.cells
  have i1 := s.h_lt ns
  have i2 := t.h_lt nt
  go_enter Tryd.func90, Tryd.ntmps90
  go_upto_region 2 with (first | ((with_reducible refine gate_dst (N := 5) rfl ?_); refine box_event ?hg (N := 5) ?hd (cs := #[.bool false]) (t := 4) ?hr ?_; (case hd => rfl); (case hg => rfl); (case hr => first | (go_simp; done) | (go_simp; rfl)); intro g5 hg w1 hbox hb; have HB := Lib.hid hb; have HX := Lib.hid hbox; clear hb hbox hg))
  have x5 : w1.cell? ⟨g5, 0, none⟩ = some (.bool false) := (blk_cell HX.out 0).trans rfl
  have a1 : w1.cell? ⟨bt, 1, none⟩ = some ta := pw_cell_below HB.out (blk_cell ct 1)
  have a2 : w1.cell? ⟨bt, 2, none⟩ = some tb := pw_cell_below HB.out (blk_cell ct 2)
  have a3 : w1.cell? ⟨bt, 3, none⟩ = some (.int .i64 (t.h : Int)) := pw_cell_below HB.out (blk_cell ct 3)
  have b3 : w1.cell? ⟨bs, 3, none⟩ = some (.int .i64 (s.h : Int)) := pw_cell_below HB.out (blk_cell cs 3)
  have HS := Lib.hid (hs.below HB.out)
  have HT := Lib.hid (ht.below HB.out)
  clear hs ht cs ct
  go_quiet (fail)
  go_wp2
  have hd : decide ((t.h : Int) ≤ (s.h : Int) + 1) = true := by simp; omega
  have hw : IntKind.i64.wrap ((s.h : Int) + 1) = (s.h : Int) + 1 := IntWalk.i64_in _ (by omega)
  go_quiet (fail)
  clear hw
  go_wp2_with (go_at_call 104; refine (two_calls false s t bs bt g5 _ ?c1 ?c2 ns nt hz ?c3).mono ?_; (case c1 => exact HS.out.below (by repeat (first | exact Below.refl _ _ | apply pw_below_drewN))); (case c2 => exact HT.out.below (by repeat (first | exact Below.refl _ _ | apply pw_below_drewN))); (case c3 => go_simp); rintro e w2 ⟨b, rfl, hb, hB⟩; have HR := Lib.hid hb; have HB2 := Lib.hid hB; clear hb hB)
  go_ret
  exact ⟨b, rfl, HR.out, below_step (by repeat (first | exact HB.out | apply pw_below_drewN)) HB2.out⟩

set_option maxRecDepth 100000 in
theorem fix_false_2 (s tl tr : T) (bs bt : Nat) (w : World) (hs : IsT w s bs) (ht : IsT w (.node tl tr) bt) (ns : s.Ne) (nt : (T.node tl tr).Ne) (hz : s.bytes + (T.node tl tr).bytes ≤ 1099511627776) (h1 : ¬ (T.node tl tr).h ≤ s.h + 1) (h2 : tl.h ≤ tr.h) :
    Calls Tryd.prog 90 #[.pointer (some ⟨bs, 0, none⟩), .pointer (some ⟨bt, 0, none⟩), .bool false] w (RetT (two false (two false s tl) tr) w) := by
  obtain ⟨sa, sb, cs⟩ := hs.cells
  obtain ⟨bl, br, ct, hl, hr⟩ := ht.sides
  obtain ⟨la, lb, cl⟩ := hl.cells
  obtain ⟨ra, rb, cr⟩ := hr.cells
  have i1 := s.h_lt ns
  have i2 := (T.node tl tr).h_lt nt
  have i3 := tl.h_lt nt.1
  have i4 := tr.h_lt nt.2
  have z2 : (T.node tl tr).bytes = tl.bytes + tr.bytes := rfl
  have Z2 := Lib.hid z2
  have z3 : s.bytes + (tl.bytes + tr.bytes) ≤ 1099511627776 := hz
  clear z2
  generalize hth : (T.node tl tr).h = th at *
  generalize (T.node tl tr).runes = tn at *
  generalize (T.node tl tr).bytes = tz at *
  have HTH := Lib.hid hth
  clear hth
  go_enter Tryd.func90, Tryd.ntmps90
  go_upto_region 2 with (first | ((with_reducible refine gate_dst (N := 5) rfl ?_); refine box_event ?hg (N := 5) ?hd (cs := #[.bool false]) (t := 4) ?hr ?_; (case hd => rfl); (case hg => rfl); (case hr => first | (go_simp; done) | (go_simp; rfl)); intro g5 hg w1 hbox hb; have HB := Lib.hid hb; have HX := Lib.hid hbox; clear hb hbox hg))
  have x5 : w1.cell? ⟨g5, 0, none⟩ = some (.bool false) := (blk_cell HX.out 0).trans rfl
  have a1 : w1.cell? ⟨bt, 1, none⟩ = some (.pointer (some ⟨bl, 0, none⟩)) := pw_cell_below HB.out (blk_cell ct 1)
  have a2 : w1.cell? ⟨bt, 2, none⟩ = some (.pointer (some ⟨br, 0, none⟩)) := pw_cell_below HB.out (blk_cell ct 2)
  have a3 : w1.cell? ⟨bt, 3, none⟩ = some (.int .i64 (th : Int)) := pw_cell_below HB.out (blk_cell ct 3)
  have b3 : w1.cell? ⟨bs, 3, none⟩ = some (.int .i64 (s.h : Int)) := pw_cell_below HB.out (blk_cell cs 3)
  have l3 : w1.cell? ⟨bl, 3, none⟩ = some (.int .i64 (tl.h : Int)) := pw_cell_below HB.out (blk_cell cl 3)
  have r3 : w1.cell? ⟨br, 3, none⟩ = some (.int .i64 (tr.h : Int)) := pw_cell_below HB.out (blk_cell cr 3)
  have HS := Lib.hid (hs.below HB.out)
  have HL := Lib.hid (hl.below HB.out)
  have HR0 := Lib.hid (hr.below HB.out)
  clear hs ht cs ct cl cr hl hr
  go_quiet (fail)
  go_wp2
  have hd : decide ((th : Int) ≤ (s.h : Int) + 1) = false := by simp; omega
  have hw : IntKind.i64.wrap ((s.h : Int) + 1) = (s.h : Int) + 1 := IntWalk.i64_in _ (by omega)
  go_quiet (fail)
  clear hw
  go_wp2
  have hd2 : decide ((tl.h : Int) ≤ (tr.h : Int)) = true := by simp; omega
  go_quiet (fail)
  clear hd hd2
  have NX : Hid (two false s tl).Ne := two_Ne ns nt.1
  have ZX := Lib.hid (two_bytes false s tl)
  go_wp2_with fail
  (go_at_call 104; refine (two_calls false s tl bs bl g5 _ ?c1a ?c2a ns nt.1 (by omega) ?c3a).mono ?_; (case c1a => exact HS.out.below (by repeat (first | exact Below.refl _ _ | apply pw_below_drewN))); (case c2a => exact HL.out.below (by repeat (first | exact Below.refl _ _ | apply pw_below_drewN))); (case c3a => exact pw_cell_below (by repeat (first | exact Below.refl _ _ | apply pw_below_drewN)) x5); rintro e w2 ⟨bw2, rfl, hb, hB⟩; have HRw2 := Lib.hid hb; have HBw2 := Lib.hid hB; clear hb hB)
  go_wp2_with fail
  (go_at_call 104; refine (two_calls false (two false s tl) tr bw2 br g5 _ ?c1b ?c2b NX.out nt.2 (by have := ZX.out; omega) ?c3b).mono ?_; (case c1b => exact HRw2.out); (case c2b => exact HR0.out.below (below_step (by repeat (first | exact Below.refl _ _ | apply pw_below_drewN)) HBw2.out)); (case c3b => exact pw_cell_below (below_step (by repeat (first | exact Below.refl _ _ | apply pw_below_drewN)) HBw2.out) x5); rintro e w3 ⟨bw3, rfl, hb, hB⟩; have HRw3 := Lib.hid hb; have HBw3 := Lib.hid hB; clear hb hB)
  go_wp2
  go_ret
  exact ⟨bw3, rfl, HRw3.out, below_step (below_step (by repeat (first | exact HB.out | apply pw_below_drewN)) HBw2.out) HBw3.out⟩

set_option maxRecDepth 100000 in
theorem fix_false_3 (s nl nr tr : T) (bs bt : Nat) (w : World) (hs : IsT w s bs) (ht : IsT w (.node (.node nl nr) tr) bt) (ns : s.Ne) (nt : (T.node (.node nl nr) tr).Ne) (hz : s.bytes + (T.node (.node nl nr) tr).bytes ≤ 1099511627776) (h1 : ¬ (T.node (.node nl nr) tr).h ≤ s.h + 1) (h2 : ¬ (T.node nl nr).h ≤ tr.h) :
    Calls Tryd.prog 90 #[.pointer (some ⟨bs, 0, none⟩), .pointer (some ⟨bt, 0, none⟩), .bool false] w (RetT (two false (two false s nl) (two false nr tr)) w) := by
  obtain ⟨sa, sb, cs⟩ := hs.cells
  obtain ⟨bl, br, ct, hl, hr⟩ := ht.sides
  obtain ⟨bnl, bnr, cl, hnl, hnr⟩ := hl.sides
  obtain ⟨ra, rb, cr⟩ := hr.cells
  have i1 := s.h_lt ns
  have i2 := (T.node (.node nl nr) tr).h_lt nt
  have i3 := (T.node nl nr).h_lt nt.1
  have i4 := tr.h_lt nt.2
  have z2 : (T.node (.node nl nr) tr).bytes = (T.node nl nr).bytes + tr.bytes := rfl
  have Z2 := Lib.hid z2
  have z3 : s.bytes + ((T.node nl nr).bytes + tr.bytes) ≤ 1099511627776 := hz
  clear z2
  have z4 : (T.node nl nr).bytes = nl.bytes + nr.bytes := rfl
  generalize hnh : (T.node nl nr).h = nh at *
  have HNH := Lib.hid hnh
  clear hnh
  generalize hth : (T.node (.node nl nr) tr).h = th at *
  generalize (T.node (.node nl nr) tr).runes = tn at *
  generalize (T.node (.node nl nr) tr).bytes = tz at *
  have HTH := Lib.hid hth
  clear hth
  go_enter Tryd.func90, Tryd.ntmps90
  go_upto_region 2 with (first | ((with_reducible refine gate_dst (N := 5) rfl ?_); refine box_event ?hg (N := 5) ?hd (cs := #[.bool false]) (t := 4) ?hr ?_; (case hd => rfl); (case hg => rfl); (case hr => first | (go_simp; done) | (go_simp; rfl)); intro g5 hg w1 hbox hb; have HB := Lib.hid hb; have HX := Lib.hid hbox; clear hb hbox hg))
  have x5 : w1.cell? ⟨g5, 0, none⟩ = some (.bool false) := (blk_cell HX.out 0).trans rfl
  have a1 : w1.cell? ⟨bt, 1, none⟩ = some (.pointer (some ⟨bl, 0, none⟩)) := pw_cell_below HB.out (blk_cell ct 1)
  have a2 : w1.cell? ⟨bt, 2, none⟩ = some (.pointer (some ⟨br, 0, none⟩)) := pw_cell_below HB.out (blk_cell ct 2)
  have a3 : w1.cell? ⟨bt, 3, none⟩ = some (.int .i64 (th : Int)) := pw_cell_below HB.out (blk_cell ct 3)
  have b3 : w1.cell? ⟨bs, 3, none⟩ = some (.int .i64 (s.h : Int)) := pw_cell_below HB.out (blk_cell cs 3)
  have l3 : w1.cell? ⟨bl, 3, none⟩ = some (.int .i64 (nh : Int)) := pw_cell_below HB.out (blk_cell cl 3)
  have r3 : w1.cell? ⟨br, 3, none⟩ = some (.int .i64 (tr.h : Int)) := pw_cell_below HB.out (blk_cell cr 3)
  have n1 : w1.cell? ⟨bl, 1, none⟩ = some (.pointer (some ⟨bnl, 0, none⟩)) := pw_cell_below HB.out (blk_cell cl 1)
  have n2 : w1.cell? ⟨bl, 2, none⟩ = some (.pointer (some ⟨bnr, 0, none⟩)) := pw_cell_below HB.out (blk_cell cl 2)
  have HNL := Lib.hid (hnl.below HB.out)
  have HNR := Lib.hid (hnr.below HB.out)
  have Z4 := Lib.hid z4
  clear z4
  have HS := Lib.hid (hs.below HB.out)
  have HL := Lib.hid (hl.below HB.out)
  have HR0 := Lib.hid (hr.below HB.out)
  clear hs ht cs ct cl cr hl hr hnl hnr
  go_quiet (fail)
  go_wp2
  have hd : decide ((th : Int) ≤ (s.h : Int) + 1) = false := by simp; omega
  have hw : IntKind.i64.wrap ((s.h : Int) + 1) = (s.h : Int) + 1 := IntWalk.i64_in _ (by omega)
  go_quiet (fail)
  clear hw
  go_wp2
  have hd2 : decide ((nh : Int) ≤ (tr.h : Int)) = false := by simp; omega
  go_quiet (fail)
  clear hd hd2
  go_wp2
  go_quiet (fail)
  have NX : Hid (two false s nl).Ne := two_Ne ns nt.1.1
  have ZX := Lib.hid (two_bytes false s nl)
  have NY : Hid (two false nr tr).Ne := two_Ne nt.1.2 nt.2
  have ZY := Lib.hid (two_bytes false nr tr)
  have z5 : s.bytes + nl.bytes ≤ 1099511627776 := by have := Z4.out; omega
  have z6 : nr.bytes + tr.bytes ≤ 1099511627776 := by have := Z4.out; omega
  have z7 : (two false s nl).bytes + (two false nr tr).bytes ≤ 1099511627776 := by have := Z4.out; have := ZX.out; have := ZY.out; omega
  go_wp2_with fail
  (go_at_call 104; refine (two_calls false s nl bs bnl g5 _ ?c1a ?c2a ns nt.1.1 z5 ?c3a).mono ?_; (case c1a => exact HS.out.below (by repeat (first | exact Below.refl _ _ | apply pw_below_drewN))); (case c2a => exact HNL.out.below (by repeat (first | exact Below.refl _ _ | apply pw_below_drewN))); (case c3a => exact pw_cell_below (by repeat (first | exact Below.refl _ _ | apply pw_below_drewN)) x5); rintro e w2 ⟨bw2, rfl, hb, hB⟩; have HRw2 := Lib.hid hb; have HBw2 := Lib.hid hB; clear hb hB)
  go_wp2_with fail
  (go_at_call 104; refine (two_calls false nr tr bnr br g5 _ ?c1b ?c2b nt.1.2 nt.2 z6 ?c3b).mono ?_; (case c1b => exact HNR.out.below (below_step (by repeat (first | exact Below.refl _ _ | apply pw_below_drewN)) HBw2.out)); (case c2b => exact HR0.out.below (below_step (by repeat (first | exact Below.refl _ _ | apply pw_below_drewN)) HBw2.out)); (case c3b => exact pw_cell_below (below_step (by repeat (first | exact Below.refl _ _ | apply pw_below_drewN)) HBw2.out) x5); rintro e w3 ⟨bw3, rfl, hb, hB⟩; have HRw3 := Lib.hid hb; have HBw3 := Lib.hid hB; clear hb hB)
  go_wp2_with fail
  (go_at_call 104; refine (two_calls false (two false s nl) (two false nr tr) bw2 bw3 g5 _ ?c1c ?c2c NX.out NY.out z7 ?c3c).mono ?_; (case c1c => exact HRw2.out.below HBw3.out); (case c2c => exact HRw3.out); (case c3c => exact pw_cell_below (below_step (below_step (by repeat (first | exact Below.refl _ _ | apply pw_below_drewN)) HBw2.out) HBw3.out) x5); rintro e w4 ⟨bw4, rfl, hb, hB⟩; have HRw4 := Lib.hid hb; have HBw4 := Lib.hid hB; clear hb hB)
  go_wp2
  go_ret
  exact ⟨bw4, rfl, HRw4.out, below_step (below_step (below_step (by repeat (first | exact HB.out | apply pw_below_drewN)) HBw2.out) HBw3.out) HBw4.out⟩

set_option maxRecDepth 100000 in
theorem fix_true_1 (s t : T) (bs bt : Nat) (w : World) (hs : IsT w s bs) (ht : IsT w t bt) (ns : s.Ne) (nt : t.Ne) (hz : s.bytes + t.bytes ≤ 1099511627776) (h1 : t.h ≤ s.h + 1) :
    Calls Tryd.prog 90 #[.pointer (some ⟨bs, 0, none⟩), .pointer (some ⟨bt, 0, none⟩), .bool true] w (RetT (two true s t) w) := by
  obtain ⟨sa, sb, cs⟩ := hs.cells
  obtain ⟨ta, tb, ct⟩ := ht.cells
  have i1 := s.h_lt ns
  have i2 := t.h_lt nt
  go_enter Tryd.func90, Tryd.ntmps90
  go_upto_region 2 with (first | ((with_reducible refine gate_dst (N := 5) rfl ?_); refine box_event ?hg (N := 5) ?hd (cs := #[.bool true]) (t := 4) ?hr ?_; (case hd => rfl); (case hg => rfl); (case hr => first | (go_simp; done) | (go_simp; rfl)); intro g5 hg w1 hbox hb; have HB := Lib.hid hb; have HX := Lib.hid hbox; clear hb hbox hg))
  have x5 : w1.cell? ⟨g5, 0, none⟩ = some (.bool true) := (blk_cell HX.out 0).trans rfl
  have a1 : w1.cell? ⟨bt, 1, none⟩ = some ta := pw_cell_below HB.out (blk_cell ct 1)
  have a2 : w1.cell? ⟨bt, 2, none⟩ = some tb := pw_cell_below HB.out (blk_cell ct 2)
  have a3 : w1.cell? ⟨bt, 3, none⟩ = some (.int .i64 (t.h : Int)) := pw_cell_below HB.out (blk_cell ct 3)
  have b3 : w1.cell? ⟨bs, 3, none⟩ = some (.int .i64 (s.h : Int)) := pw_cell_below HB.out (blk_cell cs 3)
  have HS := Lib.hid (hs.below HB.out)
  have HT := Lib.hid (ht.below HB.out)
  clear hs ht cs ct
  go_quiet (fail)
  go_wp2
  have hd : decide ((t.h : Int) ≤ (s.h : Int) + 1) = true := by simp; omega
  have hw : IntKind.i64.wrap ((s.h : Int) + 1) = (s.h : Int) + 1 := IntWalk.i64_in _ (by omega)
  go_quiet (fail)
  clear hw
  go_wp2_with (go_at_call 104; refine (two_calls true s t bs bt g5 _ ?c1 ?c2 ns nt hz ?c3).mono ?_; (case c1 => exact HS.out.below (by repeat (first | exact Below.refl _ _ | apply pw_below_drewN))); (case c2 => exact HT.out.below (by repeat (first | exact Below.refl _ _ | apply pw_below_drewN))); (case c3 => go_simp); rintro e w2 ⟨b, rfl, hb, hB⟩; have HR := Lib.hid hb; have HB2 := Lib.hid hB; clear hb hB)
  go_ret
  exact ⟨b, rfl, HR.out, below_step (by repeat (first | exact HB.out | apply pw_below_drewN)) HB2.out⟩

set_option maxRecDepth 100000 in
theorem fix_true_2 (s tl tr : T) (bs bt : Nat) (w : World) (hs : IsT w s bs) (ht : IsT w (.node tl tr) bt) (ns : s.Ne) (nt : (T.node tl tr).Ne) (hz : s.bytes + (T.node tl tr).bytes ≤ 1099511627776) (h1 : ¬ (T.node tl tr).h ≤ s.h + 1) (h2 : tr.h ≤ tl.h) :
    Calls Tryd.prog 90 #[.pointer (some ⟨bs, 0, none⟩), .pointer (some ⟨bt, 0, none⟩), .bool true] w (RetT (two true (two true s tr) tl) w) := by
  obtain ⟨sa, sb, cs⟩ := hs.cells
  obtain ⟨bl, br, ct, hl, hr⟩ := ht.sides
  obtain ⟨la, lb, cl⟩ := hl.cells
  obtain ⟨ra, rb, cr⟩ := hr.cells
  have i1 := s.h_lt ns
  have i2 := (T.node tl tr).h_lt nt
  have i3 := tl.h_lt nt.1
  have i4 := tr.h_lt nt.2
  have z2 : (T.node tl tr).bytes = tl.bytes + tr.bytes := rfl
  have Z2 := Lib.hid z2
  have z3 : s.bytes + (tl.bytes + tr.bytes) ≤ 1099511627776 := hz
  clear z2
  generalize hth : (T.node tl tr).h = th at *
  generalize (T.node tl tr).runes = tn at *
  generalize (T.node tl tr).bytes = tz at *
  have HTH := Lib.hid hth
  clear hth
  go_enter Tryd.func90, Tryd.ntmps90
  go_upto_region 2 with (first | ((with_reducible refine gate_dst (N := 5) rfl ?_); refine box_event ?hg (N := 5) ?hd (cs := #[.bool true]) (t := 4) ?hr ?_; (case hd => rfl); (case hg => rfl); (case hr => first | (go_simp; done) | (go_simp; rfl)); intro g5 hg w1 hbox hb; have HB := Lib.hid hb; have HX := Lib.hid hbox; clear hb hbox hg))
  have x5 : w1.cell? ⟨g5, 0, none⟩ = some (.bool true) := (blk_cell HX.out 0).trans rfl
  have a1 : w1.cell? ⟨bt, 1, none⟩ = some (.pointer (some ⟨bl, 0, none⟩)) := pw_cell_below HB.out (blk_cell ct 1)
  have a2 : w1.cell? ⟨bt, 2, none⟩ = some (.pointer (some ⟨br, 0, none⟩)) := pw_cell_below HB.out (blk_cell ct 2)
  have a3 : w1.cell? ⟨bt, 3, none⟩ = some (.int .i64 (th : Int)) := pw_cell_below HB.out (blk_cell ct 3)
  have b3 : w1.cell? ⟨bs, 3, none⟩ = some (.int .i64 (s.h : Int)) := pw_cell_below HB.out (blk_cell cs 3)
  have l3 : w1.cell? ⟨bl, 3, none⟩ = some (.int .i64 (tl.h : Int)) := pw_cell_below HB.out (blk_cell cl 3)
  have r3 : w1.cell? ⟨br, 3, none⟩ = some (.int .i64 (tr.h : Int)) := pw_cell_below HB.out (blk_cell cr 3)
  have HS := Lib.hid (hs.below HB.out)
  have HL := Lib.hid (hl.below HB.out)
  have HR0 := Lib.hid (hr.below HB.out)
  clear hs ht cs ct cl cr hl hr
  go_quiet (fail)
  go_wp2
  have hd : decide ((th : Int) ≤ (s.h : Int) + 1) = false := by simp; omega
  have hw : IntKind.i64.wrap ((s.h : Int) + 1) = (s.h : Int) + 1 := IntWalk.i64_in _ (by omega)
  go_quiet (fail)
  clear hw
  go_wp2
  have hd2 : decide ((tr.h : Int) ≤ (tl.h : Int)) = true := by simp; omega
  go_quiet (fail)
  clear hd hd2
  have NX : Hid (two true s tr).Ne := two_Ne ns nt.2
  have ZX := Lib.hid (two_bytes true s tr)
  go_wp2_with fail
  (go_at_call 104; refine (two_calls true s tr bs br g5 _ ?c1a ?c2a ns nt.2 (by omega) ?c3a).mono ?_; (case c1a => exact HS.out.below (by repeat (first | exact Below.refl _ _ | apply pw_below_drewN))); (case c2a => exact HR0.out.below (by repeat (first | exact Below.refl _ _ | apply pw_below_drewN))); (case c3a => exact pw_cell_below (by repeat (first | exact Below.refl _ _ | apply pw_below_drewN)) x5); rintro e w2 ⟨bw2, rfl, hb, hB⟩; have HRw2 := Lib.hid hb; have HBw2 := Lib.hid hB; clear hb hB)
  go_wp2_with fail
  (go_at_call 104; refine (two_calls true (two true s tr) tl bw2 bl g5 _ ?c1b ?c2b NX.out nt.1 (by have := ZX.out; omega) ?c3b).mono ?_; (case c1b => exact HRw2.out); (case c2b => exact HL.out.below (below_step (by repeat (first | exact Below.refl _ _ | apply pw_below_drewN)) HBw2.out)); (case c3b => exact pw_cell_below (below_step (by repeat (first | exact Below.refl _ _ | apply pw_below_drewN)) HBw2.out) x5); rintro e w3 ⟨bw3, rfl, hb, hB⟩; have HRw3 := Lib.hid hb; have HBw3 := Lib.hid hB; clear hb hB)
  go_wp2
  go_ret
  exact ⟨bw3, rfl, HRw3.out, below_step (below_step (by repeat (first | exact HB.out | apply pw_below_drewN)) HBw2.out) HBw3.out⟩

set_option maxRecDepth 100000 in
theorem fix_true_3 (s nl nr tl : T) (bs bt : Nat) (w : World) (hs : IsT w s bs) (ht : IsT w (.node tl (.node nl nr)) bt) (ns : s.Ne) (nt : (T.node tl (.node nl nr)).Ne) (hz : s.bytes + (T.node tl (.node nl nr)).bytes ≤ 1099511627776) (h1 : ¬ (T.node tl (.node nl nr)).h ≤ s.h + 1) (h2 : ¬ (T.node nl nr).h ≤ tl.h) :
    Calls Tryd.prog 90 #[.pointer (some ⟨bs, 0, none⟩), .pointer (some ⟨bt, 0, none⟩), .bool true] w (RetT (two true (two true s nr) (two true nl tl)) w) := by
  obtain ⟨sa, sb, cs⟩ := hs.cells
  obtain ⟨bl, br, ct, hl, hr⟩ := ht.sides
  obtain ⟨la, lb, cl⟩ := hl.cells
  obtain ⟨bnl, bnr, cr, hnl, hnr⟩ := hr.sides
  have i1 := s.h_lt ns
  have i2 := (T.node tl (.node nl nr)).h_lt nt
  have i3 := tl.h_lt nt.1
  have i4 := (T.node nl nr).h_lt nt.2
  have z2 : (T.node tl (.node nl nr)).bytes = tl.bytes + (T.node nl nr).bytes := rfl
  have Z2 := Lib.hid z2
  have z3 : s.bytes + (tl.bytes + (T.node nl nr).bytes) ≤ 1099511627776 := hz
  clear z2
  have z4 : (T.node nl nr).bytes = nl.bytes + nr.bytes := rfl
  generalize hnh : (T.node nl nr).h = nh at *
  have HNH := Lib.hid hnh
  clear hnh
  generalize hth : (T.node tl (.node nl nr)).h = th at *
  generalize (T.node tl (.node nl nr)).runes = tn at *
  generalize (T.node tl (.node nl nr)).bytes = tz at *
  have HTH := Lib.hid hth
  clear hth
  go_enter Tryd.func90, Tryd.ntmps90
  go_upto_region 2 with (first | ((with_reducible refine gate_dst (N := 5) rfl ?_); refine box_event ?hg (N := 5) ?hd (cs := #[.bool true]) (t := 4) ?hr ?_; (case hd => rfl); (case hg => rfl); (case hr => first | (go_simp; done) | (go_simp; rfl)); intro g5 hg w1 hbox hb; have HB := Lib.hid hb; have HX := Lib.hid hbox; clear hb hbox hg))
  have x5 : w1.cell? ⟨g5, 0, none⟩ = some (.bool true) := (blk_cell HX.out 0).trans rfl
  have a1 : w1.cell? ⟨bt, 1, none⟩ = some (.pointer (some ⟨bl, 0, none⟩)) := pw_cell_below HB.out (blk_cell ct 1)
  have a2 : w1.cell? ⟨bt, 2, none⟩ = some (.pointer (some ⟨br, 0, none⟩)) := pw_cell_below HB.out (blk_cell ct 2)
  have a3 : w1.cell? ⟨bt, 3, none⟩ = some (.int .i64 (th : Int)) := pw_cell_below HB.out (blk_cell ct 3)
  have b3 : w1.cell? ⟨bs, 3, none⟩ = some (.int .i64 (s.h : Int)) := pw_cell_below HB.out (blk_cell cs 3)
  have l3 : w1.cell? ⟨bl, 3, none⟩ = some (.int .i64 (tl.h : Int)) := pw_cell_below HB.out (blk_cell cl 3)
  have r3 : w1.cell? ⟨br, 3, none⟩ = some (.int .i64 (nh : Int)) := pw_cell_below HB.out (blk_cell cr 3)
  have n1 : w1.cell? ⟨br, 1, none⟩ = some (.pointer (some ⟨bnl, 0, none⟩)) := pw_cell_below HB.out (blk_cell cr 1)
  have n2 : w1.cell? ⟨br, 2, none⟩ = some (.pointer (some ⟨bnr, 0, none⟩)) := pw_cell_below HB.out (blk_cell cr 2)
  have HNL := Lib.hid (hnl.below HB.out)
  have HNR := Lib.hid (hnr.below HB.out)
  have Z4 := Lib.hid z4
  clear z4
  have HS := Lib.hid (hs.below HB.out)
  have HL := Lib.hid (hl.below HB.out)
  have HR0 := Lib.hid (hr.below HB.out)
  clear hs ht cs ct cl cr hl hr hnl hnr
  go_quiet (fail)
  go_wp2
  have hd : decide ((th : Int) ≤ (s.h : Int) + 1) = false := by simp; omega
  have hw : IntKind.i64.wrap ((s.h : Int) + 1) = (s.h : Int) + 1 := IntWalk.i64_in _ (by omega)
  go_quiet (fail)
  clear hw
  go_wp2
  have hd2 : decide ((nh : Int) ≤ (tl.h : Int)) = false := by simp; omega
  go_quiet (fail)
  clear hd hd2
  go_wp2
  go_quiet (fail)
  have NX : Hid (two true s nr).Ne := two_Ne ns nt.2.2
  have ZX := Lib.hid (two_bytes true s nr)
  have NY : Hid (two true nl tl).Ne := two_Ne nt.2.1 nt.1
  have ZY := Lib.hid (two_bytes true nl tl)
  have z5 : s.bytes + nr.bytes ≤ 1099511627776 := by have := Z4.out; omega
  have z6 : nl.bytes + tl.bytes ≤ 1099511627776 := by have := Z4.out; omega
  have z7 : (two true s nr).bytes + (two true nl tl).bytes ≤ 1099511627776 := by have := Z4.out; have := ZX.out; have := ZY.out; omega
  go_wp2_with fail
  (go_at_call 104; refine (two_calls true s nr bs bnr g5 _ ?c1a ?c2a ns nt.2.2 z5 ?c3a).mono ?_; (case c1a => exact HS.out.below (by repeat (first | exact Below.refl _ _ | apply pw_below_drewN))); (case c2a => exact HNR.out.below (by repeat (first | exact Below.refl _ _ | apply pw_below_drewN))); (case c3a => exact pw_cell_below (by repeat (first | exact Below.refl _ _ | apply pw_below_drewN)) x5); rintro e w2 ⟨bw2, rfl, hb, hB⟩; have HRw2 := Lib.hid hb; have HBw2 := Lib.hid hB; clear hb hB)
  go_wp2_with fail
  (go_at_call 104; refine (two_calls true nl tl bnl bl g5 _ ?c1b ?c2b nt.2.1 nt.1 z6 ?c3b).mono ?_; (case c1b => exact HNL.out.below (below_step (by repeat (first | exact Below.refl _ _ | apply pw_below_drewN)) HBw2.out)); (case c2b => exact HL.out.below (below_step (by repeat (first | exact Below.refl _ _ | apply pw_below_drewN)) HBw2.out)); (case c3b => exact pw_cell_below (below_step (by repeat (first | exact Below.refl _ _ | apply pw_below_drewN)) HBw2.out) x5); rintro e w3 ⟨bw3, rfl, hb, hB⟩; have HRw3 := Lib.hid hb; have HBw3 := Lib.hid hB; clear hb hB)
  go_wp2_with fail
  (go_at_call 104; refine (two_calls true (two true s nr) (two true nl tl) bw2 bw3 g5 _ ?c1c ?c2c NX.out NY.out z7 ?c3c).mono ?_; (case c1c => exact HRw2.out.below HBw3.out); (case c2c => exact HRw3.out); (case c3c => exact pw_cell_below (below_step (below_step (by repeat (first | exact Below.refl _ _ | apply pw_below_drewN)) HBw2.out) HBw3.out) x5); rintro e w4 ⟨bw4, rfl, hb, hB⟩; have HRw4 := Lib.hid hb; have HBw4 := Lib.hid hB; clear hb hB)
  go_wp2
  go_ret
  exact ⟨bw4, rfl, HRw4.out, below_step (below_step (below_step (by repeat (first | exact HB.out | apply pw_below_drewN)) HBw2.out) HBw3.out) HBw4.out⟩

theorem fix_calls (s t : T) (left : Bool) (bs bt : Nat) (w : World) (hs : IsT w s bs) (ht : IsT w t bt) (ns : s.Ne) (nt : t.Ne) (hz : s.bytes + t.bytes ≤ 1099511627776) :
    Calls Tryd.prog 90 #[.pointer (some ⟨bs, 0, none⟩), .pointer (some ⟨bt, 0, none⟩), .bool left] w (RetT (fix s t left) w) := by
  by_cases h1 : t.h ≤ s.h + 1
  · have e : fix s t left = two left s t := by unfold fix; rw [if_pos h1]
    rw [e]
    cases left
    · exact fix_false_1 s t bs bt w hs ht ns nt hz h1
    · exact fix_true_1 s t bs bt w hs ht ns nt hz h1
  · cases t with
    | leaf x => exact absurd (Nat.zero_le _) h1
    | node tl tr =>
      cases left
      · by_cases h2 : tl.h ≤ tr.h
        · have e : fix s (.node tl tr) false = two false (two false s tl) tr := by unfold fix; rw [if_neg h1]; simp only [Bool.false_eq_true, if_false]; rw [if_pos h2]
          rw [e]
          exact fix_false_2 s tl tr bs bt w hs ht ns nt hz h1 h2
        · cases tl with
          | leaf x => exact absurd (Nat.zero_le _) h2
          | node nl nr =>
            have e : fix s (.node (.node nl nr) tr) false = two false (two false s nl) (two false nr tr) := by unfold fix; rw [if_neg h1]; simp only [Bool.false_eq_true, if_false]; rw [if_neg h2]
            rw [e]
            exact fix_false_3 s nl nr tr bs bt w hs ht ns nt hz h1 h2
      · by_cases h2 : tr.h ≤ tl.h
        · have e : fix s (.node tl tr) true = two true (two true s tr) tl := by unfold fix; rw [if_neg h1]; simp only [if_true]; rw [if_pos h2]
          rw [e]
          exact fix_true_2 s tl tr bs bt w hs ht ns nt hz h1 h2
        · cases tr with
          | leaf x => exact absurd (Nat.zero_le _) h2
          | node nl nr =>
            have e : fix s (.node tl (.node nl nr)) true = two true (two true s nr) (two true nl tl) := by unfold fix; rw [if_neg h1]; simp only [if_true]; rw [if_neg h2]
            rw [e]
            exact fix_true_3 s nl nr tl bs bt w hs ht ns nt hz h1 h2

end Go.Proofs.YtjphmebhofkhcaaDoor.Rope
/- The walk of rope.Join: the rope that it makes of two. Conditions: texts of at most 2^40 bytes. -/
namespace Go.Proofs.YtjphmebhofkhcaaDoor.Rope
open Go.RowKit Go.Proofs.YtjphmebhofkhcaaDoorW.PrintWords Go.Proofs.YtjphmebhofkhcaaDoorW.PrintLast Go.Proofs.YtjphmebhofkhcaaDoorW.PrintMore
set_option linter.unusedVariables false
set_option linter.unusedSimpArgs false
theorem fix_cases (s t : T) (left : Bool) : (t.h ≤ s.h + 1 ∧ fix s t left = two left s t) ∨
    (∃ near far, t = two left near far ∧ ¬ t.h ≤ s.h + 1 ∧ near.h ≤ far.h ∧ fix s t left = two left (two left s near) far) ∨
    (∃ inner outer far, t = two left (two left inner outer) far ∧ ¬ t.h ≤ s.h + 1 ∧ ¬ (two left inner outer).h ≤ far.h ∧ fix s t left = two left (two left s inner) (two left outer far)) := by
  by_cases h1 : t.h ≤ s.h + 1
  · exact .inl ⟨h1, by unfold fix; rw [if_pos h1]⟩
  · refine .inr ?_
    cases t with
    | leaf x => exact absurd (Nat.zero_le _) h1
    | node tl tr =>
      cases left
      · by_cases h2 : tl.h ≤ tr.h
        · exact .inl ⟨tl, tr, rfl, h1, h2, by unfold fix; rw [if_neg h1]; simp only [Bool.false_eq_true, if_false]; rw [if_pos h2]⟩
        · cases tl with
          | leaf x => exact absurd (Nat.zero_le _) h2
          | node nl nr => exact .inr ⟨nl, nr, tr, rfl, h1, h2, by unfold fix; rw [if_neg h1]; simp only [Bool.false_eq_true, if_false]; rw [if_neg h2]⟩
      · by_cases h2 : tr.h ≤ tl.h
        · exact .inl ⟨tr, tl, rfl, h1, h2, by unfold fix; rw [if_neg h1]; simp only [if_true]; rw [if_pos h2]⟩
        · cases tr with
          | leaf x => exact absurd (Nat.zero_le _) h2
          | node nl nr => exact .inr ⟨nr, nl, tl, rfl, h1, h2, by unfold fix; rw [if_neg h1]; simp only [if_true]; rw [if_neg h2]⟩
theorem two_Ne_inv {left : Bool} {a b : T} (h : (two left a b).Ne) : a.Ne ∧ b.Ne := by cases left; exact ⟨h.1, h.2⟩; exact ⟨h.2, h.1⟩
theorem fix_Ne {s t : T} {left : Bool} (hs : s.Ne) (ht : t.Ne) : (fix s t left).Ne := by
  rcases fix_cases s t left with ⟨_, e⟩ | ⟨n, f, rfl, _, _, e⟩ | ⟨n, o, f, rfl, _, _, e⟩ <;> rw [e]
  · exact two_Ne hs ht
  · have h := two_Ne_inv ht; exact two_Ne (two_Ne hs h.1) h.2
  · have h := two_Ne_inv ht; have k := two_Ne_inv h.1; exact two_Ne (two_Ne hs k.1) (two_Ne k.2 h.2)
theorem fix_bytes (s t : T) (left : Bool) : (fix s t left).bytes = s.bytes + t.bytes := by
  rcases fix_cases s t left with ⟨_, e⟩ | ⟨n, f, rfl, _, _, e⟩ | ⟨n, o, f, rfl, _, _, e⟩ <;> rw [e] <;> simp only [two_bytes] <;> omega
theorem join_both (n : Nat) : ∀ a b : T, a.h + b.h ≤ n → (join a b).bytes = a.bytes + b.bytes ∧ (a.Ne → b.Ne → (join a b).Ne) := by
  induction n with
  | zero =>
    intro a b h
    rw [join.eq_def, if_neg (by omega), if_neg (by omega)]
    cases a with
    | node => simp [T.h] at h
    | leaf x => cases b with
      | node => simp [T.h] at h
      | leaf y =>
        split
        · exact ⟨by simp [T.bytes, T.text], fun h1 h2 => by simp only [T.Ne, T.text, ByteArray.size_append] at *; omega⟩
        · exact ⟨rfl, fun h1 h2 => ⟨h1, h2⟩⟩
  | succ n ih =>
    intro a b h
    rw [join.eq_def]
    split
    · cases a with
      | leaf x => exact ⟨rfl, fun h1 h2 => ⟨h1, h2⟩⟩
      | node al ar =>
        have k := ih ar b (by simp only [T.h] at h; omega)
        exact ⟨by rw [fix_bytes, k.1]; simp only [T.bytes]; omega, fun h1 h2 => fix_Ne h1.1 (k.2 h1.2 h2)⟩
    · split
      · cases b with
        | leaf x => exact ⟨rfl, fun h1 h2 => ⟨h1, h2⟩⟩
        | node bl br =>
          have k := ih a bl (by simp only [T.h] at h; omega)
          exact ⟨by rw [fix_bytes, k.1]; simp only [T.bytes]; omega, fun h1 h2 => fix_Ne h2.2 (k.2 h1 h2.1)⟩
      · split
        · rename_i h0
          cases a with
          | node => simp [T.h] at h0
          | leaf x => cases b with
            | node => simp [T.h] at h0
            | leaf y => exact ⟨by simp [T.bytes, T.text], fun h1 h2 => by simp only [T.Ne, T.text, ByteArray.size_append] at *; omega⟩
        · exact ⟨rfl, fun h1 h2 => ⟨h1, h2⟩⟩
theorem join_bytes (a b : T) : (join a b).bytes = a.bytes + b.bytes := (join_both _ a b (Nat.le_refl _)).1
theorem join_Ne {a b : T} (ha : a.Ne) (hb : b.Ne) : (join a b).Ne := (join_both _ a b (Nat.le_refl _)).2 ha hb
theorem gen_world {φ : World → Prop} {w W0 : World} (h : Below w.heap.size w W0) (k : ∀ W, Below w.heap.size w W → φ W) : φ W0 := k W0 h
/-- What holds all along a statement that reads two cells and makes ropes. -/
abbrev JS (w : World) (p q : Addr) (u v : Value) (w' : World) : Prop := w'.cell? p = some u ∧ w'.cell? q = some v ∧ Below w.heap.size w w'
theorem JS.b {w W : World} {p q : Addr} {u v : Value} (h : JS w p q u v W) : Below w.heap.size w W := h.2.2
theorem JS.next {w W W' : World} {p q : Addr} {u v : Value} (h : JS w p q u v W) (hb : Below W.heap.size W W') : JS w p q u v W' :=
  ⟨pw_cell_below hb h.1, pw_cell_below hb h.2.1, below_then h.2.2 h.2.2.size hb⟩

set_option maxRecDepth 100000 in
theorem join_flat_1 (a b : T) (ba bb : Nat) (w : World) (ha : IsT w a ba) (hb : IsT w b bb) (na : a.Ne) (nb : b.Ne) (hz : a.bytes + b.bytes ≤ 1099511627776) (h1 : ¬ a.h > b.h + 1) (h2 : ¬ b.h > a.h + 1) (h3 : a.h ≠ 0) :
    Calls Tryd.prog 71 #[.pointer (some ⟨ba, 0, none⟩), .pointer (some ⟨bb, 0, none⟩)] w (RetT (.node a b) w) := by
  obtain ⟨la, lb, ca⟩ := ha.cells
  obtain ⟨ra, rb, cb⟩ := hb.cells
  have a3 : w.cell? ⟨ba, 3, none⟩ = some (.int .i64 (a.h : Int)) := blk_cell ca 3
  have b3 : w.cell? ⟨bb, 3, none⟩ = some (.int .i64 (b.h : Int)) := blk_cell cb 3
  have a5 : w.cell? ⟨ba, 5, none⟩ = some (.int .i64 (a.bytes : Int)) := blk_cell ca 5
  have b5 : w.cell? ⟨bb, 5, none⟩ = some (.int .i64 (b.bytes : Int)) := blk_cell cb 5
  have a0 : w.cell? ⟨ba, 0, none⟩ = some (.string a.text) := blk_cell ca 0
  have b0 : w.cell? ⟨bb, 0, none⟩ = some (.string b.text) := blk_cell cb 0
  have i1 := a.h_lt na
  have i2 := b.h_lt nb
  have d1 : decide ((b.h : Int) + 1 < (a.h : Int)) = false := by simp; omega
  have d2 : decide ((a.h : Int) + 1 < (b.h : Int)) = false := by simp; omega
  have d3 : ((a.h : Int) == 0) = false := by simp; omega

  have w1a : IntKind.i64.wrap ((a.h : Int) + 1) = (a.h : Int) + 1 := IntWalk.i64_in _ (by omega)
  have w1b : IntKind.i64.wrap ((b.h : Int) + 1) = (b.h : Int) + 1 := IntWalk.i64_in _ (by omega)
  clear ca cb
  go_enter Tryd.func71, Tryd.ntmps71
  go_wp2
  go_quiet (fail)
  go_wp2
  go_quiet (fail)
  go_wp2
  go_quiet (fail)
  clear w1a w1b
  go_wp2_with fail
  (go_at_call 91; refine (node_calls a b ba bb _ ?c1 ?c2 na nb hz).mono ?_; (case c1 => exact ha.below (by repeat (first | exact Below.refl _ _ | apply pw_below_drewN | apply Below.drew))); (case c2 => exact hb.below (by repeat (first | exact Below.refl _ _ | apply pw_below_drewN | apply Below.drew))); rintro e w2 ⟨b2, rfl, hr, hB⟩; have HR := Lib.hid hr; have HB := Lib.hid hB; clear hr hB)
  go_wp2
  go_ret
  exact ⟨b2, rfl, HR.out, below_step (by repeat (first | exact Below.refl _ _ | apply pw_below_drewN | apply Below.drew)) HB.out⟩

set_option maxRecDepth 100000 in
theorem join_flat_2 (a b : T) (ba bb : Nat) (w : World) (ha : IsT w a ba) (hb : IsT w b bb) (na : a.Ne) (nb : b.Ne) (hz : a.bytes + b.bytes ≤ 1099511627776) (h1 : ¬ a.h > b.h + 1) (h2 : ¬ b.h > a.h + 1) (h3 : a.h = 0) (h4 : b.h ≠ 0) :
    Calls Tryd.prog 71 #[.pointer (some ⟨ba, 0, none⟩), .pointer (some ⟨bb, 0, none⟩)] w (RetT (.node a b) w) := by
  obtain ⟨la, lb, ca⟩ := ha.cells
  obtain ⟨ra, rb, cb⟩ := hb.cells
  have a3 : w.cell? ⟨ba, 3, none⟩ = some (.int .i64 (a.h : Int)) := blk_cell ca 3
  have b3 : w.cell? ⟨bb, 3, none⟩ = some (.int .i64 (b.h : Int)) := blk_cell cb 3
  have a5 : w.cell? ⟨ba, 5, none⟩ = some (.int .i64 (a.bytes : Int)) := blk_cell ca 5
  have b5 : w.cell? ⟨bb, 5, none⟩ = some (.int .i64 (b.bytes : Int)) := blk_cell cb 5
  have a0 : w.cell? ⟨ba, 0, none⟩ = some (.string a.text) := blk_cell ca 0
  have b0 : w.cell? ⟨bb, 0, none⟩ = some (.string b.text) := blk_cell cb 0
  have i1 := a.h_lt na
  have i2 := b.h_lt nb
  have d1 : decide ((b.h : Int) + 1 < (a.h : Int)) = false := by simp; omega
  have d2 : decide ((a.h : Int) + 1 < (b.h : Int)) = false := by simp; omega
  have d3 : ((a.h : Int) == 0) = true := by simp; omega
  have d4 : ((b.h : Int) == 0) = false := by simp; omega
  have H3 := Lib.hid h3; clear h3
  have w1a : IntKind.i64.wrap ((a.h : Int) + 1) = (a.h : Int) + 1 := IntWalk.i64_in _ (by omega)
  have w1b : IntKind.i64.wrap ((b.h : Int) + 1) = (b.h : Int) + 1 := IntWalk.i64_in _ (by omega)
  clear ca cb
  go_enter Tryd.func71, Tryd.ntmps71
  go_wp2
  go_quiet (fail)
  go_wp2
  go_quiet (fail)
  go_wp2
  go_quiet (fail)
  clear w1a w1b
  go_wp2_with fail
  (go_at_call 91; refine (node_calls a b ba bb _ ?c1 ?c2 na nb hz).mono ?_; (case c1 => exact ha.below (by repeat (first | exact Below.refl _ _ | apply pw_below_drewN | apply Below.drew))); (case c2 => exact hb.below (by repeat (first | exact Below.refl _ _ | apply pw_below_drewN | apply Below.drew))); rintro e w2 ⟨b2, rfl, hr, hB⟩; have HR := Lib.hid hr; have HB := Lib.hid hB; clear hr hB)
  go_wp2
  go_ret
  exact ⟨b2, rfl, HR.out, below_step (by repeat (first | exact Below.refl _ _ | apply pw_below_drewN | apply Below.drew)) HB.out⟩

set_option maxRecDepth 100000 in
theorem join_flat_3 (a b : T) (ba bb : Nat) (w : World) (ha : IsT w a ba) (hb : IsT w b bb) (na : a.Ne) (nb : b.Ne) (hz : a.bytes + b.bytes ≤ 1099511627776) (h1 : ¬ a.h > b.h + 1) (h2 : ¬ b.h > a.h + 1) (h3 : a.h = 0) (h4 : b.h = 0) (h5 : ¬ a.bytes + b.bytes ≤ 64) :
    Calls Tryd.prog 71 #[.pointer (some ⟨ba, 0, none⟩), .pointer (some ⟨bb, 0, none⟩)] w (RetT (.node a b) w) := by
  obtain ⟨la, lb, ca⟩ := ha.cells
  obtain ⟨ra, rb, cb⟩ := hb.cells
  have a3 : w.cell? ⟨ba, 3, none⟩ = some (.int .i64 (a.h : Int)) := blk_cell ca 3
  have b3 : w.cell? ⟨bb, 3, none⟩ = some (.int .i64 (b.h : Int)) := blk_cell cb 3
  have a5 : w.cell? ⟨ba, 5, none⟩ = some (.int .i64 (a.bytes : Int)) := blk_cell ca 5
  have b5 : w.cell? ⟨bb, 5, none⟩ = some (.int .i64 (b.bytes : Int)) := blk_cell cb 5
  have a0 : w.cell? ⟨ba, 0, none⟩ = some (.string a.text) := blk_cell ca 0
  have b0 : w.cell? ⟨bb, 0, none⟩ = some (.string b.text) := blk_cell cb 0
  have i1 := a.h_lt na
  have i2 := b.h_lt nb
  have d1 : decide ((b.h : Int) + 1 < (a.h : Int)) = false := by simp; omega
  have d2 : decide ((a.h : Int) + 1 < (b.h : Int)) = false := by simp; omega
  have d3 : ((a.h : Int) == 0) = true := by simp; omega
  have d4 : ((b.h : Int) == 0) = true := by simp; omega
  have w5 : IntKind.i64.wrap ((a.bytes : Int) + (b.bytes : Int)) = (a.bytes : Int) + (b.bytes : Int) := IntWalk.i64_in _ (by omega)
  have d5 : decide ((a.bytes : Int) + (b.bytes : Int) ≤ 64) = false := by simp; omega
  have H3 := Lib.hid h3; clear h3; have H4 := Lib.hid h4; clear h4
  have w1a : IntKind.i64.wrap ((a.h : Int) + 1) = (a.h : Int) + 1 := IntWalk.i64_in _ (by omega)
  have w1b : IntKind.i64.wrap ((b.h : Int) + 1) = (b.h : Int) + 1 := IntWalk.i64_in _ (by omega)
  clear ca cb
  go_enter Tryd.func71, Tryd.ntmps71
  go_wp2
  go_quiet (fail)
  go_wp2
  go_quiet (fail)
  go_wp2
  go_quiet (fail)
  clear w1a w1b
  go_wp2_with fail
  (go_at_call 91; refine (node_calls a b ba bb _ ?c1 ?c2 na nb hz).mono ?_; (case c1 => exact ha.below (by repeat (first | exact Below.refl _ _ | apply pw_below_drewN | apply Below.drew))); (case c2 => exact hb.below (by repeat (first | exact Below.refl _ _ | apply pw_below_drewN | apply Below.drew))); rintro e w2 ⟨b2, rfl, hr, hB⟩; have HR := Lib.hid hr; have HB := Lib.hid hB; clear hr hB)
  go_wp2
  go_ret
  exact ⟨b2, rfl, HR.out, below_step (by repeat (first | exact Below.refl _ _ | apply pw_below_drewN | apply Below.drew)) HB.out⟩

set_option maxRecDepth 100000 in
theorem join_leaf (a b : T) (ba bb : Nat) (w : World) (ha : IsT w a ba) (hb : IsT w b bb) (na : a.Ne) (nb : b.Ne) (hz : a.bytes + b.bytes ≤ 1099511627776) (h1 : ¬ a.h > b.h + 1) (h2 : ¬ b.h > a.h + 1) (h3 : a.h = 0) (h4 : b.h = 0) (h5 : a.bytes + b.bytes ≤ 64) :
    Calls Tryd.prog 71 #[.pointer (some ⟨ba, 0, none⟩), .pointer (some ⟨bb, 0, none⟩)] w (RetT (.leaf (a.text ++ b.text)) w) := by
  obtain ⟨la, lb, ca⟩ := ha.cells
  obtain ⟨ra, rb, cb⟩ := hb.cells
  have a3 : w.cell? ⟨ba, 3, none⟩ = some (.int .i64 (a.h : Int)) := blk_cell ca 3
  have b3 : w.cell? ⟨bb, 3, none⟩ = some (.int .i64 (b.h : Int)) := blk_cell cb 3
  have a5 : w.cell? ⟨ba, 5, none⟩ = some (.int .i64 (a.bytes : Int)) := blk_cell ca 5
  have b5 : w.cell? ⟨bb, 5, none⟩ = some (.int .i64 (b.bytes : Int)) := blk_cell cb 5
  have a0 : w.cell? ⟨ba, 0, none⟩ = some (.string a.text) := blk_cell ca 0
  have b0 : w.cell? ⟨bb, 0, none⟩ = some (.string b.text) := blk_cell cb 0
  have i1 := a.h_lt na
  have i2 := b.h_lt nb
  have d1 : decide ((b.h : Int) + 1 < (a.h : Int)) = false := by simp; omega
  have d2 : decide ((a.h : Int) + 1 < (b.h : Int)) = false := by simp; omega
  have d3 : ((a.h : Int) == 0) = true := by simp; omega
  have d4 : ((b.h : Int) == 0) = true := by simp; omega
  have w5 : IntKind.i64.wrap ((a.bytes : Int) + (b.bytes : Int)) = (a.bytes : Int) + (b.bytes : Int) := IntWalk.i64_in _ (by omega)
  have d5 : decide ((a.bytes : Int) + (b.bytes : Int) ≤ 64) = true := by simp; omega
  have hlen : (a.text ++ b.text).size ≤ 1099511627776 := by
    cases a with
    | node => simp [T.h] at h3
    | leaf x => cases b with
      | node => simp [T.h] at h4
      | leaf y => simp only [T.text, T.bytes, ByteArray.size_append] at *; omega
  have hlen2 : a.text.size + b.text.size ≤ 9223372036854775807 := by have := ByteArray.size_append (a := a.text) (b := b.text); omega
  have hlen3 : ¬ (9223372036854775807 < a.text.size + b.text.size) := by omega
  have H3 := Lib.hid h3; clear h3; have H4 := Lib.hid h4; clear h4
  have w1a : IntKind.i64.wrap ((a.h : Int) + 1) = (a.h : Int) + 1 := IntWalk.i64_in _ (by omega)
  have w1b : IntKind.i64.wrap ((b.h : Int) + 1) = (b.h : Int) + 1 := IntWalk.i64_in _ (by omega)
  clear ca cb
  go_enter Tryd.func71, Tryd.ntmps71
  go_wp2
  go_quiet (fail)
  go_wp2
  go_quiet (fail)
  go_wp2
  go_quiet (fail)
  clear w1a w1b w5
  go_wp2
  refine gen_world (φ := fun W => Code.wp _ _ _ _ W) (w := w) (by repeat (first | exact Below.refl _ _ | apply pw_below_drewN | apply Below.drew)) ?_
  intro W hBW
  have QS := Lib.hid (show JS w ⟨ba, 0, none⟩ ⟨bb, 0, none⟩ (.string a.text) (.string b.text) W from ⟨pw_cell_below hBW a0, pw_cell_below hBW b0, hBW⟩)
  clear hBW a0 b0 a3 b3 a5 b5
  go_region_held3 (fun w' => JS w ⟨ba, 0, none⟩ ⟨bb, 0, none⟩ (.string a.text) (.string b.text) w')
    (first | assumption | exact HS3.out | exact HS2.out | exact QS.out.next (by repeat (first | exact Below.refl _ _ | apply pw_below_drewN | apply Below.drew)))
    (first
      | (go_at_call 62; (refine (leaf_calls _ _ hlen).mono ?_); rintro e w2 ⟨b2, rfl, hr, hB⟩; have HS2 := Lib.hid (JS.next (w := w) (p := ⟨ba, 0, none⟩) (q := ⟨bb, 0, none⟩) (u := .string a.text) (v := .string b.text) (by assumption) hB); have HR := Lib.hid hr; clear hr hB))
  all_goals
    go_wp2
    go_ret
    exact ⟨b2, rfl, HR.out, HS2.out.2.2⟩

set_option maxRecDepth 100000 in
set_option maxHeartbeats 1000000 in
theorem join_a (al ar b : T) (ba bb : Nat) (w : World) (ha : IsT w (.node al ar) ba) (hb : IsT w b bb) (na : (T.node al ar).Ne) (nb : b.Ne) (hz : (T.node al ar).bytes + b.bytes ≤ 1099511627776) (h1 : (T.node al ar).h > b.h + 1) (ih : ∀ (b1 b2 : Nat) (W : World), IsT W ar b1 → IsT W b b2 → Calls Tryd.prog 71 #[.pointer (some ⟨b1, 0, none⟩), .pointer (some ⟨b2, 0, none⟩)] W (RetT (join ar b) W)) :
    Calls Tryd.prog 71 #[.pointer (some ⟨ba, 0, none⟩), .pointer (some ⟨bb, 0, none⟩)] w (RetT (fix al (join ar b) false) w) := by
  obtain ⟨b1, b2, cB, hx, hy⟩ := ha.sides
  obtain ⟨ra, rb, cO⟩ := hb.cells
  have i1 := (T.node al ar).h_lt na
  have i2 := b.h_lt nb
  have ZJ := Lib.hid (join_bytes ar b)
  have NJ : Hid (join ar b).Ne := (join_Ne na.2 nb)
  have NS : Hid al.Ne := na.1
  have zz : (T.node al ar).bytes = al.bytes + ar.bytes := rfl
  have ZF : Hid (al.bytes + (join ar b).bytes ≤ 1099511627776) := by show _ ≤ _; rw [join_bytes]; omega
  clear zz
  generalize hth : (T.node al ar).h = th at *
  generalize hoh : b.h = oh at *
  generalize (T.node al ar).runes = tn at *
  generalize (T.node al ar).bytes = tz at *
  clear hth hoh
  have t3 : w.cell? ⟨ba, 3, none⟩ = some (.int .i64 (th : Int)) := blk_cell cB 3
  have t1 : w.cell? ⟨ba, 1, none⟩ = some (.pointer (some ⟨b1, 0, none⟩)) := blk_cell cB 1
  have t2 : w.cell? ⟨ba, 2, none⟩ = some (.pointer (some ⟨b2, 0, none⟩)) := blk_cell cB 2
  have o3 : w.cell? ⟨bb, 3, none⟩ = some (.int .i64 (oh : Int)) := blk_cell cO 3
  have d1 : decide ((oh : Int) + 1 < (th : Int)) = true := by simp; omega
  have w1a : IntKind.i64.wrap ((th : Int) + 1) = (th : Int) + 1 := IntWalk.i64_in _ (by omega)
  have w1b : IntKind.i64.wrap ((oh : Int) + 1) = (oh : Int) + 1 := IntWalk.i64_in _ (by omega)
  have HX := Lib.hid hx
  have HY := Lib.hid hy
  have HO := Lib.hid hb
  have IH := Lib.hid ih
  clear cB cO hx hy ha hb ih
  go_enter Tryd.func71, Tryd.ntmps71
  go_wp2
  go_quiet (fail)
  go_wp2
  clear w1a w1b
  refine gen_world (φ := fun W => Code.wp _ _ _ _ W) (w := w) (by repeat (first | exact Below.refl _ _ | apply pw_below_drewN | apply Below.drew)) ?_
  intro W hBW
  have QS := Lib.hid (show JS w ⟨ba, 1, none⟩ ⟨ba, 2, none⟩ (.pointer (some ⟨b1, 0, none⟩)) (.pointer (some ⟨b2, 0, none⟩)) W from ⟨pw_cell_below hBW t1, pw_cell_below hBW t2, hBW⟩)
  clear hBW t1 t2 t3 o3
  go_region_held3 (fun w' => JS w ⟨ba, 1, none⟩ ⟨ba, 2, none⟩ (.pointer (some ⟨b1, 0, none⟩)) (.pointer (some ⟨b2, 0, none⟩)) w')
    (first | assumption | exact HS3.out | exact HS2.out | exact QS.out.next (by repeat (first | exact Below.refl _ _ | apply pw_below_drewN | apply Below.drew)))
    (first
      | (go_at_call 71; (refine (IH.out b2 bb _ ?c1 ?c2).mono ?_); (case c1 => exact HY.out.below (JS.b (p := ⟨ba, 1, none⟩) (q := ⟨ba, 2, none⟩) (u := .pointer (some ⟨b1, 0, none⟩)) (v := .pointer (some ⟨b2, 0, none⟩)) (by assumption))); (case c2 => exact HO.out.below (JS.b (p := ⟨ba, 1, none⟩) (q := ⟨ba, 2, none⟩) (u := .pointer (some ⟨b1, 0, none⟩)) (v := .pointer (some ⟨b2, 0, none⟩)) (by assumption))); rintro e w2 ⟨bj, rfl, hr, hB⟩; have HS2 := Lib.hid (JS.next (w := w) (p := ⟨ba, 1, none⟩) (q := ⟨ba, 2, none⟩) (u := .pointer (some ⟨b1, 0, none⟩)) (v := .pointer (some ⟨b2, 0, none⟩)) (by assumption) hB); have HR2 := Lib.hid hr; clear hr hB)
      | (go_at_call 90; (refine (fix_calls al (join ar b) false b1 bj _ ?c3 ?c4 NS.out NJ.out ZF.out).mono ?_); (case c3 => exact HX.out.below HS2.out.2.2); (case c4 => exact HR2.out); rintro e w3 ⟨bf, rfl, hr, hB⟩; have HS3 := Lib.hid (JS.next HS2.out hB); have HR3 := Lib.hid hr; clear hr hB))
  all_goals
    go_wp2
    go_ret
    exact ⟨bf, rfl, HR3.out, HS3.out.2.2⟩

set_option maxRecDepth 100000 in
set_option maxHeartbeats 1000000 in
theorem join_b (bl br a : T) (ba bb : Nat) (w : World) (ha : IsT w a ba) (hb : IsT w (.node bl br) bb) (na : a.Ne) (nb : (T.node bl br).Ne) (hz : a.bytes + (T.node bl br).bytes ≤ 1099511627776) (h1 : ¬ a.h > (T.node bl br).h + 1) (h2 : (T.node bl br).h > a.h + 1) (ih : ∀ (b1 b2 : Nat) (W : World), IsT W a b1 → IsT W bl b2 → Calls Tryd.prog 71 #[.pointer (some ⟨b1, 0, none⟩), .pointer (some ⟨b2, 0, none⟩)] W (RetT (join a bl) W)) :
    Calls Tryd.prog 71 #[.pointer (some ⟨ba, 0, none⟩), .pointer (some ⟨bb, 0, none⟩)] w (RetT (fix br (join a bl) true) w) := by
  obtain ⟨b1, b2, cB, hx, hy⟩ := hb.sides
  obtain ⟨ra, rb, cO⟩ := ha.cells
  have i1 := (T.node bl br).h_lt nb
  have i2 := a.h_lt na
  have ZJ := Lib.hid (join_bytes a bl)
  have NJ : Hid (join a bl).Ne := (join_Ne na nb.1)
  have NS : Hid br.Ne := nb.2
  have zz : (T.node bl br).bytes = bl.bytes + br.bytes := rfl
  have ZF : Hid (br.bytes + (join a bl).bytes ≤ 1099511627776) := by show _ ≤ _; rw [join_bytes]; omega
  clear zz
  generalize hth : (T.node bl br).h = th at *
  generalize hoh : a.h = oh at *
  generalize (T.node bl br).runes = tn at *
  generalize (T.node bl br).bytes = tz at *
  clear hth hoh
  have t3 : w.cell? ⟨bb, 3, none⟩ = some (.int .i64 (th : Int)) := blk_cell cB 3
  have t1 : w.cell? ⟨bb, 1, none⟩ = some (.pointer (some ⟨b1, 0, none⟩)) := blk_cell cB 1
  have t2 : w.cell? ⟨bb, 2, none⟩ = some (.pointer (some ⟨b2, 0, none⟩)) := blk_cell cB 2
  have o3 : w.cell? ⟨ba, 3, none⟩ = some (.int .i64 (oh : Int)) := blk_cell cO 3
  have d1 : decide ((th : Int) + 1 < (oh : Int)) = false := by simp; omega
  have d2 : decide ((oh : Int) + 1 < (th : Int)) = true := by simp; omega
  have w1a : IntKind.i64.wrap ((th : Int) + 1) = (th : Int) + 1 := IntWalk.i64_in _ (by omega)
  have w1b : IntKind.i64.wrap ((oh : Int) + 1) = (oh : Int) + 1 := IntWalk.i64_in _ (by omega)
  have HX := Lib.hid hx
  have HY := Lib.hid hy
  have HO := Lib.hid ha
  have IH := Lib.hid ih
  clear cB cO hx hy ha hb ih
  go_enter Tryd.func71, Tryd.ntmps71
  go_wp2
  go_quiet (fail)
  go_wp2
  go_quiet (fail)
  go_wp2
  clear w1a w1b
  refine gen_world (φ := fun W => Code.wp _ _ _ _ W) (w := w) (by repeat (first | exact Below.refl _ _ | apply pw_below_drewN | apply Below.drew)) ?_
  intro W hBW
  have QS := Lib.hid (show JS w ⟨bb, 1, none⟩ ⟨bb, 2, none⟩ (.pointer (some ⟨b1, 0, none⟩)) (.pointer (some ⟨b2, 0, none⟩)) W from ⟨pw_cell_below hBW t1, pw_cell_below hBW t2, hBW⟩)
  clear hBW t1 t2 t3 o3
  go_region_held3 (fun w' => JS w ⟨bb, 1, none⟩ ⟨bb, 2, none⟩ (.pointer (some ⟨b1, 0, none⟩)) (.pointer (some ⟨b2, 0, none⟩)) w')
    (first | assumption | exact HS3.out | exact HS2.out | exact QS.out.next (by repeat (first | exact Below.refl _ _ | apply pw_below_drewN | apply Below.drew)))
    (first
      | (go_at_call 71; (refine (IH.out ba b1 _ ?c1 ?c2).mono ?_); (case c1 => exact HO.out.below (JS.b (p := ⟨bb, 1, none⟩) (q := ⟨bb, 2, none⟩) (u := .pointer (some ⟨b1, 0, none⟩)) (v := .pointer (some ⟨b2, 0, none⟩)) (by assumption))); (case c2 => exact HX.out.below (JS.b (p := ⟨bb, 1, none⟩) (q := ⟨bb, 2, none⟩) (u := .pointer (some ⟨b1, 0, none⟩)) (v := .pointer (some ⟨b2, 0, none⟩)) (by assumption))); rintro e w2 ⟨bj, rfl, hr, hB⟩; have HS2 := Lib.hid (JS.next (w := w) (p := ⟨bb, 1, none⟩) (q := ⟨bb, 2, none⟩) (u := .pointer (some ⟨b1, 0, none⟩)) (v := .pointer (some ⟨b2, 0, none⟩)) (by assumption) hB); have HR2 := Lib.hid hr; clear hr hB)
      | (go_at_call 90; (refine (fix_calls br (join a bl) true b2 bj _ ?c3 ?c4 NS.out NJ.out ZF.out).mono ?_); (case c3 => exact HY.out.below HS2.out.2.2); (case c4 => exact HR2.out); rintro e w3 ⟨bf, rfl, hr, hB⟩; have HS3 := Lib.hid (JS.next HS2.out hB); have HR3 := Lib.hid hr; clear hr hB))
  all_goals
    go_wp2
    go_ret
    exact ⟨bf, rfl, HR3.out, HS3.out.2.2⟩

theorem join_calls (n : Nat) : ∀ (a b : T) (ba bb : Nat) (w : World), a.h + b.h ≤ n → IsT w a ba → IsT w b bb → a.Ne → b.Ne → a.bytes + b.bytes ≤ 1099511627776 →
    Calls Tryd.prog 71 #[.pointer (some ⟨ba, 0, none⟩), .pointer (some ⟨bb, 0, none⟩)] w (RetT (join a b) w) := by
  induction n with
  | zero =>
    intro a b ba bb w hn ha hb na nb hz
    by_cases h5 : a.bytes + b.bytes ≤ 64
    · have e : join a b = .leaf (a.text ++ b.text) := by rw [join.eq_def, if_neg (by omega), if_neg (by omega), if_pos (by omega)]
      rw [e]; exact join_leaf a b ba bb w ha hb na nb hz (by omega) (by omega) (by omega) (by omega) h5
    · have e : join a b = .node a b := by rw [join.eq_def, if_neg (by omega), if_neg (by omega), if_neg (by omega)]
      rw [e]; exact join_flat_3 a b ba bb w ha hb na nb hz (by omega) (by omega) (by omega) (by omega) h5
  | succ n ih =>
    intro a b ba bb w hn ha hb na nb hz
    by_cases h1 : a.h > b.h + 1
    · cases a with
      | leaf x => simp [T.h] at h1
      | node al ar =>
        have e : join (.node al ar) b = fix al (join ar b) false := by rw [join.eq_def, if_pos h1]
        rw [e]
        have zz : (T.node al ar).bytes = al.bytes + ar.bytes := rfl
        have zh : (T.node al ar).h = max al.h ar.h + 1 := rfl
        exact join_a al ar b ba bb w ha hb na nb hz h1 (fun b1 b2 W k1 k2 => ih ar b b1 b2 W (by omega) k1 k2 na.2 nb (by omega))
    · by_cases h2 : b.h > a.h + 1
      · cases b with
        | leaf x => simp [T.h] at h2
        | node bl br =>
          have e : join a (.node bl br) = fix br (join a bl) true := by rw [join.eq_def, if_neg h1, if_pos h2]
          rw [e]
          have zz : (T.node bl br).bytes = bl.bytes + br.bytes := rfl
          have zh : (T.node bl br).h = max bl.h br.h + 1 := rfl
          exact join_b bl br a ba bb w ha hb na nb hz h1 h2 (fun b1 b2 W k1 k2 => ih a bl b1 b2 W (by omega) k1 k2 na nb.1 (by omega))
      · by_cases h3 : a.h = 0 ∧ b.h = 0 ∧ a.bytes + b.bytes ≤ 64
        · have e : join a b = .leaf (a.text ++ b.text) := by rw [join.eq_def, if_neg h1, if_neg h2, if_pos h3]
          rw [e]; exact join_leaf a b ba bb w ha hb na nb hz h1 h2 h3.1 h3.2.1 h3.2.2
        · have e : join a b = .node a b := by rw [join.eq_def, if_neg h1, if_neg h2, if_neg h3]
          rw [e]
          by_cases h4 : a.h = 0
          · by_cases h5 : b.h = 0
            · exact join_flat_3 a b ba bb w ha hb na nb hz h1 h2 h4 h5 (fun h6 => h3 ⟨h4, h5, h6⟩)
            · exact join_flat_2 a b ba bb w ha hb na nb hz h1 h2 h4 h5
          · exact join_flat_1 a b ba bb w ha hb na nb hz h1 h2 h4

end Go.Proofs.YtjphmebhofkhcaaDoor.Rope
/- The walks of split, Put, Cut, Drop, Len, Bytes and Height: what they make of a rope. Conditions: texts of at most 2^40 bytes. -/
namespace Go.Proofs.YtjphmebhofkhcaaDoor.Rope
open Go.RowKit Go.Proofs.YtjphmebhofkhcaaDoorW.PrintWords Go.Proofs.YtjphmebhofkhcaaDoorW.PrintLast Go.Proofs.YtjphmebhofkhcaaDoorW.PrintMore
set_option linter.unusedVariables false
set_option linter.unusedSimpArgs false
theorem joinO_calls (a b : Option T) (va vb : Value) (w : World) (ha : IsR w va a) (hb : IsR w vb b) (na : NeO a) (nb : NeO b) (hz : bytesO a + bytesO b ≤ 1099511627776) :
    Calls Tryd.prog 71 #[va, vb] w (Ret (joinO a b) w) := by
  cases a with
  | none =>
    have e : va = .pointer none := ha
    subst e
    clear ha
    have HB := Lib.hid hb
    clear hb
    go_enter Tryd.func71, Tryd.ntmps71
    go_wp2
    go_ret
    exact ⟨_, rfl, HB.out, Below.refl _ _⟩
  | some a =>
    obtain ⟨ba, rfl, hta⟩ := ha
    cases b with
    | none =>
      have e : vb = .pointer none := hb
      subst e
      have HB := Lib.hid hta
      clear hta hb
      go_enter Tryd.func71, Tryd.ntmps71
      go_wp2
      go_ret
      exact ⟨_, rfl, ⟨ba, rfl, HB.out⟩, Below.refl _ _⟩
    | some b =>
      obtain ⟨bb, rfl, htb⟩ := hb
      refine (join_calls _ a b ba bb w (Nat.le_refl _) hta htb na nb hz).mono ?_
      rintro e w' ⟨c, rfl, hc, hB⟩
      exact ⟨_, rfl, ⟨c, rfl, hc⟩, hB⟩
theorem joinO_bytes (a b : Option T) : bytesO (joinO a b) = bytesO a + bytesO b := by
  cases a <;> cases b <;> simp [joinO, bytesO, join_bytes]
theorem joinO_Ne {a b : Option T} (ha : NeO a) (hb : NeO b) : NeO (joinO a b) := by
  cases a <;> cases b <;> first | exact ha | exact hb | exact join_Ne ha hb
/-- What split makes. -/
def splitT : T → Int → Option T × Option T
  | .leaf s, at_ => if at_ ≤ 0 then (none, some (.leaf s)) else if (Lib.runeCount s : Int) ≤ at_ then (some (.leaf s), none) else (some (.leaf (s.extract 0 (byteAt s at_))), some (.leaf (s.extract (byteAt s at_) s.size)))
  | .node l r, at_ => if at_ ≤ 0 then (none, some (.node l r)) else if ((T.node l r).runes : Int) ≤ at_ then (some (.node l r), none) else
      if at_ < (l.runes : Int) then ((splitT l at_).1, joinO (splitT l at_).2 (some r)) else (joinO (some l) (splitT r (at_ - (l.runes : Int))).1, (splitT r (at_ - (l.runes : Int))).2)
def splitO : Option T → Int → Option T × Option T
  | none, _ => (none, none)
  | some t, at_ => splitT t at_
theorem byteFrom_ge (s : ByteArray) : ∀ f k pos, pos ≤ s.size → pos ≤ byteFrom s f k pos
  | 0, _, pos, h => h
  | f + 1, k, pos, h => by
    unfold byteFrom
    split
    · split
      · omega
      · by_cases h2 : pos + (Utf8.decode s pos).2 ≤ s.size
        · have := byteFrom_ge s f (k - 1) (pos + (Utf8.decode s pos).2) h2; omega
        · have e : byteFrom s f (k - 1) (pos + (Utf8.decode s pos).2) = s.size := by cases f <;> simp [byteFrom]; intro h3; omega
          rw [e]; exact h
    · exact h
theorem byteFrom_lt (s : ByteArray) : ∀ f k pos, k < Lib.runeCountFrom s f pos → byteFrom s f k pos < s.size
  | 0, k, pos, h => by simp [Lib.runeCountFrom] at h
  | f + 1, k, pos, h => by
    unfold Lib.runeCountFrom at h
    unfold byteFrom
    split at h
    · rename_i hp
      rw [if_pos hp]
      split
      · exact hp
      · exact byteFrom_lt s f _ _ (by omega)
    · omega
theorem byteAt_mid {s : ByteArray} {a : Int} (h0 : ¬ a ≤ 0) (h1 : ¬ (Lib.runeCount s : Int) ≤ a) : 0 < byteAt s a ∧ byteAt s a < s.size := by
  have hlt : a.toNat < Lib.runeCountFrom s s.size 0 := by have : Lib.runeCount s = Lib.runeCountFrom s s.size 0 := rfl; omega
  have hs : 0 < s.size := by have := Lib.runeCountFrom_le s s.size 0; omega
  unfold byteAt
  rw [if_neg h0]
  refine ⟨?_, byteFrom_lt _ _ _ _ hlt⟩
  obtain ⟨f, hf⟩ : ∃ f, s.size = f + 1 := ⟨s.size - 1, by omega⟩
  have hb := byteFrom_lt _ _ _ _ hlt
  rw [hf, byteFrom, if_pos (by omega), if_neg (by omega)] at hb ⊢
  have hw := Lib.decode_width_pos s 0 hs
  by_cases h2 : 0 + (Utf8.decode s 0).2 ≤ s.size
  · have := byteFrom_ge s f (a.toNat - 1) _ h2; omega
  · have e : byteFrom s f (a.toNat - 1) (0 + (Utf8.decode s 0).2) = s.size := by cases f <;> simp [byteFrom]; intro h3; omega
    omega
theorem splitT_both : ∀ (t : T) (a : Int), bytesO (splitT t a).1 + bytesO (splitT t a).2 = t.bytes ∧ (t.Ne → NeO (splitT t a).1 ∧ NeO (splitT t a).2)
  | .leaf s, a => by
    unfold splitT
    by_cases h0 : a ≤ 0
    · rw [if_pos h0]; exact ⟨by simp [bytesO], fun h => ⟨trivial, h⟩⟩
    · by_cases h1 : (Lib.runeCount s : Int) ≤ a
      · rw [if_neg h0, if_pos h1]; exact ⟨by simp [bytesO], fun h => ⟨h, trivial⟩⟩
      · rw [if_neg h0, if_neg h1]
        have := byteAt_mid h0 h1
        refine ⟨?_, fun h => ⟨?_, ?_⟩⟩ <;> simp only [bytesO, NeO, T.bytes, T.Ne, ByteArray.size_extract] <;> omega
  | .node l r, a => by
    unfold splitT
    by_cases h0 : a ≤ 0
    · rw [if_pos h0]; exact ⟨by simp [bytesO], fun h => ⟨trivial, h⟩⟩
    · by_cases h1 : ((T.node l r).runes : Int) ≤ a
      · rw [if_neg h0, if_pos h1]; exact ⟨by simp [bytesO], fun h => ⟨h, trivial⟩⟩
      · rw [if_neg h0, if_neg h1]
        by_cases h2 : a < (l.runes : Int)
        · rw [if_pos h2]
          have k := splitT_both l a
          refine ⟨?_, fun h => ⟨(k.2 h.1).1, joinO_Ne (k.2 h.1).2 h.2⟩⟩
          show bytesO _ + bytesO (joinO _ _) = l.bytes + r.bytes
          rw [joinO_bytes, ← k.1]; simp only [bytesO]; omega
        · rw [if_neg h2]
          have k := splitT_both r (a - (l.runes : Int))
          refine ⟨?_, fun h => ⟨joinO_Ne h.1 (k.2 h.2).1, (k.2 h.2).2⟩⟩
          show bytesO (joinO _ _) + bytesO _ = l.bytes + r.bytes
          rw [joinO_bytes, ← k.1]; simp only [bytesO]; omega
theorem splitO_bytes (t : Option T) (a : Int) : bytesO (splitO t a).1 + bytesO (splitO t a).2 = bytesO t := by
  cases t with
  | none => rfl
  | some t => exact (splitT_both t a).1
theorem splitO_Ne {t : Option T} (h : NeO t) (a : Int) : NeO (splitO t a).1 ∧ NeO (splitO t a).2 := by
  cases t with
  | none => exact ⟨trivial, trivial⟩
  | some t => exact (splitT_both t a).2 h
/-- Two ropes come back. -/
def Ret2 (p : Option T × Option T) (w : World) (e : Ending) (w' : World) : Prop := ∃ v1 v2, e = .returned (.tuple #[v1, v2]) ∧ IsR w' v1 p.1 ∧ IsR w' v2 p.2 ∧ Below w.heap.size w w'
theorem split_low (t : Option T) (v : Value) (a : Int) (w : World) (h : IsR w v t) (h0 : a ≤ 0) :
    Calls Tryd.prog 70 #[v, .int .i64 a] w (Ret2 (none, t) w) := by
  have hd : decide (a ≤ 0) = true := by simp; omega
  cases t with
  | none =>
    have e : v = .pointer none := h
    subst e
    clear h
    go_enter Tryd.func70, Tryd.ntmps70
    go_wp2
    go_ret2
    exact ⟨_, _, rfl, rfl, rfl, Below.refl _ _⟩
  | some t =>
    obtain ⟨b, rfl, h⟩ := h
    have H := Lib.hid h
    clear h
    go_enter Tryd.func70, Tryd.ntmps70
    go_wp2
    go_ret2
    exact ⟨_, _, rfl, rfl, ⟨b, rfl, H.out⟩, Below.refl _ _⟩
theorem split_nil (v : Value) (a : Int) (w : World) (h : IsR w v none) :
    Calls Tryd.prog 70 #[v, .int .i64 a] w (Ret2 (none, none) w) := by
  have e : v = .pointer none := h
  subst e
  clear h
  go_enter Tryd.func70, Tryd.ntmps70
  go_wp2
  all_goals
    go_ret2
    exact ⟨_, _, rfl, rfl, rfl, Below.refl _ _⟩
theorem split_high (t : T) (b : Nat) (a : Int) (w : World) (h : IsT w t b) (h0 : ¬ a ≤ 0) (h1 : (t.runes : Int) ≤ a) :
    Calls Tryd.prog 70 #[.pointer (some ⟨b, 0, none⟩), .int .i64 a] w (Ret2 (some t, none) w) := by
  have hd : decide (a ≤ 0) = false := by simp; omega
  have hd2 : decide ((t.runes : Int) ≤ a) = true := by simp; omega
  obtain ⟨l, r, c⟩ := h.cells
  have c4 : w.cell? ⟨b, 4, none⟩ = some (.int .i64 (t.runes : Int)) := blk_cell c 4
  have H := Lib.hid h
  clear h c
  go_enter Tryd.func70, Tryd.ntmps70
  go_wp2
  go_ret2
  exact ⟨_, _, rfl, ⟨b, rfl, H.out⟩, rfl, Below.refl _ _⟩
set_option maxRecDepth 100000 in
set_option maxHeartbeats 1000000 in
theorem split_leaf (s : ByteArray) (b : Nat) (a : Int) (w : World) (h : IsT w (.leaf s) b) (h0 : ¬ a ≤ 0) (h1 : ¬ (Lib.runeCount s : Int) ≤ a) (hz : s.size ≤ 1099511627776) :
    Calls Tryd.prog 70 #[.pointer (some ⟨b, 0, none⟩), .int .i64 a] w (Ret2 (some (.leaf (s.extract 0 (byteAt s a))), some (.leaf (s.extract (byteAt s a) s.size))) w) := by
  have hd : decide (a ≤ 0) = false := by simp; omega
  have hd2 : decide ((Lib.runeCount s : Int) ≤ a) = false := by simp; omega
  have hz2 : s.size ≤ 4611686018427387904 := by omega
  have bm := byteAt_mid h0 h1
  have c4 : w.cell? ⟨b, 4, none⟩ = some (.int .i64 (Lib.runeCount s : Int)) := blk_cell h 4
  have c3 : w.cell? ⟨b, 3, none⟩ = some (.int .i64 0) := blk_cell h 3
  have c0 : w.cell? ⟨b, 0, none⟩ = some (.string s) := blk_cell h 0
  have C0 := Lib.hid c0
  clear h
  go_enter Tryd.func70, Tryd.ntmps70
  go_wp2_with fail
  (go_at_call 89; refine (letters_Byte s a _ hz2).mono ?_; rintro e w1 ⟨rfl, hb⟩)
  generalize byteAt s a = n at *
  have x1 : (s.extract 0 n).size ≤ 1099511627776 := by rw [ByteArray.size_extract]; omega
  have x2 : (s.extract n s.size).size ≤ 1099511627776 := by rw [ByteArray.size_extract]; omega
  have y0 : (0 : Int) ≤ (n : Int) := by omega
  have y1 : (n : Int) ≤ (s.size : Int) := by omega
  have y2 : (n : Int).toNat = n := by omega
  have X1 := Lib.hid x1
  have X2 := Lib.hid x2
  have QS := Lib.hid (show JS w ⟨b, 0, none⟩ ⟨b, 0, none⟩ (.string s) (.string s) w1 from ⟨pw_cell_below hb C0.out, pw_cell_below hb C0.out, hb⟩)
  clear x1 x2 hb c0 c3 c4
  go_wp2
  go_region_held3 (fun w' => JS w ⟨b, 0, none⟩ ⟨b, 0, none⟩ (.string s) (.string s) w')
    (first | assumption | exact HSb.out | exact HSa.out | exact QS.out.next (by repeat (first | exact Below.refl _ _ | apply pw_below_drewN | apply Below.drew)))
    (first
      | (go_at_call 62; (with_reducible refine (leaf_calls (s.extract 0 n) _ X1.out).mono ?_); rintro e wa ⟨bA, rfl, hr, hB⟩; have HSa := Lib.hid (JS.next (w := w) (p := ⟨b, 0, none⟩) (q := ⟨b, 0, none⟩) (u := .string s) (v := .string s) (by assumption) hB); have HRa := Lib.hid hr; have HBa := Lib.hid hB; clear hr hB)
      | (go_at_call 62; (with_reducible refine (leaf_calls (s.extract n s.size) _ X2.out).mono ?_); rintro e wb ⟨bB, rfl, hr, hB⟩; have HSb := Lib.hid (JS.next (w := w) (p := ⟨b, 0, none⟩) (q := ⟨b, 0, none⟩) (u := .string s) (v := .string s) (by assumption) hB); have HRb := Lib.hid hr; have HBb := Lib.hid hB; clear hr hB))
  all_goals
    go_wp2
    go_ret2
    refine ⟨_, _, rfl, ⟨bA, rfl, ?_⟩, ⟨bB, rfl, ?_⟩, ?_⟩
    · first | exact HRa.out | exact HRa.out.below HBb.out
    · first | exact HRb.out | exact HRb.out.below HBa.out
    · first | exact HSb.out.2.2 | exact HSa.out.2.2
end Go.Proofs.YtjphmebhofkhcaaDoor.Rope
/- The walks of split at two sides, Put, Cut, Drop, Len, Bytes and Height. Conditions: texts of at most 2^40 bytes. -/
namespace Go.Proofs.YtjphmebhofkhcaaDoor.Rope
open Go.RowKit Go.Proofs.YtjphmebhofkhcaaDoorW.PrintWords Go.Proofs.YtjphmebhofkhcaaDoorW.PrintLast Go.Proofs.YtjphmebhofkhcaaDoorW.PrintMore
set_option linter.unusedVariables false
set_option linter.unusedSimpArgs false
attribute [local go_sem] max2_int min2_int max_two min_two
set_option maxRecDepth 100000 in
set_option maxHeartbeats 1000000 in
theorem split_left (l r : T) (b : Nat) (a : Int) (w : World) (h : IsT w (.node l r) b) (h0 : ¬ a ≤ 0) (h1 : ¬ ((T.node l r).runes : Int) ≤ a) (h2 : a < (l.runes : Int)) (nn : (T.node l r).Ne) (hz : (T.node l r).bytes ≤ 1099511627776)
    (ih : ∀ (bl : Nat) (W : World), IsT W l bl → Calls Tryd.prog 70 #[.pointer (some ⟨bl, 0, none⟩), .int .i64 a] W (Ret2 (splitT l a) W)) :
    Calls Tryd.prog 70 #[.pointer (some ⟨b, 0, none⟩), .int .i64 a] w (Ret2 ((splitT l a).1, joinO (splitT l a).2 (some r)) w) := by
  obtain ⟨bl, br, c, hl, hr⟩ := h.sides
  obtain ⟨la, lb, cl⟩ := hl.cells
  have hd : decide (a ≤ 0) = false := by simp; omega
  have hd2 : decide (((T.node l r).runes : Int) ≤ a) = false := by simp; omega
  have hd3 : decide (a < (l.runes : Int)) = true := by simp; omega
  have hd4 : (((T.node l r).h : Int) == 0) = false := by simp [T.h]; omega
  have k := splitT_both l a
  have N2 : Hid (NeO (splitT l a).2) := (k.2 nn.1).2
  have NR : Hid (NeO (some r)) := nn.2
  have Z : Hid (bytesO (splitT l a).2 + bytesO (some r) ≤ 1099511627776) := by show _ ≤ _; have := k.1; simp only [bytesO, T.bytes] at *; omega
  have c1 : w.cell? ⟨b, 1, none⟩ = some (.pointer (some ⟨bl, 0, none⟩)) := blk_cell c 1
  have c2 : w.cell? ⟨b, 2, none⟩ = some (.pointer (some ⟨br, 0, none⟩)) := blk_cell c 2
  have c3 : w.cell? ⟨b, 3, none⟩ = some (.int .i64 ((T.node l r).h : Int)) := blk_cell c 3
  have c4 : w.cell? ⟨b, 4, none⟩ = some (.int .i64 ((T.node l r).runes : Int)) := blk_cell c 4
  have l4 : w.cell? ⟨bl, 4, none⟩ = some (.int .i64 (l.runes : Int)) := blk_cell cl 4
  have IH := Lib.hid ih
  have HL := Lib.hid hl
  have HR := Lib.hid hr
  have C2 := Lib.hid c2
  clear h c cl hl hr k ih nn hz c2
  generalize (T.node l r).h = th at *
  generalize (T.node l r).runes = tn at *
  go_enter Tryd.func70, Tryd.ntmps70
  go_wp2_with fail
  (go_at_call 70; refine (IH.out bl _ HL.out).mono ?_; rintro e w1 ⟨v1, v2, rfl, k1, k2, hb⟩)
  have c2 := pw_cell_below hb C2.out
  have K1 := Lib.hid k1
  have K2 := Lib.hid k2
  have HB := Lib.hid hb
  clear k1 k2 hb c1 c3 c4 l4
  go_wp2_with fail
  (go_at_call 71; refine (joinO_calls _ (some r) v2 _ _ K2.out ⟨br, rfl, HR.out.below HB.out⟩ N2.out NR.out Z.out).mono ?_; rintro e w2 ⟨v3, rfl, k3, hb2⟩)
  have K3 := Lib.hid k3
  have HB2 := Lib.hid hb2
  clear k3 hb2 c2
  go_wp2
  go_ret2
  exact ⟨_, _, rfl, K1.out.below HB2.out, K3.out, below_step HB.out HB2.out⟩
/-- .. that reads three cells. -/
abbrev JS3 (w : World) (p q r : Addr) (u v x : Value) (w' : World) : Prop := w'.cell? p = some u ∧ w'.cell? q = some v ∧ w'.cell? r = some x ∧ Below w.heap.size w w'
theorem JS3.b {w W : World} {p q r : Addr} {u v x : Value} (h : JS3 w p q r u v x W) : Below w.heap.size w W := h.2.2.2
theorem JS3.next {w W W' : World} {p q r : Addr} {u v x : Value} (h : JS3 w p q r u v x W) (hb : Below W.heap.size W W') : JS3 w p q r u v x W' :=
  ⟨pw_cell_below hb h.1, pw_cell_below hb h.2.1, pw_cell_below hb h.2.2.1, below_then h.2.2.2 h.2.2.2.size hb⟩
set_option maxRecDepth 100000 in
set_option maxHeartbeats 1000000 in
theorem split_right (l r : T) (b : Nat) (a : Int) (w : World) (h : IsT w (.node l r) b) (h0 : ¬ a ≤ 0) (h1 : ¬ ((T.node l r).runes : Int) ≤ a) (h2 : ¬ a < (l.runes : Int)) (nn : (T.node l r).Ne) (hz : (T.node l r).bytes ≤ 1099511627776)
    (ih : ∀ (br : Nat) (W : World), IsT W r br → Calls Tryd.prog 70 #[.pointer (some ⟨br, 0, none⟩), .int .i64 (a - (l.runes : Int))] W (Ret2 (splitT r (a - (l.runes : Int))) W)) :
    Calls Tryd.prog 70 #[.pointer (some ⟨b, 0, none⟩), .int .i64 a] w (Ret2 (joinO (some l) (splitT r (a - (l.runes : Int))).1, (splitT r (a - (l.runes : Int))).2) w) := by
  obtain ⟨bl, br, c, hl, hr⟩ := h.sides
  obtain ⟨la, lb, cl⟩ := hl.cells
  have hd : decide (a ≤ 0) = false := by simp; omega
  have hd2 : decide (((T.node l r).runes : Int) ≤ a) = false := by simp; omega
  have hd3 : decide (a < (l.runes : Int)) = false := by simp; omega
  have hd4 : (((T.node l r).h : Int) == 0) = false := by simp [T.h]; omega
  have k := splitT_both r (a - (l.runes : Int))
  have N2 : Hid (NeO (splitT r (a - (l.runes : Int))).1) := (k.2 nn.2).1
  have NR : Hid (NeO (some l)) := nn.1
  have Z : Hid (bytesO (some l) + bytesO (splitT r (a - (l.runes : Int))).1 ≤ 1099511627776) := by show _ ≤ _; have := k.1; simp only [bytesO, T.bytes] at *; omega
  have i0 : (0 : Int) ≤ (l.runes : Int) := by omega
  have i1 : (l.runes : Int) ≤ a := by omega
  have i2 : a ≤ 1099511627776 := by have := (T.node l r).runes_le; omega
  have c1 : w.cell? ⟨b, 1, none⟩ = some (.pointer (some ⟨bl, 0, none⟩)) := blk_cell c 1
  have c2 : w.cell? ⟨b, 2, none⟩ = some (.pointer (some ⟨br, 0, none⟩)) := blk_cell c 2
  have c3 : w.cell? ⟨b, 3, none⟩ = some (.int .i64 ((T.node l r).h : Int)) := blk_cell c 3
  have c4 : w.cell? ⟨b, 4, none⟩ = some (.int .i64 ((T.node l r).runes : Int)) := blk_cell c 4
  have l4 : w.cell? ⟨bl, 4, none⟩ = some (.int .i64 (l.runes : Int)) := blk_cell cl 4
  have IH := Lib.hid ih
  have HL := Lib.hid hl
  have HR := Lib.hid hr
  have C1 := Lib.hid c1
  have hw : IntKind.i64.wrap (a - (l.runes : Int)) = a - (l.runes : Int) := IntWalk.i64_in _ (by omega)
  clear h c cl hl hr k ih nn hz
  generalize (T.node l r).h = th at *
  generalize (T.node l r).runes = tn at *
  go_enter Tryd.func70, Tryd.ntmps70
  go_wp2
  have QS := Lib.hid (show JS3 w ⟨b, 1, none⟩ ⟨b, 2, none⟩ ⟨bl, 4, none⟩ (.pointer (some ⟨bl, 0, none⟩)) (.pointer (some ⟨br, 0, none⟩)) (.int .i64 (l.runes : Int)) w from ⟨c1, c2, l4, Below.refl _ _⟩)
  clear c1 c2 c3 c4 l4
  go_region_held3 (fun w' => JS3 w ⟨b, 1, none⟩ ⟨b, 2, none⟩ ⟨bl, 4, none⟩ (.pointer (some ⟨bl, 0, none⟩)) (.pointer (some ⟨br, 0, none⟩)) (.int .i64 (l.runes : Int)) w')
    (first | assumption | exact HS1.out | exact QS.out.next (by repeat (first | exact Below.refl _ _ | apply pw_below_drewN | apply Below.drew)))
    (first
      | (go_at_call 70; (refine (IH.out br _ ?ca).mono ?_); (case ca => exact HR.out.below (JS3.b (w := w) (p := ⟨b, 1, none⟩) (q := ⟨b, 2, none⟩) (r := ⟨bl, 4, none⟩) (u := .pointer (some ⟨bl, 0, none⟩)) (v := .pointer (some ⟨br, 0, none⟩)) (x := .int .i64 (l.runes : Int)) (by assumption))); rintro e w1 ⟨v1, v2, rfl, k1, k2, hb⟩; have HS1 := Lib.hid (JS3.next (w := w) (p := ⟨b, 1, none⟩) (q := ⟨b, 2, none⟩) (r := ⟨bl, 4, none⟩) (u := .pointer (some ⟨bl, 0, none⟩)) (v := .pointer (some ⟨br, 0, none⟩)) (x := .int .i64 (l.runes : Int)) (by assumption) hb); have K1 := Lib.hid k1; have K2 := Lib.hid k2; clear k1 k2 hb))
  clear hw
  have c1' := HS1.out.1
  go_wp2_with fail
  (go_at_call 71; refine (joinO_calls (some l) _ _ v1 _ ⟨bl, rfl, HL.out.below HS1.out.b⟩ K1.out NR.out N2.out Z.out).mono ?_; rintro e w2 ⟨v3, rfl, k3, hb2⟩)
  have K3 := Lib.hid k3
  have HB2 := Lib.hid hb2
  clear k3 hb2 c1'
  go_wp2
  go_ret2
  exact ⟨_, _, rfl, K3.out, K2.out.below HB2.out, below_step HS1.out.b HB2.out⟩
theorem splitT_calls : ∀ (t : T) (b : Nat) (a : Int) (w : World), IsT w t b → t.Ne → t.bytes ≤ 1099511627776 →
    Calls Tryd.prog 70 #[.pointer (some ⟨b, 0, none⟩), .int .i64 a] w (Ret2 (splitT t a) w)
  | .leaf s, b, a, w, h, nn, hz => by
    unfold splitT
    by_cases h0 : a ≤ 0
    · rw [if_pos h0]; exact split_low (some (.leaf s)) _ a w ⟨b, rfl, h⟩ h0
    · by_cases h1 : (Lib.runeCount s : Int) ≤ a
      · rw [if_neg h0, if_pos h1]; exact split_high (.leaf s) b a w h h0 h1
      · rw [if_neg h0, if_neg h1]; exact split_leaf s b a w h h0 h1 hz
  | .node l r, b, a, w, h, nn, hz => by
    have z : (T.node l r).bytes = l.bytes + r.bytes := rfl
    unfold splitT
    by_cases h0 : a ≤ 0
    · rw [if_pos h0]; exact split_low (some (.node l r)) _ a w ⟨b, rfl, h⟩ h0
    · by_cases h1 : ((T.node l r).runes : Int) ≤ a
      · rw [if_neg h0, if_pos h1]; exact split_high (.node l r) b a w h h0 h1
      · rw [if_neg h0, if_neg h1]
        by_cases h2 : a < (l.runes : Int)
        · rw [if_pos h2]; exact split_left l r b a w h h0 h1 h2 nn hz (fun bl W k => splitT_calls l bl a W k nn.1 (by omega))
        · rw [if_neg h2]; exact split_right l r b a w h h0 h1 h2 nn hz (fun br W k => splitT_calls r br _ W k nn.2 (by omega))
theorem split_calls (t : Option T) (v : Value) (a : Int) (w : World) (h : IsR w v t) (nn : NeO t) (hz : bytesO t ≤ 1099511627776) :
    Calls Tryd.prog 70 #[v, .int .i64 a] w (Ret2 (splitO t a) w) := by
  cases t with
  | none => exact split_nil v a w h
  | some t => obtain ⟨b, rfl, h⟩ := h; exact splitT_calls t b a w h nn hz
/-- What Put makes. -/
def putO (t : Option T) (a : Int) (x : Option T) : Option T := joinO (joinO (splitO t a).1 x) (splitO t a).2
theorem put_calls (t x : Option T) (v u : Value) (a : Int) (w : World) (h : IsR w v t) (hx : IsR w u x) (nt : NeO t) (nx : NeO x) (hz : bytesO t + bytesO x ≤ 1099511627776) :
    Calls Tryd.prog 44 #[v, .int .i64 a, u] w (Ret (putO t a x) w) := by
  have N := splitO_Ne nt a
  have Z := splitO_bytes t a
  have N1 := Lib.hid N.1
  have N2 := Lib.hid N.2
  have N3 : Hid (NeO (joinO (splitO t a).1 x)) := joinO_Ne N.1 nx
  have Z0 : Hid (bytesO t ≤ 1099511627776) := by show _ ≤ _; omega
  have Z1 : Hid (bytesO (splitO t a).1 + bytesO x ≤ 1099511627776) := by show _ ≤ _; omega
  have Z2 : Hid (bytesO (joinO (splitO t a).1 x) + bytesO (splitO t a).2 ≤ 1099511627776) := by show _ ≤ _; rw [joinO_bytes]; omega
  have H := Lib.hid h
  have HX := Lib.hid hx
  clear N Z hz h hx
  unfold putO
  generalize hp : splitO t a = p at *
  have HP := Lib.hid hp
  clear hp
  obtain ⟨p1, p2⟩ := p
  dsimp only at *
  go_enter Tryd.func44, Tryd.ntmps44
  go_wp2_with fail
  (go_at_call 70; refine (split_calls t v a _ H.out nt Z0.out).mono ?_; rintro e w1 ⟨v1, v2, rfl, k1, k2, hb⟩)
  rw [HP.out] at k1 k2
  have K1 := Lib.hid k1
  have K2 := Lib.hid k2
  have HB := Lib.hid hb
  clear k1 k2 hb
  go_wp2_with fail
  (go_at_call 71; refine (joinO_calls p1 x v1 u _ K1.out (HX.out.below HB.out) N1.out nx Z1.out).mono ?_; rintro e w2 ⟨v3, rfl, k3, hb2⟩)
  have K3 := Lib.hid k3
  have HB2 := Lib.hid hb2
  clear k3 hb2
  go_wp2_with fail
  (go_at_call 71; refine (joinO_calls _ p2 v3 v2 _ K3.out (K2.out.below HB2.out) N3.out N2.out Z2.out).mono ?_; rintro e w3 ⟨v4, rfl, k4, hb3⟩)
  have K4 := Lib.hid k4
  have HB3 := Lib.hid hb3
  clear k4 hb3
  go_wp2
  go_ret
  exact ⟨_, rfl, K4.out, below_step (below_step HB.out HB2.out) HB3.out⟩
/-- What Cut and Drop make, of places that are 0 at least. -/
def cutO (t : Option T) (a b : Int) : Option T := if b ≤ mx a 0 then none else (splitO (splitO t b).1 (mx a 0)).2
theorem cut_calls (t : Option T) (v : Value) (a b : Int) (w : World) (h : IsR w v t) (nt : NeO t) (hz : bytesO t ≤ 1099511627776) :
    Calls Tryd.prog 53 #[v, .int .i64 a, .int .i64 b] w (Ret (cutO t a b) w) := by
  unfold cutO
  have hm : max a 0 = mx a 0 := by unfold mx; split <;> omega
  generalize hc : mx a 0 = c at *
  have H := Lib.hid h
  clear h
  by_cases hle : b ≤ c
  · rw [if_pos hle]
    have hd : decide (b ≤ c) = true := by simp; omega
    have hx : (if a < 0 then (0 : Int) else a) = c := by rw [← hc]; rfl
    go_enter Tryd.func53, Tryd.ntmps53
    clear hc hm
    by_cases h0 : a < 0
    all_goals
      simp only [h0, if_true, if_false] at hx
      subst hx
      go_wp2
      go_ret
      exact ⟨_, rfl, rfl, Below.refl _ _⟩
  · rw [if_neg hle]
    have hd : decide (b ≤ c) = false := by simp; omega
    have hx : (if a < 0 then (0 : Int) else a) = c := by rw [← hc]; rfl
    have N := splitO_Ne nt b
    have Z := splitO_bytes t b
    have N1 := Lib.hid N.1
    have Z1 : Hid (bytesO (splitO t b).1 ≤ 1099511627776) := by show _ ≤ _; omega
    clear N Z hc hm
    go_enter Tryd.func53, Tryd.ntmps53
    by_cases h0 : a < 0
    all_goals
      simp only [h0, if_true, if_false] at hx
      subst hx
      go_wp2_with fail
      (go_at_call 70; refine (split_calls t v b _ H.out nt hz).mono ?_; rintro e w1 ⟨v1, v2, rfl, k1, k2, hb⟩)
      have K1 := Lib.hid k1
      have HB := Lib.hid hb
      clear k1 k2 hb
      go_wp2_with fail
      (go_at_call 70; refine (split_calls _ v1 _ _ K1.out N1.out Z1.out).mono ?_; rintro e w2 ⟨v3, v4, rfl, k3, k4, hb2⟩)
      have K4 := Lib.hid k4
      have HB2 := Lib.hid hb2
      clear k3 k4 hb2
      go_wp2
      go_ret
      exact ⟨_, rfl, K4.out, below_step HB.out HB2.out⟩
theorem len_calls (t : Option T) (v : Value) (w : World) (h : IsR w v t) : Calls Tryd.prog 36 #[v] w fun e w' => e = .returned (.int .i64 (runesO t : Nat)) ∧ w = w' := by
  cases t with
  | none =>
    have e : v = .pointer none := h
    subst e
    clear h
    go_enter Tryd.func36, Tryd.ntmps36
    go_wp2
    go_ret
    exact ⟨rfl, rfl⟩
  | some t =>
    obtain ⟨b, rfl, h⟩ := h
    obtain ⟨l, r, c⟩ := h.cells
    have c4 : w.cell? ⟨b, 4, none⟩ = some (.int .i64 (t.runes : Int)) := blk_cell c 4
    clear h c
    go_enter Tryd.func36, Tryd.ntmps36
    go_wp2
    go_ret
    exact ⟨rfl, rfl⟩
theorem bytes_calls (t : Option T) (v : Value) (w : World) (h : IsR w v t) : Calls Tryd.prog 41 #[v] w fun e w' => e = .returned (.int .i64 (bytesO t : Nat)) ∧ w = w' := by
  cases t with
  | none =>
    have e : v = .pointer none := h
    subst e
    clear h
    go_enter Tryd.func41, Tryd.ntmps41
    go_wp2
    go_ret
    exact ⟨rfl, rfl⟩
  | some t =>
    obtain ⟨b, rfl, h⟩ := h
    obtain ⟨l, r, c⟩ := h.cells
    have c4 : w.cell? ⟨b, 5, none⟩ = some (.int .i64 (t.bytes : Int)) := blk_cell c 5
    clear h c
    go_enter Tryd.func41, Tryd.ntmps41
    go_wp2
    go_ret
    exact ⟨rfl, rfl⟩
end Go.Proofs.YtjphmebhofkhcaaDoor.Rope
/- The walk of Height: how high a rope's tree is. No condition. -/
namespace Go.Proofs.YtjphmebhofkhcaaDoor.Rope
open Go.RowKit Go.Proofs.YtjphmebhofkhcaaDoorW.PrintWords Go.Proofs.YtjphmebhofkhcaaDoorW.PrintLast Go.Proofs.YtjphmebhofkhcaaDoorW.PrintMore
set_option linter.unusedVariables false
end Go.Proofs.YtjphmebhofkhcaaDoor.Rope
/- The walks of Parts and Text: a rope's parts, and its text. Conditions: texts of at most 2^40 bytes. -/
namespace Go.Proofs.YtjphmebhofkhcaaDoor.Rope
open Go.RowKit Go.Proofs.YtjphmebhofkhcaaDoorW.PrintWords Go.Proofs.YtjphmebhofkhcaaDoorW.PrintLast Go.Proofs.YtjphmebhofkhcaaDoorW.PrintMore
set_option linter.unusedVariables false
set_option linter.unusedSimpArgs false
theorem info_str : (Tryd.prog.info? 9).map (fun i => (i.zero, i.size, i.bytes)) = some (some (.string ByteArray.empty), 1, 16) := by kernel_rfl
/-- A new list of strings comes back. -/
def RetL (xs : List ByteArray) (w : World) (e : Ending) (w' : World) : Prop := ∃ v, e = .returned v ∧ Kd.R Kd.string 9 w' w.heap.size (fun _ => True) v xs ∧ Below w.heap.size w w'
theorem T.parts_le : ∀ t : T, t.Ne → t.parts.length ≤ t.bytes
  | .leaf s, h => by simp only [parts, bytes, List.length_singleton]; exact h
  | .node l r, h => by have := parts_le l h.1; have := parts_le r h.2; simp only [parts, bytes, List.length_append]; omega
theorem partsO_le (t : Option T) (h : NeO t) : (partsO t).length ≤ bytesO t := by
  cases t with
  | none => exact Nat.le_refl _
  | some t => exact t.parts_le h
theorem Kd.R_C {α : Type} {d : Kd α} {e : Nat} {w : World} {base : Nat} {ok : Nat → Prop} {A : Option Addr} {c : Nat} {xs : List α} (h : d.R e w base ok (.slice A xs.length c) xs) : d.C w A xs.length xs := by
  obtain ⟨A', c', e1, hl, hc⟩ := Kd.R_reads h
  injection e1 with e1 _ _
  subst e1
  exact hc
set_option maxRecDepth 100000 in
theorem parts_leaf (s : ByteArray) (b : Nat) (w : World) (h : IsT w (.leaf s) b) : Calls Tryd.prog 46 #[.pointer (some ⟨b, 0, none⟩)] w (RetL [s] w) := by
  have c3 : w.cell? ⟨b, 3, none⟩ = some (.int .i64 0) := blk_cell h 3
  have c0 : w.cell? ⟨b, 0, none⟩ = some (.string s) := blk_cell h 0
  clear h
  go_enter Tryd.func46, Tryd.ntmps46
  go_wp2
  go_ret
  refine ⟨_, rfl, ⟨fun _ _ => trivial, [.string s], ?_, ?_⟩, (Below.refl _ _).alloc (Nat.le_refl _) _⟩
  · have h2 := World.ownsRow_lit (base := w.heap.size) (e := 9) (size := 1) w #[.string s] 1 (Nat.le_refl _) (by simp [maxLen]) (by simp)
    simp only [List.size_toArray, List.length_singleton, Nat.mul_one] at h2
    exact h2
  · refine ⟨rfl, fun j p hj => ?_⟩
    obtain ⟨hjl, hp⟩ := List.getElem?_eq_some_iff.1 hj
    have : j = 0 := by simpa using hjl
    subst this
    have hp' : s = p := by simpa using hp
    subst hp'
    exact (rfl : [Value.string s] = [Value.string s])
theorem parts_nil (w : World) : Calls Tryd.prog 46 #[.pointer none] w (RetL [] w) := by
  go_enter Tryd.func46, Tryd.ntmps46
  go_wp2
  go_ret
  exact ⟨_, rfl, Kd.R_nil _ _ _ _ _, Below.refl _ _⟩
set_option maxRecDepth 100000 in
set_option maxHeartbeats 2000000 in
theorem parts_node (l r : T) (b : Nat) (w : World) (h : IsT w (.node l r) b) (hz : l.parts.length + r.parts.length ≤ 1099511627776)
    (ihl : ∀ (bl : Nat) (W : World), IsT W l bl → Calls Tryd.prog 46 #[.pointer (some ⟨bl, 0, none⟩)] W (RetL l.parts W))
    (ihr : ∀ (br : Nat) (W : World), IsT W r br → Calls Tryd.prog 46 #[.pointer (some ⟨br, 0, none⟩)] W (RetL r.parts W)) :
    Calls Tryd.prog 46 #[.pointer (some ⟨b, 0, none⟩)] w (RetL (l.parts ++ r.parts) w) := by
  obtain ⟨bl, br, c, hl, hr⟩ := h.sides
  have hd4 : (((T.node l r).h : Int) == 0) = false := by simp [T.h]; omega
  have c1 : w.cell? ⟨b, 1, none⟩ = some (.pointer (some ⟨bl, 0, none⟩)) := blk_cell c 1
  have c2 : w.cell? ⟨b, 2, none⟩ = some (.pointer (some ⟨br, 0, none⟩)) := blk_cell c 2
  have c3 : w.cell? ⟨b, 3, none⟩ = some (.int .i64 ((T.node l r).h : Int)) := blk_cell c 3
  generalize (T.node l r).h = th at *
  generalize (T.node l r).runes = tn at *
  generalize (T.node l r).bytes = tz at *
  have IL := Lib.hid ihl
  have IR := Lib.hid ihr
  have HL := Lib.hid hl
  have HR := Lib.hid hr
  have C1 := Lib.hid c1
  have C2 := Lib.hid c2
  have Z := Lib.hid hz
  clear h c hl hr ihl ihr hz
  go_enter Tryd.func46, Tryd.ntmps46
  go_wp2
  have QS := Lib.hid (show JS w ⟨b, 1, none⟩ ⟨b, 2, none⟩ (.pointer (some ⟨bl, 0, none⟩)) (.pointer (some ⟨br, 0, none⟩)) w from ⟨c1, c2, Below.refl _ _⟩)
  clear c1 c2 c3 hd4
  go_region_held3 (fun w' => JS w ⟨b, 1, none⟩ ⟨b, 2, none⟩ (.pointer (some ⟨bl, 0, none⟩)) (.pointer (some ⟨br, 0, none⟩)) w')
    (first | assumption | exact HS3.out | exact HSl.out | exact HSr.out | exact QS.out.next (by repeat (first | exact Below.refl _ _ | apply pw_below_drewN | apply Below.drew)))
    (first
      | (go_at_call 46; (with_reducible refine (IL.out bl _ ?ca).mono ?_); (case ca => exact HL.out.below (JS.b (w := w) (p := ⟨b, 1, none⟩) (q := ⟨b, 2, none⟩) (u := .pointer (some ⟨bl, 0, none⟩)) (v := .pointer (some ⟨br, 0, none⟩)) (by assumption))); rintro e wl ⟨vl, rfl, hr, hB⟩; have HSl := Lib.hid (JS.next (w := w) (p := ⟨b, 1, none⟩) (q := ⟨b, 2, none⟩) (u := .pointer (some ⟨bl, 0, none⟩)) (v := .pointer (some ⟨br, 0, none⟩)) (by assumption) hB); have RL := Lib.hid (Kd.R_lower hr (JS.b (w := w) (p := ⟨b, 1, none⟩) (q := ⟨b, 2, none⟩) (u := .pointer (some ⟨bl, 0, none⟩)) (v := .pointer (some ⟨br, 0, none⟩)) (by assumption)).size); obtain ⟨Al, cl, el⟩ := Kd.R_slice hr; subst el; have BL := Lib.hid hB; clear hr hB)
      | (go_at_call 46; (with_reducible refine (IR.out br _ ?cb).mono ?_); (case cb => exact HR.out.below (JS.b (w := w) (p := ⟨b, 1, none⟩) (q := ⟨b, 2, none⟩) (u := .pointer (some ⟨bl, 0, none⟩)) (v := .pointer (some ⟨br, 0, none⟩)) (by assumption))); rintro e wr ⟨vr, rfl, hr, hB⟩; have HSr := Lib.hid (JS.next (w := w) (p := ⟨b, 1, none⟩) (q := ⟨b, 2, none⟩) (u := .pointer (some ⟨bl, 0, none⟩)) (v := .pointer (some ⟨br, 0, none⟩)) (by assumption) hB); have RR := Lib.hid hr; obtain ⟨Ar, cr, er⟩ := Kd.R_slice hr; subst er; have BR := Lib.hid hB; clear hr hB)
      | (refine Kd.R_append_rows_step (w0 := w) (Rr := fun x cs => cs = [Value.string x]) Kd.string w.heap.size (by rfl) _ _ 81 9 (.string ByteArray.empty) 16 (by rfl) Tryd.underlying81 info_str rfl (by decide) (by decide) (.slice Al l.parts.length cl) l.parts r.parts Ar r.parts.length cr (fun _ => True) (fun _ => False) (by rfl) (by rfl) ?h1 ?h2 (fun x cs hx => hx) (fun _ hk => hk.elim) (fun _ _ => trivial) ?h3 ?h4 ?h5 ?h6
         (case h1 => first | exact RL.out | exact Kd.R_below RL.out BR.out)
         (case h2 => first | exact (Kd.C_below (Kd.R_C RR.out) BL.out) | exact Kd.R_C RR.out)
         (case h3 => exact JS.b (w := w) (p := ⟨b, 1, none⟩) (q := ⟨b, 2, none⟩) (u := .pointer (some ⟨bl, 0, none⟩)) (v := .pointer (some ⟨br, 0, none⟩)) (by assumption))
         (case h4 => exact (JS.b (w := w) (p := ⟨b, 1, none⟩) (q := ⟨b, 2, none⟩) (u := .pointer (some ⟨bl, 0, none⟩)) (v := .pointer (some ⟨br, 0, none⟩)) (by assumption)).size)
         (case h5 => have := Z.out; omega)
         intro v3 w3 hr3 hb3 hg3 hat3
         have HS3 := Lib.hid (show JS w ⟨b, 1, none⟩ ⟨b, 2, none⟩ (.pointer (some ⟨bl, 0, none⟩)) (.pointer (some ⟨br, 0, none⟩)) w3 from ⟨pw_cell_below hb3 C1.out, pw_cell_below hb3 C2.out, hb3⟩)
         have R3 := Lib.hid hr3
         clear hr3 hb3 hg3 hat3))
  all_goals
    go_wp2
    go_ret
    exact ⟨v3, rfl, R3.out, HS3.out.2.2⟩
theorem partsT_calls : ∀ (t : T) (b : Nat) (w : World), IsT w t b → t.Ne → t.bytes ≤ 1099511627776 → Calls Tryd.prog 46 #[.pointer (some ⟨b, 0, none⟩)] w (RetL t.parts w)
  | .leaf s, b, w, h, _, _ => parts_leaf s b w h
  | .node l r, b, w, h, hn, hz => by
    have z : (T.node l r).bytes = l.bytes + r.bytes := rfl
    have := l.parts_le hn.1
    have := r.parts_le hn.2
    exact parts_node l r b w h (by omega) (fun bl W k => partsT_calls l bl W k hn.1 (by omega)) (fun br W k => partsT_calls r br W k hn.2 (by omega))
theorem parts_calls (t : Option T) (v : Value) (w : World) (h : IsR w v t) (hn : NeO t) (hz : bytesO t ≤ 1099511627776) : Calls Tryd.prog 46 #[v] w (RetL (partsO t) w) := by
  cases t with
  | none =>
    have e : v = .pointer none := h
    subst e
    exact parts_nil w
  | some t => obtain ⟨b, rfl, h⟩ := h; exact partsT_calls t b w h hn hz
/-- The text of a rope. -/
def textL (t : Option T) : List UInt8 := ((partsO t).map (·.data.toList)).flatten
def textO (t : Option T) : ByteArray := ⟨(textL t).toArray⟩
theorem join_empty : ∀ xs : List (List UInt8), Lib.join xs [] = xs.flatten
  | [] => rfl
  | x :: r => by rw [Lib.join_cons]; simp [Lib.joinTail]
theorem T.text_length : ∀ t : T, ((t.parts.map (·.data.toList)).flatten).length = t.bytes
  | .leaf s => by simp [parts, bytes]
  | .node l r => by simp only [parts, bytes, List.map_append, List.flatten_append, List.length_append, text_length l, text_length r]
theorem textL_length (t : Option T) : (textL t).length = bytesO t := by
  cases t with
  | none => rfl
  | some t => exact t.text_length
/-- The cells of a list of strings that is read. -/
theorem row_strings {w : World} {base e : Nat} {ok : Nat → Prop} {v : Value} {xs : List ByteArray} (h : Kd.R Kd.string e w base ok v xs) :
    (v = .slice none 0 0 ∧ xs = []) ∨ ∃ g c, v = .slice (some ⟨g, 0, none⟩) xs.length c ∧ g < w.heap.size ∧ xs.length ≤ c ∧ ∀ (j : Nat) x, xs[j]? = some x → w.cell? ⟨g, 0 + j, none⟩ = some (.string x) := by
  have ho := Kd.own_of_R (enc := Value.string) (h1 := fun _ => rfl) h
  obtain ⟨h1, h2 | ⟨g, cap, cur, e1, hg, hh, hc, hm, hs, ht⟩⟩ := ho
  · exact .inl ⟨h2.1, List.eq_nil_of_length_eq_zero h2.2⟩
  · refine .inr ⟨g, cap, e1, blk_lt hh, hc, fun j x hj => ?_⟩
    rw [Nat.zero_add, blk_cell hh j]
    have hjl : j < xs.length := (List.getElem?_eq_some_iff.1 hj).1
    have : (cur.toList.take (xs.length * 1))[j]? = some (.string x) := by rw [ht, encs, List.getElem?_map, hj]; rfl
    rw [List.getElem?_take_of_lt (by omega)] at this
    simpa using this
set_option maxRecDepth 100000 in
theorem text_calls (t : Option T) (v : Value) (w : World) (h : IsR w v t) (hn : NeO t) (hz : bytesO t ≤ 1099511627776) :
    Calls Tryd.prog 16 #[v] w fun e w' => e = .returned (.string (textO t)) ∧ Below w.heap.size w w' := by
  have hl := partsO_le t hn
  have ht := textL_length t
  have hJ : Lib.join ((partsO t).map (·.data.toList)) (ByteArray.mk #[]).data.toList = textL t := join_empty _
  have HJ := Lib.hid hJ
  have HT := Lib.hid ht
  have H := Lib.hid h
  clear h hJ ht
  go_enter Tryd.func16, Tryd.ntmps16
  go_wp2_with fail
  (go_at_call 46; refine (parts_calls t v _ H.out hn hz).mono ?_; rintro e w1 ⟨v1, rfl, k1, hb⟩)
  have HB := Lib.hid hb
  rcases row_strings k1 with ⟨rfl, e2⟩ | ⟨g, c, rfl, hg, hc, hcells⟩
  · have E : textO t = ⟨#[]⟩ := by unfold textO textL; rw [e2]; rfl
    have EE := Lib.hid E
    clear k1 hb e2 E
    go_wp2_with fail
    (go_at_call 45; refine (Tryd.strings_Join_none none 0 _ _).mono ?_; rintro e w2 ⟨rfl, rfl⟩)
    go_wp2
    go_ret
    exact ⟨by rw [EE.out]; rfl, HB.out⟩
  · have KC := Lib.hid hcells
    have HG := Lib.hid hg
    clear k1 hb hcells hg
    go_wp2_with fail
    (go_at_call 45; refine (Tryd.strings_Join g 0 c (partsO t) ⟨#[]⟩ _ KC.out HG.out (by omega) hc (by rw [HJ.out, HT.out]; omega)).mono ?_; rintro e w2 ⟨rfl, hb2⟩)
    have HB2 := Lib.hid hb2
    clear hb2
    go_wp2
    go_ret
    refine ⟨?_, below_step HB.out HB2.out⟩
    rw [HJ.out]; rfl
end Go.Proofs.YtjphmebhofkhcaaDoor.Rope
/- The walk of rope.build: the rope of a list of ropes. Conditions: texts of at most 2^40 bytes. -/
namespace Go.Proofs.YtjphmebhofkhcaaDoor.Rope
open Go.RowKit Go.Proofs.YtjphmebhofkhcaaDoorW.PrintWords Go.Proofs.YtjphmebhofkhcaaDoorW.PrintLast Go.Proofs.YtjphmebhofkhcaaDoorW.PrintMore
set_option linter.unusedVariables false
set_option linter.unusedSimpArgs false
def encP (b : Nat) : Value := .pointer (some ⟨b, 0, none⟩)
/-- Blocks that hold ropes, one by one. -/
def IsTs (w : World) (ts : List T) (bs : List Nat) : Prop := ts.length = bs.length ∧ ∀ (j : Nat) t b, ts[j]? = some t → bs[j]? = some b → IsT w t b
theorem IsTs.below {w w1 : World} {ts : List T} {bs : List Nat} (h : IsTs w ts bs) (hb : Below w.heap.size w w1) : IsTs w1 ts bs := ⟨h.1, fun j t b h1 h2 => (h.2 j t b h1 h2).below hb⟩
theorem IsTs.take {w : World} {ts : List T} {bs : List Nat} (h : IsTs w ts bs) (k : Nat) : IsTs w (ts.take k) (bs.take k) := by
  refine ⟨by simp [h.1], fun j t b h1 h2 => ?_⟩
  rw [List.getElem?_take] at h1 h2
  split at h1
  · rename_i hj; rw [if_pos hj] at h2; exact h.2 j t b h1 h2
  · cases h1
theorem IsTs.drop {w : World} {ts : List T} {bs : List Nat} (h : IsTs w ts bs) (k : Nat) : IsTs w (ts.drop k) (bs.drop k) := by
  refine ⟨by simp [h.1], fun j t b h1 h2 => ?_⟩
  rw [List.getElem?_drop] at h1 h2
  exact h.2 _ t b h1 h2
/-- The cells from o on point to these blocks. -/
def RowP (w : World) (g o : Nat) (bs : List Nat) : Prop := ∀ (j : Nat) b, bs[j]? = some b → w.cell? ⟨g, o + j, none⟩ = some (encP b)
theorem RowP.below {w w1 : World} {g o : Nat} {bs : List Nat} (h : RowP w g o bs) (hb : Below w.heap.size w w1) : RowP w1 g o bs := fun j b hj => pw_cell_below hb (h j b hj)
theorem RowP.take {w : World} {g o : Nat} {bs : List Nat} (h : RowP w g o bs) (k : Nat) : RowP w g o (bs.take k) := fun j b hj => by
  rw [List.getElem?_take] at hj
  split at hj
  · exact h j b hj
  · cases hj
theorem RowP.drop {w : World} {g o : Nat} {bs : List Nat} (h : RowP w g o bs) (k : Nat) : RowP w g (o + k) (bs.drop k) := fun j b hj => by
  rw [List.getElem?_drop] at hj
  rw [Nat.add_assoc]
  exact h _ b hj
def sumB (ts : List T) : Nat := (ts.map T.bytes).sum
def AllNe (ts : List T) : Prop := ∀ t ∈ ts, t.Ne
/-- What rope.build makes. -/
def buildL (ts : List T) : Option T :=
  if h : ts.length ≤ 1 then ts.head? else joinO (buildL (ts.take (ts.length / 2))) (buildL (ts.drop (ts.length / 2)))
termination_by ts.length
decreasing_by all_goals (simp only [List.length_take, List.length_drop]; omega)
theorem sumB_append (a b : List T) : sumB (a ++ b) = sumB a + sumB b := by simp [sumB]
theorem buildL_both (n : Nat) : ∀ ts : List T, ts.length ≤ n → bytesO (buildL ts) = sumB ts ∧ (AllNe ts → NeO (buildL ts)) := by
  induction n with
  | zero =>
    intro ts h
    have : ts = [] := List.eq_nil_of_length_eq_zero (by omega)
    subst this
    rw [buildL, dif_pos (by simp)]
    exact ⟨rfl, fun _ => trivial⟩
  | succ n ih =>
    intro ts h
    rw [buildL]
    split
    · cases ts with
      | nil => exact ⟨rfl, fun _ => trivial⟩
      | cons t r =>
        have : r = [] := List.eq_nil_of_length_eq_zero (by simp at *; omega)
        subst this
        exact ⟨by simp [bytesO, sumB], fun h => h t (by simp)⟩
    · have k1 := ih (ts.take (ts.length / 2)) (by rw [List.length_take]; omega)
      have k2 := ih (ts.drop (ts.length / 2)) (by rw [List.length_drop]; omega)
      refine ⟨?_, fun hn => joinO_Ne (k1.2 fun t ht => hn t (List.mem_of_mem_take ht)) (k2.2 fun t ht => hn t (List.mem_of_mem_drop ht))⟩
      rw [joinO_bytes, k1.1, k2.1, ← sumB_append, List.take_append_drop]
theorem buildL_bytes (ts : List T) : bytesO (buildL ts) = sumB ts := (buildL_both _ ts (Nat.le_refl _)).1
theorem buildL_Ne {ts : List T} (h : AllNe ts) : NeO (buildL ts) := (buildL_both _ ts (Nat.le_refl _)).2 h
theorem build_nil (A : Option Addr) (c : Nat) (w : World) : Calls Tryd.prog 63 #[.slice A 0 c] w (Ret none w) := by
  go_enter Tryd.func63, Tryd.ntmps63
  go_wp2
  go_ret
  exact ⟨_, rfl, rfl, Below.refl _ _⟩
theorem build_one (t : T) (b g o c : Nat) (w : World) (hc : w.cell? ⟨g, o, none⟩ = some (encP b)) (ht : IsT w t b) : Calls Tryd.prog 63 #[.slice (some ⟨g, o, none⟩) 1 c] w (Ret (some t) w) := by
  unfold encP at hc
  have H := Lib.hid ht
  clear ht
  go_enter Tryd.func63, Tryd.ntmps63
  go_wp2
  go_ret
  exact ⟨_, rfl, ⟨b, rfl, H.out⟩, Below.refl _ _⟩
set_option maxRecDepth 100000 in
set_option maxHeartbeats 2000000 in
theorem build_many (n k g o c : Nat) (t1 t2 : Option T) (w : World) (hn : 2 ≤ n) (hk : k = n / 2) (hc : n ≤ c) (hc2 : c ≤ 9223372036854775807)
    (n1 : NeO t1) (n2 : NeO t2) (hz : bytesO t1 + bytesO t2 ≤ 1099511627776)
    (ih1 : ∀ (W : World), Below w.heap.size w W → Calls Tryd.prog 63 #[.slice (some ⟨g, o, none⟩) k c] W (Ret t1 W))
    (ih2 : ∀ (W : World), Below w.heap.size w W → Calls Tryd.prog 63 #[.slice (some ⟨g, o + k, none⟩) (n - k) (c - k)] W (Ret t2 W)) :
    Calls Tryd.prog 63 #[.slice (some ⟨g, o, none⟩) n c] w (Ret (joinO t1 t2) w) := by
  have e0 : ((n : Int) == 0) = false := by simp; omega
  have e1 : ((n : Int) == 1) = false := by simp; omega
  have q0 : (n : Int).tdiv 2 = (k : Int) := by rw [Int.tdiv_eq_ediv_of_nonneg (by omega)]; omega
  have q1 : IntKind.i64.wrap (k : Int) = (k : Int) := IntWalk.i64_in _ (by omega)
  have q2 : (0 : Int) ≤ (k : Int) := by omega
  have q3 : (k : Int) ≤ (n : Int) := by omega
  have q4 : (n : Int) ≤ (c : Int) := by omega
  have q5 : (k : Int) ≤ (c : Int) := by omega
  have q6 : ¬ c = k := by omega
  have I1 := Lib.hid ih1
  have I2 := Lib.hid ih2
  have Z := Lib.hid hz
  clear ih1 ih2 hz hk
  go_enter Tryd.func63, Tryd.ntmps63
  go_wp2
  go_region_held3 (fun w' => Below w.heap.size w w')
    (first | assumption | exact HS3.out | exact HS2.out | exact HS1.out | exact (Below.refl _ _) | exact (Below.refl _ _).drew)
    (first
      | (go_at_call 63; (with_reducible refine (I1.out _ ?ca).mono ?_); (case ca => assumption); rintro e w1 ⟨v1, rfl, k1, hB⟩; have HS1 := Lib.hid (show Below w.heap.size w w1 from below_step (by assumption) hB); have K1 := Lib.hid k1; have B1 := Lib.hid hB; clear k1 hB)
      | (go_at_call 63; (with_reducible refine (I2.out _ ?cb).mono ?_); (case cb => assumption); rintro e w2 ⟨v2, rfl, k2, hB⟩; have HS2 := Lib.hid (show Below w.heap.size w w2 from below_step (by assumption) hB); have K2 := Lib.hid k2; have B2 := Lib.hid hB; clear k2 hB)
      | (go_at_call 71; (refine (joinO_calls t1 t2 v1 v2 _ ?cc ?cd n1 n2 Z.out).mono ?_); (case cc => first | exact K1.out | exact K1.out.below B2.out); (case cd => first | exact K2.out | exact K2.out.below B1.out); rintro e w3 ⟨v3, rfl, k3, hB⟩; have HS3 := Lib.hid (show Below w.heap.size w w3 from below_step (by assumption) hB); have K3 := Lib.hid k3; clear k3 hB))
  all_goals
    go_wp2
    go_ret
    exact ⟨_, rfl, K3.out, HS3.out⟩
theorem build_calls (m : Nat) : ∀ (ts : List T) (bs : List Nat) (g o c : Nat) (w : World), ts.length ≤ m → IsTs w ts bs → RowP w g o bs → ts.length ≤ c → c ≤ 9223372036854775807 → AllNe ts → sumB ts ≤ 1099511627776 →
    Calls Tryd.prog 63 #[.slice (some ⟨g, o, none⟩) ts.length c] w (Ret (buildL ts) w) := by
  induction m with
  | zero =>
    intro ts bs g o c w hm h hr hc hc2 hn hz
    have : ts = [] := List.eq_nil_of_length_eq_zero (by omega)
    subst this
    rw [buildL, dif_pos (by simp)]
    exact build_nil _ c w
  | succ m ih =>
    intro ts bs g o c w hm h hr hc hc2 hn hz
    rw [buildL]
    split
    · cases ts with
      | nil => exact build_nil _ c w
      | cons t r =>
        have : r = [] := List.eq_nil_of_length_eq_zero (by simp at *; omega)
        subst this
        obtain ⟨b, r, rfl⟩ : ∃ b r, bs = b :: r := by
          cases bs with
          | nil => have := h.1; simp at this
          | cons b r => exact ⟨b, r, rfl⟩
        exact build_one t b g o c w (hr 0 b rfl) (h.2 0 t b rfl rfl)
    · rename_i hl
      have l1 : (ts.take (ts.length / 2)).length = ts.length / 2 := by rw [List.length_take]; omega
      have l2 : (ts.drop (ts.length / 2)).length = ts.length - ts.length / 2 := by rw [List.length_drop]
      have s1 := sumB_append (ts.take (ts.length / 2)) (ts.drop (ts.length / 2))
      rw [List.take_append_drop] at s1
      have a1 : AllNe (ts.take (ts.length / 2)) := fun t ht => hn t (List.mem_of_mem_take ht)
      have a2 : AllNe (ts.drop (ts.length / 2)) := fun t ht => hn t (List.mem_of_mem_drop ht)
      refine build_many ts.length (ts.length / 2) g o c _ _ w (by omega) rfl hc hc2 (buildL_Ne a1) (buildL_Ne a2) (by rw [buildL_bytes, buildL_bytes]; omega) (fun W hW => ?_) (fun W hW => ?_)
      · have := ih (ts.take (ts.length / 2)) (bs.take (ts.length / 2)) g o c W (by omega) ((h.take _).below hW) ((hr.take _).below hW) (by omega) hc2 a1 (by omega)
        rw [l1] at this
        exact this
      · have := ih (ts.drop (ts.length / 2)) (bs.drop (ts.length / 2)) g (o + ts.length / 2) (c - ts.length / 2) W (by omega) ((h.drop _).below hW) ((hr.drop _).below hW) (by omega) (by omega) a2 (by omega)
        rw [l2] at this
        exact this
end Go.Proofs.YtjphmebhofkhcaaDoor.Rope
