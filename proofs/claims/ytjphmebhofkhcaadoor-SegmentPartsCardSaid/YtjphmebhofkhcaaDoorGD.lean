/- Marks: what the laws share: chancellaw04.right's contract, marks as arguments. Conditions: at most 2^40 spans and sites. -/
import Derived.Test.YtjphmebhofkhcaaDoorGC
import Derived.Shelf.Spec.SlicesInsertGrow
import Derived.Laws.CopyOwn
namespace Go.Proofs.YtjphmebhofkhcaaDoor.Mk
open Go.RowKit Go.Proofs.YtjphmebhofkhcaaDoorW.PrintWords Go.Proofs.YtjphmebhofkhcaaDoorW.PrintLast Go.Proofs.YtjphmebhofkhcaaDoorW.PrintMore Go.Proofs.YtjphmebhofkhcaaDoor.PSegAll Go.Proofs.YtjphmebhofkhcaaDoor.Pure
set_option linter.unusedVariables false
set_option linter.unusedSimpArgs false
/-- Marks in memory. -/
def MkC (w : World) (A : Option Addr) (c : Nat) (B : Option Addr) (d : Nat) (xs : List Sp) (ys : List SY) : Prop := xs.length ≤ c ∧ ys.length ≤ d ∧ Kd.C kSp w A xs.length xs ∧ Kd.C kY w B ys.length ys
theorem MkC.below {w W : World} {A : Option Addr} {c : Nat} {B : Option Addr} {d : Nat} {xs : List Sp} {ys : List SY} (h : MkC w A c B d xs ys) (hb : Below w.heap.size w W) : MkC W A c B d xs ys := ⟨h.1, h.2.1, Kd.C_below h.2.2.1 hb, Kd.C_below h.2.2.2 hb⟩
theorem RetMk.is {o : List Sp} {zs : List SY} {w : World} {e : Ending} {w' : World} (h : RetMk o zs w e w') : ∃ A c B d, e = .returned (.agg #[.slice A o.length c, .slice B zs.length d]) ∧ MkC w' A c B d o zs ∧ Below w.heap.size w w' := by
 obtain ⟨A, c, B, d, e, h1, h2, hb⟩ := h
 exact ⟨A, c, B, d, e, ⟨(Kd.R_reads' h1).2.1, (Kd.R_reads' h2).2.1, (Kd.R_reads' h1).2.2, (Kd.R_reads' h2).2.2⟩, hb⟩
theorem right_iff {xs : List Sp} {ys : List SY} {n : Int} : rightB n xs ys = true ↔ spansOk n none xs = true ∧ sitesOk n none ys = true := by unfold rightB; rw [Bool.and_eq_true]
/-- What is read at a law's end. -/
abbrev SL (V : World) (g3 gx g9 : Nat) (n a b : Int) (x0 x1 y0 y1 : Value) (W : World) : Prop :=
 W.cell? ⟨g3, 2, none⟩ = some (.int .i64 n) ∧ W.cell? ⟨g3, 3, none⟩ = some (.int .i64 a) ∧ W.cell? ⟨g3, 4, none⟩ = some (.int .i64 b) ∧ W.cell? ⟨gx, 0, none⟩ = some x0 ∧ W.cell? ⟨gx, 1, none⟩ = some x1 ∧ W.cell? ⟨g9, 0, none⟩ = some y0 ∧ W.cell? ⟨g9, 1, none⟩ = some y1 ∧ Below V.heap.size V W
theorem SL.next {V W W' : World} {g3 gx g9 : Nat} {n a b : Int} {x0 x1 y0 y1 : Value} (h : SL V g3 gx g9 n a b x0 x1 y0 y1 W) (hb : Below W.heap.size W W') : SL V g3 gx g9 n a b x0 x1 y0 y1 W' :=
 ⟨pw_cell_below hb h.1, pw_cell_below hb h.2.1, pw_cell_below hb h.2.2.1, pw_cell_below hb h.2.2.2.1, pw_cell_below hb h.2.2.2.2.1, pw_cell_below hb h.2.2.2.2.2.1, pw_cell_below hb h.2.2.2.2.2.2.1, below_step h.2.2.2.2.2.2.2 hb⟩
theorem SL.b {V W : World} {g3 gx g9 : Nat} {n a b : Int} {x0 x1 y0 y1 : Value} (h : SL V g3 gx g9 n a b x0 x1 y0 y1 W) : Below V.heap.size V W := h.2.2.2.2.2.2.2
end Go.Proofs.YtjphmebhofkhcaaDoor.Mk
/- Marks: the walk of the law MarksPut. Conditions: none beside the row's. -/
namespace Go.Proofs.YtjphmebhofkhcaaDoor.Mk
open Go.RowKit Go.Proofs.YtjphmebhofkhcaaDoorW.PrintWords Go.Proofs.YtjphmebhofkhcaaDoorW.PrintLast Go.Proofs.YtjphmebhofkhcaaDoorW.PrintMore Go.Proofs.YtjphmebhofkhcaaDoor.PSegAll Go.Proofs.YtjphmebhofkhcaaDoor.Pure
set_option linter.unusedVariables false
set_option linter.unusedSimpArgs false
end Go.Proofs.YtjphmebhofkhcaaDoor.Mk
/- Marks: the walk of slices.Insert at a row of sites of the call's own, one site put in. Conditions: at most 2^40 sites. -/
namespace Go.Proofs.YtjphmebhofkhcaaDoor.Mk
open Go.RowKit Go.Proofs.YtjphmebhofkhcaaDoorW.PrintWords Go.Proofs.YtjphmebhofkhcaaDoorW.PrintLast Go.Proofs.YtjphmebhofkhcaaDoorW.PrintMore Go.Proofs.YtjphmebhofkhcaaDoor.PSegAll Go.Proofs.YtjphmebhofkhcaaDoor.Pure
set_option linter.unusedVariables false
set_option linter.unusedSimpArgs false
end Go.Proofs.YtjphmebhofkhcaaDoor.Mk
/- Marks: the walk of slices.Insert at a row of sites of the call's own: there is room; there is none; at the end. Conditions: at most 2^40 sites. -/
namespace Go.Proofs.YtjphmebhofkhcaaDoor.Mk
open Go.RowKit Go.Proofs.YtjphmebhofkhcaaDoorW.PrintWords Go.Proofs.YtjphmebhofkhcaaDoorW.PrintLast Go.Proofs.YtjphmebhofkhcaaDoorW.PrintMore Go.Proofs.YtjphmebhofkhcaaDoor.PSegAll Go.Proofs.YtjphmebhofkhcaaDoor.Pure
set_option linter.unusedVariables false
set_option linter.unusedSimpArgs false
end Go.Proofs.YtjphmebhofkhcaaDoor.Mk
/- Marks: slices.Insert at a row of the call's own; the walk of slices.BinarySearchFunc at sites. Conditions: at most 2^40 sites. -/
namespace Go.Proofs.YtjphmebhofkhcaaDoor.Mk
open Go.RowKit Go.Proofs.YtjphmebhofkhcaaDoorW.PrintWords Go.Proofs.YtjphmebhofkhcaaDoorW.PrintLast Go.Proofs.YtjphmebhofkhcaaDoorW.PrintMore Go.Proofs.YtjphmebhofkhcaaDoor.PSegAll Go.Proofs.YtjphmebhofkhcaaDoor.Pure
set_option linter.unusedVariables false
set_option linter.unusedSimpArgs false
/-- What is read at a comparison. -/
abbrev S4 (V : World) (p : Addr) (gx : Nat) (y x : SY) (W : World) : Prop := W.cell? p = some (.int .i64 y.f0) ∧ W.cell? ⟨p.block, p.off + 1, none⟩ = some (.int .i64 y.f1) ∧ W.cell? ⟨gx, 0, none⟩ = some (.int .i64 x.f0) ∧ W.cell? ⟨gx, 1, none⟩ = some (.int .i64 x.f1) ∧ Below V.heap.size V W
theorem S4.next {V W W' : World} {p : Addr} {gx : Nat} {y x : SY} (h : S4 V p gx y x W) (hb : Below W.heap.size W W') : S4 V p gx y x W' := ⟨pw_cell_below hb h.1, pw_cell_below hb h.2.1, pw_cell_below hb h.2.2.1, pw_cell_below hb h.2.2.2.1, below_step h.2.2.2.2 hb⟩
end Go.Proofs.YtjphmebhofkhcaaDoor.Mk
/- Marks: Take's closure, and what Take keeps; a site put into sorted ones. Conditions: those named. -/
namespace Go.Proofs.YtjphmebhofkhcaaDoor.Mk
open Go.RowKit Go.Proofs.YtjphmebhofkhcaaDoorW.PrintWords Go.Proofs.YtjphmebhofkhcaaDoorW.PrintLast Go.Proofs.YtjphmebhofkhcaaDoorW.PrintMore Go.Proofs.YtjphmebhofkhcaaDoor.PSegAll Go.Proofs.YtjphmebhofkhcaaDoor.Pure
set_option linter.unusedVariables false
set_option linter.unusedSimpArgs false
/-- Where a place is behind letters that are taken away. -/
def toW (a b : Int) (p : Int) : Int := if p > b then IntKind.i64.wrap (p - (b - a)) else if p > a then a else p
def takeW (a b : Int) (xs : List Sp) : List Sp := xs.foldl (fun o s => addL o ⟨s.f0, toW a b s.f1, toW a b s.f2⟩) []
/-- What Take keeps behind moved: the place, the marks of its own, the place for the answer. -/
structure TZ (w : World) (g5 g8 g13 : Nat) (a : Int) (v : Value) (o : List Sp) (vy : Value) (zs : List SY) (W : World) : Prop where
 b : Below w.heap.size w W
 h5 : W.heap[g5]? = some (.cells #[.int .i64 a] 3 (0, 0))
 h8 : W.heap[g8]? = some (.cells #[.slice none 0 0, .slice none 0 0] 29 (0, 0))
 h13 : W.heap[g13]? = some (.cells #[v, vy] 29 (0, 0))
 lo8 : w.heap.size ≤ g8
 lo : w.heap.size ≤ g13
 ne : g8 ≠ g13
 row : Kd.R kSp 67 W w.heap.size (fun _ => True) v o
 ry : Kd.R kY 70 W w.heap.size (fun _ => True) vy zs
theorem TZ.next {w W W' : World} {g5 g8 g13 : Nat} {a : Int} {v : Value} {o : List Sp} {vy : Value} {zs : List SY} (h : TZ w g5 g8 g13 a v o vy zs W) (hb : Below W.heap.size W W') : TZ w g5 g8 g13 a v o vy zs W' := ⟨below_step h.b hb, blk_below h.h5 hb, blk_below h.h8 hb, blk_below h.h13 hb, h.lo8, h.lo, h.ne, Kd.R_below h.row hb, Kd.R_below h.ry hb⟩
end Go.Proofs.YtjphmebhofkhcaaDoor.Mk
/- Marks: the walk of Take. Conditions: at most 2^40 spans and sites, places within 0 and 2^60. -/
namespace Go.Proofs.YtjphmebhofkhcaaDoor.Mk
open Go.RowKit Go.Proofs.YtjphmebhofkhcaaDoorW.PrintWords Go.Proofs.YtjphmebhofkhcaaDoorW.PrintLast Go.Proofs.YtjphmebhofkhcaaDoorW.PrintMore Go.Proofs.YtjphmebhofkhcaaDoor.PSegAll Go.Proofs.YtjphmebhofkhcaaDoor.Pure
set_option linter.unusedVariables false
set_option linter.unusedSimpArgs false
attribute [local go_sem] max2_int min2_int max_two min_two
/-- A span's cells, read in a region that draws. -/
abbrev S3 (g : Nat) (x : Sp) (W : World) : Prop := W.cell? ⟨g, 0, none⟩ = some (.int .i64 x.f0) ∧ W.cell? ⟨g, 1, none⟩ = some (.int .i64 x.f1) ∧ W.cell? ⟨g, 2, none⟩ = some (.int .i64 x.f2)
theorem S3.of {g : Nat} {x : Sp} {W : World} (h : W.heap[g]? = some (.cells #[.int .i64 x.f0, .int .i64 x.f1, .int .i64 x.f2] 67 (0, 0))) : S3 g x W := ⟨(blk_cell h 0).trans rfl, (blk_cell h 1).trans rfl, (blk_cell h 2).trans rfl⟩
end Go.Proofs.YtjphmebhofkhcaaDoor.Mk
/- Marks: the walk of the reference's Take. Conditions: right marks of a text of at most 2^40 letters. -/
namespace Go.Proofs.YtjphmebhofkhcaaDoor.Mk
open Go.RowKit Go.Proofs.YtjphmebhofkhcaaDoorW.PrintWords Go.Proofs.YtjphmebhofkhcaaDoorW.PrintLast Go.Proofs.YtjphmebhofkhcaaDoorW.PrintMore Go.Proofs.YtjphmebhofkhcaaDoor.PSegAll Go.Proofs.YtjphmebhofkhcaaDoor.Pure
set_option linter.unusedVariables false
set_option linter.unusedSimpArgs false
attribute [local go_sem] max2_int min2_int max_two min_two
end Go.Proofs.YtjphmebhofkhcaaDoor.Mk
/- Marks: letters that are put and taken away again leave the marks as they were (plain law). Conditions: the bounds named. -/
namespace Go.Proofs.YtjphmebhofkhcaaDoor.Mk
open Go.RowKit Go.Proofs.YtjphmebhofkhcaaDoorW.PrintWords Go.Proofs.YtjphmebhofkhcaaDoorW.PrintLast Go.Proofs.YtjphmebhofkhcaaDoorW.PrintMore Go.Proofs.YtjphmebhofkhcaaDoor.PSegAll Go.Proofs.YtjphmebhofkhcaaDoor.Pure
set_option linter.unusedVariables false
set_option linter.unusedSimpArgs false
end Go.Proofs.YtjphmebhofkhcaaDoor.Mk
