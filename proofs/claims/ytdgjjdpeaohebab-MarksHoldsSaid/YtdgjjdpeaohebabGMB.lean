/- Marks: what the laws share: chancellaw04.right's contract, marks as arguments. Conditions: at most 2^40 spans and sites. -/
import Derived.Test.YtdgjjdpeaohebabGMA
namespace Go.Proofs.Ytdgjjdpeaohebab.Mk
open Go.RowKit Go.Proofs.YtdgjjdpeaohebabW.PrintWords Go.Proofs.YtdgjjdpeaohebabW.PrintLast Go.Proofs.YtdgjjdpeaohebabW.PrintMore Go.Proofs.Ytdgjjdpeaohebab.PMarksHolds Go.Proofs.Ytdgjjdpeaohebab.Pure
set_option linter.unusedVariables false
set_option linter.unusedSimpArgs false
theorem heapSp : Kd.Heap k34 := Kd.heap_iso _ (Kd.heap_pair (Kd.heap_int .i64) (Kd.heap_pair (Kd.heap_int .i64) (Kd.heap_int .i64)))
theorem heapY : Kd.Heap k48 := Kd.heap_iso _ (Kd.heap_pair (Kd.heap_int .i64) (Kd.heap_int .i64))
/-- Marks in memory. -/
def MkC (w : World) (A : Option Addr) (c : Nat) (B : Option Addr) (d : Nat) (xs : List Sp) (ys : List SY) : Prop := xs.length ≤ c ∧ ys.length ≤ d ∧ Kd.C kSp w A xs.length xs ∧ Kd.C kY w B ys.length ys
theorem MkC.below {w W : World} {A : Option Addr} {c : Nat} {B : Option Addr} {d : Nat} {xs : List Sp} {ys : List SY} (h : MkC w A c B d xs ys) (hb : Below w.heap.size w W) : MkC W A c B d xs ys := ⟨h.1, h.2.1, Kd.C_below h.2.2.1 hb, Kd.C_below h.2.2.2 hb⟩
/-- A value is marks. -/
def IsMk (w : World) (v : Value) (xs : List Sp) (ys : List SY) : Prop := ∃ A c B d, v = .agg #[.slice A xs.length c, .slice B ys.length d] ∧ MkC w A c B d xs ys
theorem RetMk.is {o : List Sp} {zs : List SY} {w : World} {e : Ending} {w' : World} (h : RetMk o zs w e w') : ∃ A c B d, e = .returned (.agg #[.slice A o.length c, .slice B zs.length d]) ∧ MkC w' A c B d o zs ∧ Below w.heap.size w w' := by
 obtain ⟨A, c, B, d, e, h1, h2, hb⟩ := h
 exact ⟨A, c, B, d, e, ⟨(Kd.R_reads' h1).2.1, (Kd.R_reads' h2).2.1, (Kd.R_reads' h1).2.2, (Kd.R_reads' h2).2.2⟩, hb⟩
theorem right_calls (A : Option Addr) (c : Nat) (xs : List Sp) (B : Option Addr) (d : Nat) (ys : List SY) (n a b : Int) (w : World) (hr : Kd.C kSp w A xs.length xs) (hc : xs.length ≤ c) (hs : Kd.C kY w B ys.length ys) (hd : ys.length ≤ d) (hl : xs.length ≤ 8796093022208) (hly : ys.length ≤ 8796093022208) :
  Calls Try.prog 5 #[.agg #[.slice A xs.length c, .slice B ys.length d, .int .i64 n, .int .i64 a, .int .i64 b]] w fun e w' => ∃ v1 v2, e = .returned (.tuple #[v1, v2, .bool (caseB xs ys n a b)]) ∧ IsMk w' v1 xs ys ∧ IsMk w' v2 xs ys ∧ Below w.heap.size w w' := by
 obtain ⟨k, hk⟩ := Go.Proofs.YtdgjjdpeaohebabW.PrintWords.Ev.rounds (law_right_ev xs ys n a b (by omega) (by omega))
 refine (chancellaw04_right.calls k _ A c xs _ B d ys n a b xs ys xs ys _ w (Kd.V_mk hc (Kd.C_F heapSp hr)) (Kd.V_mk hd (Kd.C_F heapY hs)) hk).mono ?_
 rintro e w' ⟨v0, v1, v2, v3, rfl, h0, h1, h2, h3, hb⟩
 obtain ⟨A0, c0, e0⟩ := Kd.V_slice h0
 obtain ⟨A1, c1, e1⟩ := Kd.V_slice h1
 obtain ⟨A2, c2, e2⟩ := Kd.V_slice h2
 obtain ⟨A3, c3, e3⟩ := Kd.V_slice h3
 subst e0 e1 e2 e3
 exact ⟨_, _, rfl, ⟨A0, c0, A1, c1, rfl, (Kd.V_reads' h0).2.1, (Kd.V_reads' h1).2.1, (Kd.V_reads' h0).2.2, (Kd.V_reads' h1).2.2⟩, ⟨A2, c2, A3, c3, rfl, (Kd.V_reads' h2).2.1, (Kd.V_reads' h3).2.1, (Kd.V_reads' h2).2.2, (Kd.V_reads' h3).2.2⟩, hb⟩
theorem case_iff {xs : List Sp} {ys : List SY} {n a b : Int} : caseB xs ys n a b = true ↔ 0 ≤ n ∧ n ≤ 2000 ∧ 0 ≤ a ∧ a ≤ b ∧ b ≤ n ∧ xs.length ≤ 2000 ∧ ys.length ≤ 300 ∧ rightB n xs ys = true := by
 unfold caseB
 simp only [Bool.and_eq_true, decide_eq_true_eq, and_assoc]
theorem right_iff {xs : List Sp} {ys : List SY} {n : Int} : rightB n xs ys = true ↔ spansOk n none xs = true ∧ sitesOk n none ys = true := by unfold rightB; rw [Bool.and_eq_true]
/-- Sites that are moved within the bounds are right, each once in order. -/
theorem norm_right {n n' : Int} {ys : List SY} {f : Int → Int} (h : sitesOk n none ys = true) (hf : ∀ p, 0 ≤ p → p ≤ n → 0 ≤ f p ∧ f p ≤ n') : sitesOk n' none (normY (ys.map (mvY f))) = true := by
 obtain ⟨h1, h2, _⟩ := (sitesOk_iff n none ys).1 h
 refine (sitesOk_iff n' none _).2 ⟨fun s hs => ?_, (normY_ok _).1, fun q hq => by cases hq⟩
 obtain ⟨y, hy, rfl⟩ := List.mem_map.1 (((normY_ok _).2 s).1 hs)
 have := h1 y hy
 exact ⟨this.1, hf y.f1 this.2.1 this.2.2⟩
/-- What a law keeps: the case, and two marks of its own. -/
structure L3 (w : World) (g3 g8 g9 : Nat) (c3 c8 c9 : Array Value) (W : World) : Prop where
 b : Below w.heap.size w W
 h3 : W.heap[g3]? = some (.cells c3 25 (0, 0))
 h8 : W.heap[g8]? = some (.cells c8 28 (0, 0))
 h9 : W.heap[g9]? = some (.cells c9 30 (0, 0))
theorem L3.next {w W W' : World} {g3 g8 g9 : Nat} {c3 c8 c9 : Array Value} (h : L3 w g3 g8 g9 c3 c8 c9 W) (hb : Below W.heap.size W W') : L3 w g3 g8 g9 c3 c8 c9 W' := ⟨below_step h.b hb, blk_below h.h3 hb, blk_below h.h8 hb, blk_below h.h9 hb⟩
theorem two_set {W : World} {g8 g9 : Nat} {a8 b8 a9 b9 : Value} (h8 : W.heap[g8]? = some (.cells #[a8, b8] 28 (0, 0))) (h9 : W.heap[g9]? = some (.cells #[a9, b9] 30 (0, 0))) (p q r s : Value) :
  ((((W.setCell ⟨g8, 0, none⟩ p).setCell ⟨g8, 1, none⟩ q).setCell ⟨g9, 0, none⟩ r).setCell ⟨g9, 1, none⟩ s).heap[g8]? = some (.cells #[p, q] 28 (0, 0)) ∧ ((((W.setCell ⟨g8, 0, none⟩ p).setCell ⟨g8, 1, none⟩ q).setCell ⟨g9, 0, none⟩ r).setCell ⟨g9, 1, none⟩ s).heap[g9]? = some (.cells #[r, s] 30 (0, 0)) := by
 have e8 := blk_set h8 0 p
 have e8' := blk_set e8 1 q
 have e9 := (set_typeM h8 (t := 30) (by decide) 0 p g9 _ h9).trans h9
 have e9' := (set_typeM e8 (t := 30) (by decide) 1 q g9 _ e9).trans e9
 have f9 := blk_set e9' 0 r
 have f9' := blk_set f9 1 s
 have f8 := (set_typeM e9' (t := 28) (by decide) 0 r g8 _ e8').trans e8'
 have f8' := (set_typeM f9 (t := 28) (by decide) 1 s g8 _ f8).trans f8
 exact ⟨by simpa using f8', by simpa using f9'⟩
/-- What is read at a law's end. -/
abbrev SL (V : World) (g3 gx g9 : Nat) (n a b : Int) (x0 x1 y0 y1 : Value) (W : World) : Prop :=
 W.cell? ⟨g3, 2, none⟩ = some (.int .i64 n) ∧ W.cell? ⟨g3, 3, none⟩ = some (.int .i64 a) ∧ W.cell? ⟨g3, 4, none⟩ = some (.int .i64 b) ∧ W.cell? ⟨gx, 0, none⟩ = some x0 ∧ W.cell? ⟨gx, 1, none⟩ = some x1 ∧ W.cell? ⟨g9, 0, none⟩ = some y0 ∧ W.cell? ⟨g9, 1, none⟩ = some y1 ∧ Below V.heap.size V W
theorem SL.next {V W W' : World} {g3 gx g9 : Nat} {n a b : Int} {x0 x1 y0 y1 : Value} (h : SL V g3 gx g9 n a b x0 x1 y0 y1 W) (hb : Below W.heap.size W W') : SL V g3 gx g9 n a b x0 x1 y0 y1 W' :=
 ⟨pw_cell_below hb h.1, pw_cell_below hb h.2.1, pw_cell_below hb h.2.2.1, pw_cell_below hb h.2.2.2.1, pw_cell_below hb h.2.2.2.2.1, pw_cell_below hb h.2.2.2.2.2.1, pw_cell_below hb h.2.2.2.2.2.2.1, below_step h.2.2.2.2.2.2.2 hb⟩
theorem SL.b {V W : World} {g3 gx g9 : Nat} {n a b : Int} {x0 x1 y0 y1 : Value} (h : SL V g3 gx g9 n a b x0 x1 y0 y1 W) : Below V.heap.size V W := h.2.2.2.2.2.2.2
end Go.Proofs.Ytdgjjdpeaohebab.Mk
/- Marks: the walk of the law MarksPut. Conditions: none beside the row's. -/
namespace Go.Proofs.Ytdgjjdpeaohebab.Mk
open Go.RowKit Go.Proofs.YtdgjjdpeaohebabW.PrintWords Go.Proofs.YtdgjjdpeaohebabW.PrintLast Go.Proofs.YtdgjjdpeaohebabW.PrintMore Go.Proofs.Ytdgjjdpeaohebab.PMarksHolds Go.Proofs.Ytdgjjdpeaohebab.Pure
set_option linter.unusedVariables false
set_option linter.unusedSimpArgs false
theorem toP_eq {a k p : Int} (ha : 0 ≤ a) (hk : 0 ≤ k ∧ k ≤ 300) (hp : 0 ≤ p ∧ p ≤ 2000) : toP a k p = if p > a then p + k else p := by
 unfold toP
 split
 ·exact IntWalk.i64_in _ (by omega)
 ·rfl
end Go.Proofs.Ytdgjjdpeaohebab.Mk
