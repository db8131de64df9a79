/- Marks: what the laws share: chancellaw04.right's contract, marks as arguments. Conditions: at most 2^40 spans and sites. -/
import Derived.Test.YtjphmebhofkhcaaDoorGC
import Derived.Shelf.Spec.SlicesInsertGrow
import Derived.Laws.CopyOwn
namespace Go.Proofs.YtjphmebhofkhcaaDoor.Mk
open Go.RowKit Go.Proofs.YtjphmebhofkhcaaDoorW.PrintWords Go.Proofs.YtjphmebhofkhcaaDoorW.PrintLast Go.Proofs.YtjphmebhofkhcaaDoorW.PrintMore Go.Proofs.YtjphmebhofkhcaaDoor.PSegAll Go.Proofs.YtjphmebhofkhcaaDoor.Pure
set_option linter.unusedVariables false
set_option linter.unusedSimpArgs false
/-- Marks in memory. -/
def MkC (w : World) (A : Option Addr) (c : Nat) (B : Option Addr) (d : Nat) (xs : List Sp) (ys : List SY) : Prop := xs.length ≤ c ∧ ys.length ≤ d ∧ Kd.C kSp w A xs.length xs ∧ Kd.C kY w B ys.length ys
theorem MkC.below {w W : World} {A : Option Addr} {c : Nat} {B : Option Addr} {d : Nat} {xs : List Sp} {ys : List SY} (h : MkC w A c B d xs ys) (hb : Below w.heap.size w W) : MkC W A c B d xs ys := ⟨h.1, h.2.1, Kd.C_below h.2.2.1 hb, Kd.C_below h.2.2.2 hb⟩
theorem RetMk.is {o : List Sp} {zs : List SY} {w : World} {e : Ending} {w' : World} (h : RetMk o zs w e w') : ∃ A c B d, e = .returned (.agg #[.slice A o.length c, .slice B zs.length d]) ∧ MkC w' A c B d o zs ∧ Below w.heap.size w w' := by
 obtain ⟨A, c, B, d, e, h1, h2, hb⟩ := h
 exact ⟨A, c, B, d, e, ⟨(Kd.R_reads' h1).2.1, (Kd.R_reads' h2).2.1, (Kd.R_reads' h1).2.2, (Kd.R_reads' h2).2.2⟩, hb⟩
theorem right_iff {xs : List Sp} {ys : List SY} {n : Int} : rightB n xs ys = true ↔ spansOk n none xs = true ∧ sitesOk n none ys = true := by unfold rightB; rw [Bool.and_eq_true]
/-- Sites that are moved within the bounds are right, each once in order. -/
theorem norm_right {n n' : Int} {ys : List SY} {f : Int → Int} (h : sitesOk n none ys = true) (hf : ∀ p, 0 ≤ p → p ≤ n → 0 ≤ f p ∧ f p ≤ n') : sitesOk n' none (normY (ys.map (mvY f))) = true := by
 obtain ⟨h1, h2, _⟩ := (sitesOk_iff n none ys).1 h
 refine (sitesOk_iff n' none _).2 ⟨fun s hs => ?_, (normY_ok _).1, fun q hq => by cases hq⟩
 obtain ⟨y, hy, rfl⟩ := List.mem_map.1 (((normY_ok _).2 s).1 hs)
 have := h1 y hy
 exact ⟨this.1, hf y.f1 this.2.1 this.2.2⟩
/-- What is read at a law's end. -/
abbrev SL (V : World) (g3 gx g9 : Nat) (n a b : Int) (x0 x1 y0 y1 : Value) (W : World) : Prop :=
 W.cell? ⟨g3, 2, none⟩ = some (.int .i64 n) ∧ W.cell? ⟨g3, 3, none⟩ = some (.int .i64 a) ∧ W.cell? ⟨g3, 4, none⟩ = some (.int .i64 b) ∧ W.cell? ⟨gx, 0, none⟩ = some x0 ∧ W.cell? ⟨gx, 1, none⟩ = some x1 ∧ W.cell? ⟨g9, 0, none⟩ = some y0 ∧ W.cell? ⟨g9, 1, none⟩ = some y1 ∧ Below V.heap.size V W
theorem SL.next {V W W' : World} {g3 gx g9 : Nat} {n a b : Int} {x0 x1 y0 y1 : Value} (h : SL V g3 gx g9 n a b x0 x1 y0 y1 W) (hb : Below W.heap.size W W') : SL V g3 gx g9 n a b x0 x1 y0 y1 W' :=
 ⟨pw_cell_below hb h.1, pw_cell_below hb h.2.1, pw_cell_below hb h.2.2.1, pw_cell_below hb h.2.2.2.1, pw_cell_below hb h.2.2.2.2.1, pw_cell_below hb h.2.2.2.2.2.1, pw_cell_below hb h.2.2.2.2.2.2.1, below_step h.2.2.2.2.2.2.2 hb⟩
theorem SL.b {V W : World} {g3 gx g9 : Nat} {n a b : Int} {x0 x1 y0 y1 : Value} (h : SL V g3 gx g9 n a b x0 x1 y0 y1 W) : Below V.heap.size V W := h.2.2.2.2.2.2.2
end Go.Proofs.YtjphmebhofkhcaaDoor.Mk
/- Marks: the walk of the law MarksPut. Conditions: none beside the row's. -/
namespace Go.Proofs.YtjphmebhofkhcaaDoor.Mk
open Go.RowKit Go.Proofs.YtjphmebhofkhcaaDoorW.PrintWords Go.Proofs.YtjphmebhofkhcaaDoorW.PrintLast Go.Proofs.YtjphmebhofkhcaaDoorW.PrintMore Go.Proofs.YtjphmebhofkhcaaDoor.PSegAll Go.Proofs.YtjphmebhofkhcaaDoor.Pure
set_option linter.unusedVariables false
set_option linter.unusedSimpArgs false
end Go.Proofs.YtjphmebhofkhcaaDoor.Mk
/- Marks: the walk of slices.Insert at a row of sites of the call's own, one site put in. Conditions: at most 2^40 sites. -/
namespace Go.Proofs.YtjphmebhofkhcaaDoor.Mk
open Go.RowKit Go.Proofs.YtjphmebhofkhcaaDoorW.PrintWords Go.Proofs.YtjphmebhofkhcaaDoorW.PrintLast Go.Proofs.YtjphmebhofkhcaaDoorW.PrintMore Go.Proofs.YtjphmebhofkhcaaDoor.PSegAll Go.Proofs.YtjphmebhofkhcaaDoor.Pure
set_option linter.unusedVariables false
set_option linter.unusedSimpArgs false
/-- The cells of sites. -/
def cellsY (ys : List SY) : List Value := ys.flatMap encY
theorem cellsY_app (a b : List SY) : cellsY (a ++ b) = cellsY a ++ cellsY b := by unfold cellsY; rw [List.flatMap_append]
theorem cellsY_len (ys : List SY) : (cellsY ys).length = ys.length * 2 := by
 induction ys with
 | nil => rfl
 | cons y r ih => rw [show cellsY (y :: r) = encY y ++ cellsY r from rfl, List.length_append, ih, encY_len, List.length_cons]; omega
theorem cellsY_drop (ys : List SY) (i : Nat) : (cellsY ys).drop (i * 2) = cellsY (ys.drop i) := by
 by_cases h : i ≤ ys.length
 ·have e : ys = ys.take i ++ ys.drop i := (List.take_append_drop i ys).symm
  have hl : (cellsY (ys.take i)).length = i * 2 := by rw [cellsY_len, List.length_take, Nat.min_eq_left h]
  conv => lhs; rw [e, cellsY_app]
  rw [List.drop_append_of_le_length (by omega), ← hl, List.drop_length, List.nil_append]
 ·rw [List.drop_eq_nil_of_le (by rw [cellsY_len]; omega), List.drop_eq_nil_of_le (by omega)]
  rfl
theorem cellsY_take (ys : List SY) (i : Nat) : (cellsY ys).take (i * 2) = cellsY (ys.take i) := by
 by_cases h : i ≤ ys.length
 ·have e : ys = ys.take i ++ ys.drop i := (List.take_append_drop i ys).symm
  have hl : (cellsY (ys.take i)).length = i * 2 := by rw [cellsY_len, List.length_take, Nat.min_eq_left h]
  conv => lhs; rw [e, cellsY_app]
  rw [List.take_append_of_le_length (by omega), ← hl, List.take_length]
 ·rw [List.take_of_length_le (by rw [cellsY_len]; omega), List.take_of_length_le (by omega)]
theorem cellsY_one (ys : List SY) : ∀ v ∈ cellsY ys, v.oneCell' = true := by
 intro v hv
 obtain ⟨y, _, hv⟩ := List.mem_flatMap.1 hv
 exact encY_one y v hv
theorem cellsY_at {ys : List SY} {j : Nat} {y : SY} (h : ys[j]? = some y) : ((cellsY ys).drop (j * 2)).take 2 = encY y := by
 rw [cellsY_drop]
 obtain ⟨hl, e⟩ := List.getElem?_eq_some_iff.1 h
 rw [List.drop_eq_getElem_cons hl, e, show cellsY (y :: ys.drop (j + 1)) = encY y ++ cellsY (ys.drop (j + 1)) from rfl, List.take_append_of_le_length (by rw [encY_len]; omega), ← encY_len y, List.take_length]
/-- A row of the call's own, opened. -/
theorem own_open {W : World} {base : Nat} {ok : Nat → Prop} {g n c : Nat} {ys : List SY} (h : Kd.R kY 70 W base ok (.slice (some ⟨g, 0, none⟩) n c) ys) : ∃ cur : List Value, W.heap[g]? = some (.cells cur.toArray 70 (0, 0)) ∧ cur.length = c * 2 ∧ n = ys.length ∧ n ≤ c ∧ c ≤ maxLen ∧ base ≤ g ∧ cur.take (n * 2) = cellsY ys := by
 have hn := (Kd.R_reads' h).1
 obtain ⟨_, inner, ⟨hl, ho⟩, hr⟩ := h
 rcases ho with ⟨hv, _⟩ | ⟨g', cap', cur, hv, hb, hh, hnc, hcm, hcs, ht⟩
 ·cases hv
 injection hv with ha _ hc
 injection ha with ha
 injection ha with ha
 subst ha; subst hc
 have k2 : kY.sz = 2 := rfl
 rw [k2] at hcs ht hl
 refine ⟨cur.toList, by rw [Array.toArray_toList]; exact hh, by rw [Array.length_toList, hcs], hn, by omega, hcm, hb, ?_⟩
 rw [hn, ht]
 apply List.ext_getElem?
 intro t
 by_cases hlt : t < ys.length * 2
 ·obtain ⟨y, hy⟩ : ∃ y, ys[t / 2]? = some y := ⟨_, List.getElem?_eq_getElem (by omega)⟩
  have e1 : (inner.drop (t / 2 * 2)).take 2 = encY y := k70_openM (hr.2 (t / 2) y hy)
  have e2 := cellsY_at hy
  have p1 : inner[t]? = (encY y)[t % 2]? := by rw [← e1, List.getElem?_take, if_pos (by omega), List.getElem?_drop, show t / 2 * 2 + t % 2 = t by omega]
  have p2 : (cellsY ys)[t]? = (encY y)[t % 2]? := by rw [← e2, List.getElem?_take, if_pos (by omega), List.getElem?_drop, show t / 2 * 2 + t % 2 = t by omega]
  rw [p1, p2]
 ·rw [List.getElem?_eq_none (by omega), List.getElem?_eq_none (by rw [cellsY_len]; omega)]
/-- .. and made. -/
theorem own_make {W : World} {base g c : Nat} {ys : List SY} {cur : List Value} (h : W.heap[g]? = some (.cells cur.toArray 70 (0, 0))) (hl : cur.length = c * 2) (hn : ys.length ≤ c) (hc : c ≤ maxLen) (hb : base ≤ g) (ht : cur.take (ys.length * 2) = cellsY ys) :
  Kd.R kY 70 W base (fun _ => True) (.slice (some ⟨g, 0, none⟩) ys.length c) ys := by
 refine ⟨fun _ _ => trivial, cellsY ys, ⟨by rw [cellsY_len]; rfl, .inr ⟨g, c, _, rfl, hb, h, hn, hc, by rw [List.size_toArray, hl]; rfl, ht⟩⟩, ?_⟩
 refine ⟨by rw [cellsY_len]; rfl, fun j p hp => ?_⟩
 have e : ((cellsY ys).drop (j * kY.sz)).take kY.sz = [.int .i64 p.f0, .int .i64 p.f1] := cellsY_at hp
 rw [e]
 exact k70_mkM _ _ _ _
/-- copy of sites into a block that is known whole. -/
theorem run_copy_sites (w : World) (ty : TypeId) (g o dLen dCap : Nat) (a : Addr) (sLen sCap : Nat) (cur : List Value) (cs : List Value)
  (hg : w.heap[g]? = some (.cells cur.toArray 70 (0, 0))) (hn : cs.length = Nat.min sLen dLen * 2)
  (hsrc : ∀ j v, cs[j]? = some v → w.cell? (a.add j) = some v) (hfit : o + cs.length ≤ cur.length) (h1 : ∀ v ∈ cs, v.oneCell' = true) :
  (Builtin.copy_ #[23, 23] ty #[.slice (some ⟨g, o, none⟩) dLen dCap, .slice (some a) sLen sCap]).run Tryd.prog w =
   .ok (goInt (Nat.min sLen dLen)) (w.setRow g (splice cur o cs).toArray) := by
 have hl := run_loadCells_list (P := Tryd.prog) w a cs hsrc
 have hst := run_storeCells_at Tryd.prog g o 70 cs 0 cur.toArray w hg (by simpa using hfit) h1
 have hq0 := infoC70
 cases hq : Tryd.prog.info? 70 with
 | none => rw [hq] at hq0; cases hq0
 | some i =>
  have hi : i.size = 2 := by rw [hq] at hq0; simp at hq0; exact hq0.2.1
  simp only [List.toList_toArray, Nat.add_zero] at hst
  simp [Builtin.copy_, run_underlying Tryd.underlying23, Builtin.lenOf, Builtin.firstCells, sizeOf, typeInfo, hq, hi, ← hn, hl, hst, splice]
theorem cut_cap (t e : TypeId) (kh : IntKind) {i : TypeInfo} (ht : Tryd.prog.underlying t = some (.slice e)) (hi : Tryd.prog.info? e = some i) (A : Option Addr) (n c : Nat) (j : Int) (h0 : 0 ≤ j) (hm : j ≤ c) :
  ∀ W : World, (Instr.slice t (.slice A n c) none (some (.int kh j)) none).run Tryd.prog W = .ok (.slice A j.toNat c) W := by
 intro W
 have hel : Tryd.prog.elem t = e := by simp [Program.elem, ht]
 have hu : Tryd.prog.underlying t = some (.slice (Tryd.prog.elem t)) := by rw [hel]; exact ht
 have ha : (A.map fun x => x.add 0) = A := by cases A <;> simp [Addr.add]
 rw [run_slice_h W t A n c hu kh j h0 (by omega), hel]
 simp [sizeOf, typeInfo, hi, sliced, Result.andThen, ha]
theorem infoYY : ∃ i, Tryd.prog.info? 70 = some i ∧ i.size = 2 ∧ i.zero = some (.agg #[.int .i64 0, .int .i64 0]) ∧ i.bytes = 16 := by
 obtain ⟨i, h1, h2⟩ := Option.map_eq_some_iff.1 infoC70
 simp only [Prod.mk.injEq] at h2
 exact ⟨i, h1, h2.2.1, h2.1, h2.2.2⟩
/-- A row behind its element at i: cut. -/
theorem cut_at_i {g n c i : Nat} (hi : i ≤ n) (hc : c ≠ i) : ∀ W : World, (Instr.slice 23 (.slice (some ⟨g, 0, none⟩) n c) (some (.int .i64 (i : Int))) none none).run Tryd.prog W = .ok (.slice (some ⟨g, i * 2, none⟩) (n - i) (c - i)) W := by
 obtain ⟨i0, h0, h1, _⟩ := infoYY
 have h := cut_from (P := Tryd.prog) 23 70 .i64 Tryd.underlying23 h0 2 h1 (some ⟨g, 0, none⟩) n c (i : Int) (by omega) (by omega)
 rw [Int.toNat_natCast, if_neg hc, Option.map_some, add_plain] at h
 exact h
def RetIns (v : Value) (o : List SY) (base : Nat) (w : World) (e : Ending) (w' : World) : Prop := ∃ v', e = .returned v' ∧ Kd.R kY 70 w' base (fun _ => True) v' o ∧ w.grownBy w' v.ownBlock
theorem grown_setRow {w : World} {g : Nat} (cs : Array Value) : w.grownBy (w.setRow g cs) (some g) := ⟨rfl, rfl, rfl, by simp [World.setRow], fun k _ hk => setRow_other w g k cs (fun e => hk (by rw [e]))⟩
/-- The site is put in where it stands: the cells of the row. -/
theorem ins_cells {o : List SY} {x : SY} {i c : Nat} {cur : List Value} (hl : cur.length = c * 2) (hi : i ≤ o.length) (hc : o.length + 1 ≤ c) (ht : cur.take (o.length * 2) = cellsY o) :
  (splice (splice cur ((i + 1) * 2) (cellsY (o.drop i))) (i * 2) (encY x)).take ((o.take i ++ x :: o.drop i).length * 2) = cellsY (o.take i ++ x :: o.drop i) := by
 have h1 : (cellsY (o.drop i)).length = (o.length - i) * 2 := by rw [cellsY_len, List.length_drop]
 have h2 : cur.take (i * 2) = cellsY (o.take i) := by
  have := congrArg (List.take (i * 2)) ht
  rw [List.take_take, Nat.min_eq_left (by omega), cellsY_take] at this
  exact this
 have e : (o.take i ++ x :: o.drop i).length = o.length + 1 := by simp; omega
 have e3 : cellsY (o.take i ++ x :: o.drop i) = cur.take (i * 2) ++ (encY x ++ cellsY (o.drop i)) := by rw [cellsY_app, h2]; rfl
 rw [e, e3]
 unfold splice
 have hx := encY_len x
 simp only [hx]
 have hcc : ((o.length + 1) * 2) ≤ cur.length := by rw [hl]; exact Nat.mul_le_mul_right 2 hc
 have l1 : (cur.take (i * 2)).length = i * 2 := by rw [List.length_take]; omega
 have l2 : (cur.take ((i + 1) * 2)).length = (i + 1) * 2 := by rw [List.length_take]; omega
 have l3 : ((cur.take ((i + 1) * 2) ++ (cellsY (o.drop i) ++ cur.drop ((i + 1) * 2 + (cellsY (o.drop i)).length))).take (i * 2)) = cur.take (i * 2) := by
  rw [List.take_append_of_le_length (by omega), List.take_take, Nat.min_eq_left (by omega)]
 have l4 : ((cur.take ((i + 1) * 2) ++ (cellsY (o.drop i) ++ cur.drop ((i + 1) * 2 + (cellsY (o.drop i)).length))).drop (i * 2 + 2)) = cellsY (o.drop i) ++ cur.drop ((i + 1) * 2 + (cellsY (o.drop i)).length) := by
  rw [show i * 2 + 2 = (cur.take ((i + 1) * 2)).length by rw [l2]; omega, List.drop_left]
 rw [l3, l4]
 generalize cur.drop ((i + 1) * 2 + (cellsY (o.drop i)).length) = D
 have e4 : cur.take (i * 2) ++ (encY x ++ (cellsY (o.drop i) ++ D)) = (cur.take (i * 2) ++ (encY x ++ cellsY (o.drop i))) ++ D := by simp only [List.append_assoc]
 have l5 : (cur.take (i * 2) ++ (encY x ++ cellsY (o.drop i))).length = (o.length + 1) * 2 := by rw [List.length_append, List.length_append, l1, hx, h1]; omega
 rw [e4, ← l5, List.take_left]
end Go.Proofs.YtjphmebhofkhcaaDoor.Mk
/- Marks: the walk of slices.Insert at a row of sites of the call's own: there is room; there is none; at the end. Conditions: at most 2^40 sites. -/
namespace Go.Proofs.YtjphmebhofkhcaaDoor.Mk
open Go.RowKit Go.Proofs.YtjphmebhofkhcaaDoorW.PrintWords Go.Proofs.YtjphmebhofkhcaaDoorW.PrintLast Go.Proofs.YtjphmebhofkhcaaDoorW.PrintMore Go.Proofs.YtjphmebhofkhcaaDoor.PSegAll Go.Proofs.YtjphmebhofkhcaaDoor.Pure
set_option linter.unusedVariables false
set_option linter.unusedSimpArgs false
theorem sizeY : ∀ w : World, (Go.sizeOf 70).run Tryd.prog w = .ok 2 w := by
 intro w
 obtain ⟨i0, h0, h1, _⟩ := infoYY
 simp [sizeOf, typeInfo, h0, h1]
theorem ov_apart {w : World} {g gv off n c : Nat} {cur cv : List Value} (hg : w.heap[g]? = some (.cells cur.toArray 70 (0, 0))) (hv : w.heap[gv]? = some (.cells cv.toArray 70 (0, 0))) (hne : gv ≠ g) (h0 : cur.length ≠ 0) :
  (callFunc 94 #[.slice (some ⟨gv, 0, none⟩) 1 1, .slice (some ⟨g, off, none⟩) n c]).run Tryd.prog w = .ok (.value (.bool false)) w := by
 rw [run_callFunc_extern Tryd.func94 (by kernel_rfl) (by kernel_rfl) (by kernel_rfl) (e := Extern.SlicesOverlaps.overlaps #[23, 23] #[4]) (by kernel_rfl),
  Lib.run_overlaps_apart w 23 4 70 Tryd.underlying23 2 sizeY ⟨gv, 0, none⟩ ⟨g, off, none⟩ 1 1 n c hne 70 70 cv.toArray.size cur.toArray.size (by simp [World.shape?, hv]) (by simp [World.shape?, hg]) (by simpa using h0) (blk_frozen hv _) (blk_frozen hv _)]
 rfl
theorem grown_setRowD {w : World} {g : Nat} (cs : Array Value) : w.grownBy (w.drew.setRow g cs) (some g) := ⟨rfl, rfl, rfl, by show w.heap.size ≤ (w.heap.modify g _).size; simp, fun k _ hk => setRow_other w.drew g k cs (fun e => hk (by rw [e]))⟩
set_option maxHeartbeats 4000000 in
set_option maxRecDepth 100000 in
theorem insert_room (g n c i gv : Nat) (x : SY) (cur cs : List Value) (w : World) (hg : w.heap[g]? = some (.cells cur.toArray 70 (0, 0))) (hl : cur.length = c * 2) (hi : i < n) (hc : n + 1 ≤ c) (hm : c ≤ maxLen) (hv : w.heap[gv]? = some (.cells (encY x).toArray 70 (0, 0))) (hne : gv ≠ g)
  (hcl : cs.length = (n - i) * 2) (hcs : ∀ j v, cs[j]? = some v → cur[i * 2 + j]? = some v) (h1 : ∀ v ∈ cs, v.oneCell' = true) :
  Calls Tryd.prog 81 #[.slice (some ⟨g, 0, none⟩) n c, .int .i64 (i : Int), .slice (some ⟨gv, 0, none⟩) 1 1] w fun e w' => e = .returned (.slice (some ⟨g, 0, none⟩) (n + 1) c) ∧ w'.heap[g]? = some (.cells (splice (splice cur ((i + 1) * 2) cs) (i * 2) (encY x)).toArray 70 (0, 0)) ∧ w.grownBy w' (some g) := by
 have hm' : c ≤ 9223372036854775807 := by unfold maxLen at hm; exact hm
 have hz2 : ¬ ((i : Int) = (n : Int)) := by omega
 have hz3 : ¬ ((c : Int) < (n : Int) + 1) := by omega
 have w1_ : IntKind.i64.wrap ((n : Int) + 1) = (n : Int) + 1 := IntWalk.i64_in _ (by omega)
 have w2_ : IntKind.i64.wrap ((i : Int) + 1) = (i : Int) + 1 := IntWalk.i64_in _ (by omega)
 obtain ⟨i0, hi0, hi1, _⟩ := infoYY
 have s1 := cut_at_i (g := g) (n := n) (c := c) (i := i) (by omega) (by omega)
 have s2 := cut_cap 23 70 .i64 Tryd.underlying23 hi0 (some ⟨g, 0, none⟩) n c ((n : Int) + 1) (by omega) (by omega)
 rw [show ((n : Int) + 1).toNat = n + 1 by omega] at s2
 have s3 := cut_at_i (g := g) (n := n + 1) (c := c) (i := i + 1) (by omega) (by omega)
 rw [show (((i + 1 : Nat) : Int)) = (i : Int) + 1 by omega, Nat.add_sub_add_right] at s3
 have s4 := cut_at_i (g := g) (n := n + 1) (c := c) (i := i) (by omega) (by omega)
 have hov := fun (m k : Nat) => ov_apart (off := (i + 1) * 2) (n := m) (c := k) hg hv hne (by omega)
 obtain ⟨cur1, hcur1⟩ : ∃ l, l = splice cur ((i + 1) * 2) cs := ⟨_, rfl⟩
 have hl1 : cur1.length = c * 2 := by rw [hcur1, length_splice _ _ _ (by rw [hcl]; omega), hl]
 have hcp1 : ∀ ty dc sc, (Builtin.copy_ #[23, 23] ty #[.slice (some ⟨g, (i + 1) * 2, none⟩) (n - i) dc, .slice (some ⟨g, i * 2, none⟩) (n + 1 - i) sc]).run Tryd.prog w.drew = .ok (goInt (Nat.min (n + 1 - i) (n - i))) (w.drew.setRow g cur1.toArray) := fun ty dc sc => by
  rw [hcur1]
  exact run_copy_sites w.drew ty g ((i + 1) * 2) (n - i) dc ⟨g, i * 2, none⟩ (n + 1 - i) sc cur cs hg (by rw [hcl]; simp only [Nat.min_def]; split <;> omega) (fun j v hj => by rw [Addr.add_lit, blk_cell (w := w.drew) hg]; simpa using hcs j v hj) (by rw [hcl]; omega) h1
 have hg1 : (w.drew.setRow g cur1.toArray).heap[g]? = some (.cells cur1.toArray 70 (0, 0)) := setRow_heap w.drew g _ _ _ _ hg
 have hv1 : (w.drew.setRow g cur1.toArray).heap[gv]? = some (.cells (encY x).toArray 70 (0, 0)) := (setRow_other w.drew g gv _ hne).trans hv
 have hcp2 : ∀ (W : World), W.heap = (w.drew.setRow g cur1.toArray).heap → ∀ ty dc, (Builtin.copy_ #[23, 23] ty #[.slice (some ⟨g, i * 2, none⟩) (n + 1 - i) dc, .slice (some ⟨gv, 0, none⟩) 1 1]).run Tryd.prog W = .ok (goInt (Nat.min 1 (n + 1 - i))) (W.setRow g (splice cur1 (i * 2) (encY x)).toArray) := fun W hW ty dc =>
  run_copy_sites W ty g (i * 2) (n + 1 - i) dc ⟨gv, 0, none⟩ 1 1 cur1 (encY x) (by rw [hW]; exact hg1) (by rw [encY_len]; simp only [Nat.min_def]; split <;> omega) (fun j v hj => by rw [Addr.add_lit, blk_cell (w := W) (by rw [hW]; exact hv1)]; simpa using hj) (by rw [encY_len]; omega) (encY_one x)
 have HC1 := Lib.hid hcur1
 clear hcur1
 go_enter Tryd.func81, Tryd.ntmps81
 go_wp2_with (simp only [hov])
 go_region_law (refine step_copy_runI rfl _ _ 23 23 rfl _ _ (by simp [Act.eval, Act.put]) (by simp [Act.eval, Act.put]) (hcp1 _ _ _) ?_)
 go_wp2_with (at_builtin; refine wpList_copy_runI _ rfl _ _ 23 23 rfl _ _ rfl rfl (hcp2 _ rfl _ _) ?_)
 go_ret
 refine ⟨rfl, ?_, ?_⟩
 ·rw [← HC1.out]
  exact setRow_heap _ g _ _ _ _ hg1
 ·exact World.grownBy.trans (grown_setRowD cur1.toArray) (grown_setRow _)
/-- The site is put in where the row is laid anew: the cells. -/
theorem grow_cells {o : List SY} {x : SY} {i G : Nat} {R : List Value} (hl : R.length = G * 2) (hi : i ≤ o.length) (hc : o.length + 1 ≤ G) (hR : R.take (i * 2) = cellsY (o.take i)) :
  (splice (splice R (i * 2) (encY x)) ((i + 1) * 2) (cellsY (o.drop i))).take ((o.take i ++ x :: o.drop i).length * 2) = cellsY (o.take i ++ x :: o.drop i) := by
 have h1 : (cellsY (o.drop i)).length = (o.length - i) * 2 := by rw [cellsY_len, List.length_drop]
 have e : (o.take i ++ x :: o.drop i).length = o.length + 1 := by simp; omega
 have e3 : cellsY (o.take i ++ x :: o.drop i) = (R.take (i * 2) ++ encY x) ++ cellsY (o.drop i) := by rw [cellsY_app, hR, List.append_assoc]; rfl
 rw [e, e3]
 unfold splice
 have hx := encY_len x
 have hcc : ((o.length + 1) * 2) ≤ R.length := by rw [hl]; exact Nat.mul_le_mul_right 2 hc
 have l1 : (R.take (i * 2)).length = i * 2 := by rw [List.length_take]; omega
 have l2 : (R.take (i * 2) ++ encY x).length = (i + 1) * 2 := by rw [List.length_append, l1, hx]; omega
 generalize R.drop (i * 2 + (encY x).length) = D
 have l3 : (R.take (i * 2) ++ (encY x ++ D)).take ((i + 1) * 2) = R.take (i * 2) ++ encY x := by rw [← List.append_assoc, ← l2, List.take_left]
 rw [l3]
 generalize (R.take (i * 2) ++ (encY x ++ D)).drop ((i + 1) * 2 + (cellsY (o.drop i)).length) = D2
 have l5 : ((R.take (i * 2) ++ encY x) ++ cellsY (o.drop i)).length = (o.length + 1) * 2 := by rw [List.length_append, l2, h1]; omega
 rw [← List.append_assoc, ← l5, List.take_left]
set_option maxHeartbeats 4000000 in
set_option maxRecDepth 100000 in
theorem insert_grow (g n c i gv : Nat) (x : SY) (cur cs : List Value) (w : World) (hg : w.heap[g]? = some (.cells cur.toArray 70 (0, 0))) (hl : cur.length = c * 2) (hi : i < n) (hnc : n ≤ c) (hc : c < n + 1) (hb : n ≤ 1099511627776) (hv : w.heap[gv]? = some (.cells (encY x).toArray 70 (0, 0))) (hne : gv ≠ g)
  (hcl : cs.length = (n - i) * 2) (hcs : ∀ j v, cs[j]? = some v → cur[i * 2 + j]? = some v) (h1 : ∀ v ∈ cs, v.oneCell' = true) :
  Calls Tryd.prog 81 #[.slice (some ⟨g, 0, none⟩) n c, .int .i64 (i : Int), .slice (some ⟨gv, 0, none⟩) 1 1] w fun e w' => ∃ (G : Nat) (R : List Value), e = .returned (.slice (some ⟨w.heap.size, 0, none⟩) (n + 1) G) ∧ n + 1 ≤ G ∧ G ≤ maxLen ∧ R.length = G * 2 ∧ R.take (i * 2) = cur.take (i * 2) ∧ w'.heap[w.heap.size]? = some (.cells (splice (splice R (i * 2) (encY x)) ((i + 1) * 2) cs).toArray 70 (0, 0)) ∧ Below w.heap.size w w' := by
 obtain rfl : c = n := by omega
 have hz2 : ¬ ((i : Int) = (c : Int)) := by omega
 have hz3 : (c : Int) < (c : Int) + 1 := by omega
 have w1_ : IntKind.i64.wrap ((c : Int) + 1) = (c : Int) + 1 := IntWalk.i64_in _ (by omega)
 have w2_ : IntKind.i64.wrap ((i : Int) + 1) = (i : Int) + 1 := IntWalk.i64_in _ (by omega)
 have w3_ : IntKind.i64.wrap ((c : Int) + 1 - (i : Int)) = ((c + 1 - i : Nat) : Int) := by rw [show ((c : Int) + 1 - (i : Int)) = ((c + 1 - i : Nat) : Int) by omega]; exact IntWalk.i64_in _ (by omega)
 obtain ⟨i0, hi0, hi1, hi2, hi3⟩ := infoYY
 have s1 := cut_at_i (g := g) (n := c) (c := c) (i := i) (by omega) (by omega)
 have s2 := cut_cap 23 70 .i64 Tryd.underlying23 hi0 (some ⟨g, 0, none⟩) c c (i : Int) (by omega) (by omega)
 rw [Int.toNat_natCast] at s2
 have hgl := blk_lt hg
 have hvl := blk_lt hv
 have hold : (Builtin.firstCells i0.size i (.slice (some ⟨g, 0, none⟩) i c)).run Tryd.prog w.drew = .ok (cur.take (i * 2)).toArray w.drew := by
  rw [hi1]
  exact run_firstCells_some (w := w.drew) 2 i ⟨g, 0, none⟩ i c (cur.take (i * 2)) (by rw [List.length_take]; omega) (fun j v hj => by
   rw [Addr.add_lit, blk_cell (w := w.drew) hg]
   rw [List.getElem?_take] at hj
   split at hj
   ·simpa using hj
   ·cases hj)
 obtain ⟨G, hG⟩ : ∃ G, G = grownCap w (c + 1) c 70 := ⟨_, rfl⟩
 have hG1 : c + 1 ≤ G := by rw [hG]; exact grownCap_ge w _ _ _
 have hG2 : G ≤ maxLen := by rw [hG]; exact grownCap_le_maxLen w _ _ _ (by unfold maxLen; omega)
 have hG63 : G ≤ 9223372036854775807 := by unfold maxLen at hG2; exact hG2
 obtain ⟨R, hR⟩ : ∃ R : List Value, R = cur.take (i * 2) ++ ((Builtin.zeroCells (Value.agg #[.int .i64 0, .int .i64 0]).cells (c + 1 - i)).toList ++ (Builtin.zeroCells (Value.agg #[.int .i64 0, .int .i64 0]).cells (G - (c + 1))).toList) := ⟨_, rfl⟩
 have zl : ∀ k, (Builtin.zeroCells (Value.agg #[.int .i64 0, .int .i64 0]).cells k).toList.length = k * 2 := fun k => by simp [Builtin.zeroCells, Value.cells]
 have hRl : R.length = G * 2 := by rw [hR, List.length_append, List.length_append, zl, zl, List.length_take]; omega
 have hRt : R.take (i * 2) = cur.take (i * 2) := by rw [hR, List.take_append_of_le_length (by rw [List.length_take]; omega), List.take_take, Nat.min_self]
 have hrz : ∀ ty, (Builtin.append_ #[23, 3] ty #[.slice (some ⟨g, 0, none⟩) i c, .int .i64 ((c + 1 - i : Nat) : Int)]).run Tryd.prog w =
   .ok (.slice (some ⟨w.heap.size, 0, none⟩) (c + 1) G) (w.drew.alloc (.cells R.toArray 70)) := fun ty => by
  have h := Lib.run_append_grow_zeros w 23 3 ty 70 i0 _ .i64 .i64 Tryd.underlying23 Tryd.underlying3 hi0 hi2 (some ⟨g, 0, none⟩) i c (cur.take (i * 2)) hold (c + 1 - i) (by omega) (by omega) (by omega) (by omega) (by rw [hi3]; omega) (by rw [hi3, show i + (c + 1 - i) = c + 1 by omega]; exact growslice_fits (by omega) (by omega))
  rw [show i + (c + 1 - i) = c + 1 by omega] at h
  have eR : R.toArray = (cur.take (i * 2)).toArray ++ Builtin.zeroCells (Value.agg #[.int .i64 0, .int .i64 0]).cells (c + 1 - i) ++ Builtin.zeroCells (Value.agg #[.int .i64 0, .int .i64 0]).cells (G - (c + 1)) := by rw [hR]; apply Array.ext'; simp only [Array.toList_append, List.append_assoc]
  rw [h, ← hG, eR]
 obtain ⟨W1, hW1⟩ : ∃ W1, W1 = w.drew.alloc (.cells R.toArray 70) := ⟨_, rfl⟩
 rw [← hW1] at hrz
 have hN : W1.heap[w.heap.size]? = some (.cells R.toArray 70 (0, 0)) := by rw [hW1]; exact blk_new w.drew _
 have hB1 : Below w.heap.size w W1 := by rw [hW1]; exact below_alloc (Below.drew (Below.refl _ _)) _
 have hg1 := blk_below hg hB1
 have hv1 := blk_below hv hB1
 have hne1 : w.heap.size ≠ g := by omega
 have hne2 : w.heap.size ≠ gv := by omega
 obtain ⟨R1, hR1⟩ : ∃ l, l = splice R (i * 2) (encY x) := ⟨_, rfl⟩
 have hR1l : R1.length = G * 2 := by rw [hR1, length_splice _ _ _ (by rw [encY_len]; omega), hRl]
 have hcpA : ∀ (W : World), W.heap = W1.heap → ∀ ty dc, (Builtin.copy_ #[23, 23] ty #[.slice (some ⟨w.heap.size, i * 2, none⟩) (c + 1 - i) dc, .slice (some ⟨gv, 0, none⟩) 1 1]).run Tryd.prog W = .ok (goInt (Nat.min 1 (c + 1 - i))) (W.setRow w.heap.size R1.toArray) := fun W hW ty dc => by
  rw [hR1]
  exact run_copy_sites W ty w.heap.size (i * 2) (c + 1 - i) dc ⟨gv, 0, none⟩ 1 1 R (encY x) (by rw [hW]; exact hN) (by rw [encY_len]; simp only [Nat.min_def]; split <;> omega) (fun j v hj => by rw [Addr.add_lit, blk_cell (w := W) (by rw [hW]; exact hv1)]; simpa using hj) (by rw [encY_len]; omega) (encY_one x)
 have hN2 : (W1.setRow w.heap.size R1.toArray).heap[w.heap.size]? = some (.cells R1.toArray 70 (0, 0)) := setRow_heap _ _ _ _ _ _ hN
 have hg2 : (W1.setRow w.heap.size R1.toArray).heap[g]? = some (.cells cur.toArray 70 (0, 0)) := (setRow_other _ _ _ _ (by omega)).trans hg1
 have hcpB : ∀ (W : World), W.heap = (W1.setRow w.heap.size R1.toArray).heap → ∀ ty dc sc, (Builtin.copy_ #[23, 23] ty #[.slice (some ⟨w.heap.size, (i + 1) * 2, none⟩) (c - i) dc, .slice (some ⟨g, i * 2, none⟩) (c - i) sc]).run Tryd.prog W = .ok (goInt (Nat.min (c - i) (c - i))) (W.setRow w.heap.size (splice R1 ((i + 1) * 2) cs).toArray) := fun W hW ty dc sc =>
  run_copy_sites W ty w.heap.size ((i + 1) * 2) (c - i) dc ⟨g, i * 2, none⟩ (c - i) sc R1 cs (by rw [hW]; exact hN2) (by rw [hcl]; simp only [Nat.min_def]; split <;> omega) (fun j v hj => by rw [Addr.add_lit, blk_cell (w := W) (by rw [hW]; exact hg2)]; simpa using hcs j v hj) (by rw [hcl]; omega) h1
 have s3 := cut_at_i (g := w.heap.size) (n := c + 1) (c := G) (i := i) (by omega) (by omega)
 have s4 := cut_at_i (g := w.heap.size) (n := c + 1) (c := G) (i := i + 1) (by omega) (by omega)
 rw [show (((i + 1 : Nat) : Int)) = (i : Int) + 1 by omega, Nat.add_sub_add_right] at s4
 have hcpB1 := hcpB ((W1.setRow w.heap.size R1.toArray).drew) rfl
 have HR1 := Lib.hid hR1
 clear hcpB
 clear hold hG hR hR1 zl hW1
 go_enter Tryd.func81, Tryd.ntmps81
 go_wp2_with (first
  | (at_builtin; refine Lib.wpList_append_run _ rfl _ _ _ _ rfl _ _ rfl rfl _ _ (hrz _) ?_)
  | (at_builtin; refine wpList_copy_runI _ rfl _ _ 23 23 rfl _ _ rfl rfl (hcpA _ rfl _ _) ?_))
 go_region_law (refine step_copy_runI rfl _ _ 23 23 rfl _ _ (by simp [Act.eval, Act.put]) (by simp [Act.eval, Act.put]) (hcpB1 _ _ _) ?_)
 go_wp2
 go_ret
 refine ⟨G, R, rfl, hG1, hG2, hRl, hRt, ?_, ?_⟩
 ·rw [← HR1.out]
  exact setRow_heap _ _ _ _ _ _ hN2
 ·exact below_setRow (Below.drew (below_setRow hB1 (Nat.le_refl _) _)) (Nat.le_refl _) _
end Go.Proofs.YtjphmebhofkhcaaDoor.Mk
/- Marks: slices.Insert at a row of the call's own; the walk of slices.BinarySearchFunc at sites. Conditions: at most 2^40 sites. -/
namespace Go.Proofs.YtjphmebhofkhcaaDoor.Mk
open Go.RowKit Go.Proofs.YtjphmebhofkhcaaDoorW.PrintWords Go.Proofs.YtjphmebhofkhcaaDoorW.PrintLast Go.Proofs.YtjphmebhofkhcaaDoorW.PrintMore Go.Proofs.YtjphmebhofkhcaaDoor.PSegAll Go.Proofs.YtjphmebhofkhcaaDoor.Pure
set_option linter.unusedVariables false
set_option linter.unusedSimpArgs false
theorem C_one {W : World} {g : Nat} {x : SY} (h : W.heap[g]? = some (.cells (encY x).toArray 70 (0, 0))) : Kd.C kY W (some ⟨g, 0, none⟩) 1 [x] :=
 (Kd.R_reads' (own_make (base := 0) (c := 1) (ys := [x]) (cur := encY x) h rfl (Nat.le_refl _) (by decide) (Nat.zero_le _) rfl)).2.2
set_option maxHeartbeats 4000000 in
set_option maxRecDepth 100000 in
theorem insert_end (v : Value) (o : List SY) (x : SY) (gv : Nat) (w0 w : World) (h : Kd.R kY 70 w w0.heap.size (fun _ => True) v o) (hb : Below w0.heap.size w0 w) (hv : w.heap[gv]? = some (.cells (encY x).toArray 70 (0, 0))) (hl : o.length ≤ 1099511627776) :
  Calls Tryd.prog 81 #[v, .int .i64 (o.length : Int), .slice (some ⟨gv, 0, none⟩) 1 1] w (RetIns v (o ++ [x]) w0.heap.size w) := by
 obtain ⟨A, c, ev, hc, hC⟩ := Kd.R_reads h
 subst ev
 have HR := Lib.hid h
 have HB := Lib.hid hb
 have HX := Lib.hid (C_one hv)
 clear h hb hv hC
 obtain ⟨i0, hi0, hi1, _⟩ := infoYY
 have s1 := cut_from (P := Tryd.prog) 23 70 .i64 Tryd.underlying23 hi0 2 hi1 A o.length c (o.length : Int) (by omega) (by omega)
 generalize (if c = ((o.length : Int)).toNat then A else A.map (·.add (((o.length : Int)).toNat * 2))) = A' at s1
 generalize (o.length - ((o.length : Int)).toNat) = n' at s1
 generalize (c - ((o.length : Int)).toNat) = c' at s1
 have d1 : decide ((o.length : Int) = (o.length : Int)) = true := by simp
 clear hi0 hi1
 go_enter Tryd.func81, Tryd.ntmps81
 go_wp2_with (first | ((with_reducible refine gate_builtin (b := .append) rfl ?_); at_builtin; go_must (refine Kd.R_append_rows kY w0.heap.size ?hg (.tmp 23) (.tmp 24) 23 70 (.agg #[.int .i64 0, .int .i64 0]) 16 rfl Tryd.underlying23 infoC70 rfl (by decide) (by decide) _ o [x] (some ⟨gv, 0, none⟩) 1 1 (fun _ => True) (fun k => some k ≠ (Value.slice A o.length c).ownBlock) rfl rfl HR.out HX.out (fun x cs h => k70_M_of_K x cs h) (fun _ h => ⟨trivial, h⟩) (fun _ _ => trivial) HB.out HB.out.size (by omega) ?_); (case hg => rfl); intro v7 w7 ho7 hb7 hg7 hat7; have HO := Lib.hid ho7; have HG := Lib.hid hg7; clear ho7 hb7 hg7 hat7))
 go_wp2
 go_ret
 exact ⟨_, rfl, HO.out, HG.out⟩
theorem ins_grown {w w' : World} {g : Nat} (h : Below w.heap.size w w') : w.grownBy w' (some g) := grown_of_below h _
theorem insert_calls (v : Value) (o : List SY) (i : Nat) (x : SY) (gv : Nat) (w0 w : World) (h : Kd.R kY 70 w w0.heap.size (fun _ => True) v o) (hb : Below w0.heap.size w0 w) (hi : i ≤ o.length) (hv : w.heap[gv]? = some (.cells (encY x).toArray 70 (0, 0))) (hne : some gv ≠ v.ownBlock) (hl : o.length ≤ 1099511627776) :
  Calls Tryd.prog 81 #[v, .int .i64 (i : Int), .slice (some ⟨gv, 0, none⟩) 1 1] w (RetIns v (o.take i ++ x :: o.drop i) w0.heap.size w) := by
 by_cases he : i = o.length
 ·subst he
  rw [List.take_length, List.drop_length]
  exact insert_end v o x gv w0 w h hb hv hl
 have hlt : i < o.length := by omega
 obtain ⟨g, c, ev, _, _, _⟩ := Kd.R_form h (by omega)
 subst ev
 obtain ⟨cur, hg, hcl, _, hnc, hcm, hbase, hcu⟩ := own_open h
 have hne' : gv ≠ g := fun e => hne (by rw [e]; rfl)
 have hcs : ∀ j u, (cellsY (o.drop i))[j]? = some u → cur[i * 2 + j]? = some u := by
  intro j u hu
  have hj := (List.getElem?_eq_some_iff.1 hu).1
  rw [cellsY_len, List.length_drop] at hj
  rw [← cellsY_drop, ← hcu, List.getElem?_drop, List.getElem?_take, if_pos (by omega)] at hu
  exact hu
 have hcl2 : (cellsY (o.drop i)).length = (o.length - i) * 2 := by rw [cellsY_len, List.length_drop]
 have en : (o.take i ++ x :: o.drop i).length = o.length + 1 := by simp; omega
 by_cases hroom : o.length + 1 ≤ c
 ·refine (insert_room g o.length c i gv x cur (cellsY (o.drop i)) w hg hcl hlt hroom hcm hv hne' hcl2 hcs (cellsY_one _)).mono ?_
  rintro e w' ⟨rfl, hh, hgr⟩
  refine ⟨_, rfl, ?_, hgr⟩
  have := own_make (base := w0.heap.size) (c := c) (ys := o.take i ++ x :: o.drop i) hh (by rw [length_splice _ _ _ (by rw [length_splice _ _ _ (by rw [hcl2]; omega), encY_len]; omega), length_splice _ _ _ (by rw [hcl2]; omega)]; exact hcl) (by rw [en]; exact hroom) hcm hbase (ins_cells hcl hi hroom hcu)
  rw [en] at this
  exact this
 ·refine (insert_grow g o.length c i gv x cur (cellsY (o.drop i)) w hg hcl hlt hnc (by omega) hl hv hne' hcl2 hcs (cellsY_one _)).mono ?_
  rintro e w' ⟨G, R, rfl, hG1, hG2, hRl, hRt, hh, hbw⟩
  refine ⟨_, rfl, ?_, ins_grown hbw⟩
  have ht : R.take (i * 2) = cellsY (o.take i) := by
   have := congrArg (List.take (i * 2)) hcu
   rw [List.take_take, Nat.min_eq_left (by omega), cellsY_take] at this
   rw [hRt, this]
  have := own_make (base := w0.heap.size) (c := G) (ys := o.take i ++ x :: o.drop i) hh (by rw [length_splice _ _ _ (by rw [length_splice _ _ _ (by rw [encY_len]; omega), hcl2]; omega), length_splice _ _ _ (by rw [encY_len]; omega)]; exact hRl) (by rw [en]; exact hG1) hG2 hb.size (grow_cells hRl hi hG1 ht)
  rw [en] at this
  exact this
theorem cfY_lt (x y : SY) : cfY x y < 0 ↔ siteLt x y := by
 have h := ltY x y
 unfold ltOf at h
 simpa using h
theorem cfY_eq (x y : SY) : cfY x y = 0 ↔ x = y := by
 constructor
 ·intro h
  have h1 : ¬ siteLt x y := fun k => by have := (cfY_lt x y).2 k; omega
  rcases siteLt_total x y with k | k | k
  ·exact absurd k h1
  ·exact k
  ·have h2 : cfY x y = 0 := h
   unfold cfY mrCmp at h2
   unfold siteLt at k
   exfalso
   split at h2 <;> (repeat' split at h2) <;> (repeat' split at *) <;> omega
 ·rintro rfl
  unfold cfY mrCmp
  simp
/-- What is read at a comparison. -/
abbrev S4 (V : World) (p : Addr) (gx : Nat) (y x : SY) (W : World) : Prop := W.cell? p = some (.int .i64 y.f0) ∧ W.cell? ⟨p.block, p.off + 1, none⟩ = some (.int .i64 y.f1) ∧ W.cell? ⟨gx, 0, none⟩ = some (.int .i64 x.f0) ∧ W.cell? ⟨gx, 1, none⟩ = some (.int .i64 x.f1) ∧ Below V.heap.size V W
theorem S4.next {V W W' : World} {p : Addr} {gx : Nat} {y x : SY} (h : S4 V p gx y x W) (hb : Below W.heap.size W W') : S4 V p gx y x W' := ⟨pw_cell_below hb h.1, pw_cell_below hb h.2.1, pw_cell_below hb h.2.2.1, pw_cell_below hb h.2.2.2.1, below_step h.2.2.2.2 hb⟩
/-- A sorted row's place for a site. -/
def Placed (ys : List SY) (x : SY) (lo hi : Nat) : Prop := (∀ (j : Nat) (y : SY), ys[j]? = some y → j < lo → siteLt y x) ∧ ∀ (j : Nat) (y : SY), ys[j]? = some y → hi ≤ j → ¬ siteLt y x
set_option maxHeartbeats 4000000 in
set_option maxRecDepth 100000 in
theorem search_calls (A : Option Addr) (c : Nat) (ys : List SY) (x : SY) (w : World) (hr : Kd.C kY w A ys.length ys) (hc : ys.length ≤ c) (hs : ys.Pairwise siteLt) (hl : ys.length ≤ 1099511627776) :
  Calls Tryd.prog 80 #[.slice A ys.length c, .agg #[.int .i64 x.f0, .int .i64 x.f1], .func (.func 64) #[] #[]] w fun e w' => ∃ (i : Nat) (b : Bool), e = .returned (.tuple #[.int .i64 (i : Int), .bool b]) ∧ i ≤ ys.length ∧ Placed ys x i i ∧ (b = true ↔ ys[i]? = some x) ∧ Below w.heap.size w w' := by
 have HR := Lib.hid hr
 have HS := Lib.hid hs
 clear hr hs
 go_enter Tryd.func80, Tryd.ntmps80
 go_upto_region 1 with fail
 refine gen2 (φ := fun W => Code.wp _ _ _ _ W) (P := fun W => Below w.heap.size w W ∧ W.heap[w.heap.size]? = some (.cells #[.int .i64 x.f0, .int .i64 x.f1] 70 (0, 0))) ⟨below_alloc (Below.refl _ _) _, blk_new w _⟩ ?_
 rintro V ⟨hb, hx⟩
 have HB := Lib.hid hb
 have HX := Lib.hid hx
 clear hb hx
 generalize w.heap.size = gx at HX ⊢
 go_wp2
 go_loopw [9, 10] (fun s9 s10 wr => ∃ lo hi : Nat, lo ≤ hi ∧ hi ≤ ys.length ∧ s9 = .int .i64 (lo : Int) ∧ s10 = .int .i64 (hi : Int) ∧ Hid (Placed ys x lo hi) ∧ Hid (Below V.heap.size V wr)) (fun s9 s10 _ => cntM s10 - cntM s9)
 case atStart => exact ⟨0, ys.length, Nat.zero_le _, Nat.le_refl _, rfl, rfl, Lib.hid ⟨fun j y _ h => absurd h (Nat.not_lt_zero _), fun j y hy h => absurd (List.getElem?_eq_some_iff.1 hy).1 (Nat.not_lt.2 h)⟩, Lib.hid (Below.refl _ _)⟩
 case round =>
  obtain ⟨lo, hi, h1, h2, rfl, rfl, PL, BW⟩ := hrel
  by_cases hlt : lo < hi
  ·have d1 : decide ((lo : Int) < (hi : Int)) = true := by simp; omega
   have w1_ : IntKind.i64.wrap ((lo : Int) + (hi : Int)) = (lo : Int) + (hi : Int) := IntWalk.i64_in _ (by omega)
   obtain ⟨m, hm⟩ : ∃ m, m = (lo + hi) / 2 := ⟨_, rfl⟩
   go_upto_region 5 with fail
   have em : ((lo : Int) + (hi : Int)) / 2 = (m : Int) := by omega
   have hm1 : lo ≤ m ∧ m < hi := by omega
   have b1 : (0 : Int) ≤ (m : Int) := by omega
   have b2 : (m : Int) < (ys.length : Int) := by omega
   have w2_ : IntKind.i64.wrap ((m : Int) + 1) = (m : Int) + 1 := IntWalk.i64_in _ (by omega)
   obtain ⟨y, hy⟩ : ∃ y, ys[m]? = some y := ⟨_, List.getElem?_eq_getElem (by omega)⟩
   have HY := Lib.hid hy
   have HM := Lib.hid hm1
   rw [em]
   clear hm em
   obtain ⟨ad, e0, y0, y1⟩ := at_Y (Kd.C_below HR.out (below_step HB.out BW.out)) hy (by omega)
   subst e0
   have QS := Lib.hid (show S4 wr (ad.add (m * 2)) gx y x wr from ⟨y0, y1, (blk_cell (blk_below HX.out BW.out) 0).trans rfl, (blk_cell (blk_below HX.out BW.out) 1).trans rfl, Below.refl _ _⟩)
   clear hy y0 y1 hm1
   refine wp_region_noPanic ?_
   refine wp_region_held_drew (S := (fun w' => S4 wr (ad.add (m * 2)) gx y x w')) ?hm_a ?hS_a (fun hHeld => ?_)
   case hm_a => kernel_rfl
   case hS_a => exact QS.out.next (by with_reducible repeat (first | exact Below.refl _ _ | apply pw_below_drewN | apply Below.drew))
   refine wpAnyH_take (i := 0) (oi := ?oa0) (v := ?va0) ?hi_a0 ?k1_a0 ?k2_a0 ?k3_a0 (fun _ _ _ h => h) (Or.inl ⟨?g_a0, ?y_a0⟩) (by assumption) ?r_a0
   case hi_a0 => (simp only [List.getElem?_toArray, List.getElem?_cons_succ, List.getElem?_cons_zero]; rfl)
   case k1_a0 => kernel_rfl
   case k2_a0 => kernel_rfl
   case k3_a0 => kernel_rfl
   case g_a0 => rfl
   case y_a0 => (intro w hSw; (try dsimp only at hSw); first | (go_simp; done) | (go_simp; with_reducible rfl))
   (try simp only [Act.put, List.setIfInBounds_toArray, List.set_cons_zero, List.set_cons_succ])
   refine wpAnyH_take (i := 1) (oi := ?oa1) (v := ?va1) ?hi_a1 ?k1_a1 ?k2_a1 ?k3_a1 (fun _ _ _ h => h) (Or.inl ⟨?g_a1, ?y_a1⟩) (by assumption) ?r_a1
   case hi_a1 => (simp only [List.getElem?_toArray, List.getElem?_cons_succ, List.getElem?_cons_zero]; rfl)
   case k1_a1 => kernel_rfl
   case k2_a1 => kernel_rfl
   case k3_a1 => kernel_rfl
   case g_a1 => rfl
   case y_a1 => (intro w hSw; (try dsimp only at hSw); first | (go_simp; done) | (go_simp; with_reducible rfl))
   (try simp only [Act.put, List.setIfInBounds_toArray, List.set_cons_zero, List.set_cons_succ])
   refine wpAnyH_take (i := 2) (oi := ?oa2) (v := ?va2) ?hi_a2 ?k1_a2 ?k2_a2 ?k3_a2 (fun _ _ _ h => h) (Or.inl ⟨?g_a2, ?y_a2⟩) (by assumption) ?r_a2
   case hi_a2 => (simp only [List.getElem?_toArray, List.getElem?_cons_succ, List.getElem?_cons_zero]; rfl)
   case k1_a2 => kernel_rfl
   case k2_a2 => kernel_rfl
   case k3_a2 => kernel_rfl
   case g_a2 => rfl
   case y_a2 => (intro w hSw; (try dsimp only at hSw); first | (go_simp; done) | (go_simp; with_reducible rfl))
   (try simp only [Act.put, List.setIfInBounds_toArray, List.set_cons_zero, List.set_cons_succ])
   refine wpAnyH_take (i := 3) (oi := ?oa3) (v := ?va3) ?hi_a3 ?k1_a3 ?k2_a3 ?k3_a3 (fun _ _ _ h => h) (Or.inl ⟨?g_a3, ?y_a3⟩) (by assumption) ?r_a3
   case hi_a3 => (simp only [List.getElem?_toArray, List.getElem?_cons_succ, List.getElem?_cons_zero]; rfl)
   case k1_a3 => kernel_rfl
   case k2_a3 => kernel_rfl
   case k3_a3 => kernel_rfl
   case g_a3 => rfl
   case y_a3 => (intro w hSw; (try dsimp only at hSw); first | (go_simp; done) | (go_simp; with_reducible rfl))
   (try simp only [Act.put, List.setIfInBounds_toArray, List.set_cons_zero, List.set_cons_succ])
   refine wpAnyH_take (i := 4) (oi := ?oa4) (v := ?va4) ?hi_a4 ?k1_a4 ?k2_a4 ?k3_a4 (fun _ _ _ h => h) (Or.inl ⟨?g_a4, ?y_a4⟩) (by assumption) ?r_a4
   case hi_a4 => (simp only [List.getElem?_toArray, List.getElem?_cons_succ, List.getElem?_cons_zero]; rfl)
   case k1_a4 => kernel_rfl
   case k2_a4 => kernel_rfl
   case k3_a4 => kernel_rfl
   case g_a4 => rfl
   case y_a4 => (intro w hSw; (try dsimp only at hSw); first | (go_simp; done) | (go_simp; with_reducible rfl))
   (try simp only [Act.put, List.setIfInBounds_toArray, List.set_cons_zero, List.set_cons_succ])
   refine wpAnyH_take (i := 5) (oi := ?oa5) (v := ?va5) ?hi_a5 ?k1_a5 ?k2_a5 ?k3_a5 (fun _ _ _ h => h) (Or.inl ⟨?g_a5, ?y_a5⟩) (by assumption) ?r_a5
   case hi_a5 => (simp only [List.getElem?_toArray, List.getElem?_cons_succ, List.getElem?_cons_zero]; rfl)
   case k1_a5 => kernel_rfl
   case k2_a5 => kernel_rfl
   case k3_a5 => kernel_rfl
   case g_a5 => rfl
   case y_a5 => (intro w hSw; (try dsimp only at hSw); first | (go_simp; done) | (go_simp; with_reducible rfl))
   (try simp only [Act.put, List.setIfInBounds_toArray, List.set_cons_zero, List.set_cons_succ])
   refine wpAnyH_ready (rs := [6]) ?k1_a6 (by simp) ?r_a6
   case k1_a6 => kernel_rfl
   refine AllReadyH.cons (o := ?oa6) ?hi_a6 (fun K hK => ?s_a6) ?m_a6
   case hi_a6 => (simp only [List.getElem?_toArray, List.getElem?_cons_succ, List.getElem?_cons_zero]; rfl)
   case m_a6 => exact AllReadyH.nil
   go_simp
   (go_at_call 64; (refine (compare_calls y x _).mono ?_); rintro e w9 ⟨rfl, hg9⟩; have HS1 := Lib.hid (S4.next (V := wr) (p := ad.add (m * 2)) (gx := gx) (y := y) (x := x) (by assumption) hg9.below); clear hg9)
   (try go_wp2_with fail)
   refine hK.out _ _ HS1.out (fun hHeld => ?_)
   clear hK K
   (try simp only [Act.put, List.setIfInBounds_toArray, List.set_cons_zero, List.set_cons_succ])
   refine wpAnyH_take (i := 7) (oi := ?oa7) (v := ?va7) ?hi_a7 ?k1_a7 ?k2_a7 ?k3_a7 (fun _ _ _ h => h) (Or.inl ⟨?g_a7, ?y_a7⟩) (by assumption) ?r_a7
   case hi_a7 => (simp only [List.getElem?_toArray, List.getElem?_cons_succ, List.getElem?_cons_zero]; rfl)
   case k1_a7 => kernel_rfl
   case k2_a7 => kernel_rfl
   case k3_a7 => kernel_rfl
   case g_a7 => rfl
   case y_a7 => (intro w hSw; (try dsimp only at hSw); first | (go_simp; done) | (go_simp; with_reducible rfl))
   (try simp only [Act.put, List.setIfInBounds_toArray, List.set_cons_zero, List.set_cons_succ])
   refine wpAnyH_done (by kernel_rfl) ?_ _
   refine NoPanic.normal ?_
   have BN := Lib.hid (below_step BW.out (HS1.out.2.2.2.2))
   obtain ⟨z, hz⟩ : ∃ z, z = cfY y x := ⟨_, rfl⟩
   rw [← hz]
   have HZ := Lib.hid hz
   clear hz HS1 QS BW
   by_cases hlt2 : z < 0
   ·have d2 : decide (z < 0) = true := by simpa using hlt2
    have LT := Lib.hid ((cfY_lt y x).1 (by rw [← HZ.out]; exact hlt2))
    have hle : ¬ (0 ≤ z) := by omega
    go_wp2
    go_roundw
    case rel =>
     refine ⟨m + 1, hi, by have := HM.out; omega, h2, by go_num, rfl, Lib.hid ⟨fun j u hu hj => ?_, PL.out.2⟩, BN⟩
     by_cases hjm : j = m
     ·subst hjm
      rw [HY.out] at hu
      injection hu with hu
      subst hu
      exact LT.out
     ·obtain ⟨q1, q2⟩ := List.getElem?_eq_some_iff.1 hu
      obtain ⟨q3, q4⟩ := List.getElem?_eq_some_iff.1 HY.out
      have := List.pairwise_iff_getElem.1 HS.out j m q1 q3 (by omega)
      rw [q2, q4] at this
      exact siteLt_trans this LT.out
    case measure =>
     have := HM.out
     simp only [cntM]
     omega
   ·have d2 : decide (z < 0) = false := by simpa using hlt2
    have LT := Lib.hid (fun k => hlt2 (by rw [HZ.out]; exact (cfY_lt y x).2 k))
    have hle : 0 ≤ z := by omega
    go_wp2
    go_roundw
    case rel =>
     refine ⟨lo, m, HM.out.1, by have := HM.out; omega, rfl, rfl, Lib.hid ⟨PL.out.1, fun j u hu hj k => ?_⟩, BN⟩
     by_cases hjm : j = m
     ·subst hjm
      rw [HY.out] at hu
      injection hu with hu
      subst hu
      exact LT.out k
     ·obtain ⟨q1, q2⟩ := List.getElem?_eq_some_iff.1 hu
      obtain ⟨q3, q4⟩ := List.getElem?_eq_some_iff.1 HY.out
      have := List.pairwise_iff_getElem.1 HS.out m j q3 q1 (by omega)
      rw [q2, q4] at this
      exact LT.out (siteLt_trans this k)
    case measure =>
     have := HM.out
     simp only [cntM]
     omega
  ·have d1 : decide ((lo : Int) < (hi : Int)) = false := by simp; omega
   obtain rfl : lo = hi := by omega
   by_cases hn : lo < ys.length
   ·have d2 : decide ((lo : Int) < (ys.length : Int)) = true := by simp; omega
    have b1 : (0 : Int) ≤ (lo : Int) := by omega
    have b2 : (lo : Int) < (ys.length : Int) := by omega
    obtain ⟨y, hy⟩ : ∃ y, ys[lo]? = some y := ⟨_, List.getElem?_eq_getElem hn⟩
    have HY := Lib.hid hy
    go_upto_region 8 with fail
    obtain ⟨ad, e0, y0, y1⟩ := at_Y (Kd.C_below HR.out (below_step HB.out BW.out)) hy hn
    subst e0
    have QS := Lib.hid (show S4 wr (ad.add (lo * 2)) gx y x wr from ⟨y0, y1, (blk_cell (blk_below HX.out BW.out) 0).trans rfl, (blk_cell (blk_below HX.out BW.out) 1).trans rfl, Below.refl _ _⟩)
    clear hy y0 y1
    refine wp_region_noPanic ?_
    refine wp_region_held_drew (S := (fun w' => S4 wr (ad.add (lo * 2)) gx y x w')) ?hm_b ?hS_b (fun hHeld => ?_)
    case hm_b => kernel_rfl
    case hS_b => exact QS.out.next (by with_reducible repeat (first | exact Below.refl _ _ | apply pw_below_drewN | apply Below.drew))
    refine wpAnyH_take (i := 0) (oi := ?ob0) (v := ?vb0) ?hi_b0 ?k1_b0 ?k2_b0 ?k3_b0 (fun _ _ _ h => h) (Or.inl ⟨?g_b0, ?y_b0⟩) (by assumption) ?r_b0
    case hi_b0 => (simp only [List.getElem?_toArray, List.getElem?_cons_succ, List.getElem?_cons_zero]; rfl)
    case k1_b0 => kernel_rfl
    case k2_b0 => kernel_rfl
    case k3_b0 => kernel_rfl
    case g_b0 => rfl
    case y_b0 => (intro w hSw; (try dsimp only at hSw); first | (go_simp; done) | (go_simp; with_reducible rfl))
    (try simp only [Act.put, List.setIfInBounds_toArray, List.set_cons_zero, List.set_cons_succ])
    refine wpAnyH_take (i := 1) (oi := ?ob1) (v := ?vb1) ?hi_b1 ?k1_b1 ?k2_b1 ?k3_b1 (fun _ _ _ h => h) (Or.inl ⟨?g_b1, ?y_b1⟩) (by assumption) ?r_b1
    case hi_b1 => (simp only [List.getElem?_toArray, List.getElem?_cons_succ, List.getElem?_cons_zero]; rfl)
    case k1_b1 => kernel_rfl
    case k2_b1 => kernel_rfl
    case k3_b1 => kernel_rfl
    case g_b1 => rfl
    case y_b1 => (intro w hSw; (try dsimp only at hSw); first | (go_simp; done) | (go_simp; with_reducible rfl))
    (try simp only [Act.put, List.setIfInBounds_toArray, List.set_cons_zero, List.set_cons_succ])
    refine wpAnyH_take (i := 2) (oi := ?ob2) (v := ?vb2) ?hi_b2 ?k1_b2 ?k2_b2 ?k3_b2 (fun _ _ _ h => h) (Or.inl ⟨?g_b2, ?y_b2⟩) (by assumption) ?r_b2
    case hi_b2 => (simp only [List.getElem?_toArray, List.getElem?_cons_succ, List.getElem?_cons_zero]; rfl)
    case k1_b2 => kernel_rfl
    case k2_b2 => kernel_rfl
    case k3_b2 => kernel_rfl
    case g_b2 => rfl
    case y_b2 => (intro w hSw; (try dsimp only at hSw); first | (go_simp; done) | (go_simp; with_reducible rfl))
    (try simp only [Act.put, List.setIfInBounds_toArray, List.set_cons_zero, List.set_cons_succ])
    refine wpAnyH_take (i := 3) (oi := ?ob3) (v := ?vb3) ?hi_b3 ?k1_b3 ?k2_b3 ?k3_b3 (fun _ _ _ h => h) (Or.inl ⟨?g_b3, ?y_b3⟩) (by assumption) ?r_b3
    case hi_b3 => (simp only [List.getElem?_toArray, List.getElem?_cons_succ, List.getElem?_cons_zero]; rfl)
    case k1_b3 => kernel_rfl
    case k2_b3 => kernel_rfl
    case k3_b3 => kernel_rfl
    case g_b3 => rfl
    case y_b3 => (intro w hSw; (try dsimp only at hSw); first | (go_simp; done) | (go_simp; with_reducible rfl))
    (try simp only [Act.put, List.setIfInBounds_toArray, List.set_cons_zero, List.set_cons_succ])
    refine wpAnyH_take (i := 4) (oi := ?ob4) (v := ?vb4) ?hi_b4 ?k1_b4 ?k2_b4 ?k3_b4 (fun _ _ _ h => h) (Or.inl ⟨?g_b4, ?y_b4⟩) (by assumption) ?r_b4
    case hi_b4 => (simp only [List.getElem?_toArray, List.getElem?_cons_succ, List.getElem?_cons_zero]; rfl)
    case k1_b4 => kernel_rfl
    case k2_b4 => kernel_rfl
    case k3_b4 => kernel_rfl
    case g_b4 => rfl
    case y_b4 => (intro w hSw; (try dsimp only at hSw); first | (go_simp; done) | (go_simp; with_reducible rfl))
    (try simp only [Act.put, List.setIfInBounds_toArray, List.set_cons_zero, List.set_cons_succ])
    refine wpAnyH_take (i := 5) (oi := ?ob5) (v := ?vb5) ?hi_b5 ?k1_b5 ?k2_b5 ?k3_b5 (fun _ _ _ h => h) (Or.inl ⟨?g_b5, ?y_b5⟩) (by assumption) ?r_b5
    case hi_b5 => (simp only [List.getElem?_toArray, List.getElem?_cons_succ, List.getElem?_cons_zero]; rfl)
    case k1_b5 => kernel_rfl
    case k2_b5 => kernel_rfl
    case k3_b5 => kernel_rfl
    case g_b5 => rfl
    case y_b5 => (intro w hSw; (try dsimp only at hSw); first | (go_simp; done) | (go_simp; with_reducible rfl))
    (try simp only [Act.put, List.setIfInBounds_toArray, List.set_cons_zero, List.set_cons_succ])
    refine wpAnyH_take (i := 6) (oi := ?ob6) (v := ?vb6) ?hi_b6 ?k1_b6 ?k2_b6 ?k3_b6 (fun _ _ _ h => h) (Or.inl ⟨?g_b6, ?y_b6⟩) (by assumption) ?r_b6
    case hi_b6 => (simp only [List.getElem?_toArray, List.getElem?_cons_succ, List.getElem?_cons_zero]; rfl)
    case k1_b6 => kernel_rfl
    case k2_b6 => kernel_rfl
    case k3_b6 => kernel_rfl
    case g_b6 => rfl
    case y_b6 => (intro w hSw; (try dsimp only at hSw); first | (go_simp; done) | (go_simp; with_reducible rfl))
    (try simp only [Act.put, List.setIfInBounds_toArray, List.set_cons_zero, List.set_cons_succ])
    refine wpAnyH_take (i := 7) (oi := ?ob7) (v := ?vb7) ?hi_b7 ?k1_b7 ?k2_b7 ?k3_b7 (fun _ _ _ h => h) (Or.inl ⟨?g_b7, ?y_b7⟩) (by assumption) ?r_b7
    case hi_b7 => (simp only [List.getElem?_toArray, List.getElem?_cons_succ, List.getElem?_cons_zero]; rfl)
    case k1_b7 => kernel_rfl
    case k2_b7 => kernel_rfl
    case k3_b7 => kernel_rfl
    case g_b7 => rfl
    case y_b7 => (intro w hSw; (try dsimp only at hSw); first | (go_simp; done) | (go_simp; with_reducible rfl))
    (try simp only [Act.put, List.setIfInBounds_toArray, List.set_cons_zero, List.set_cons_succ])
    refine wpAnyH_take (i := 8) (oi := ?ob8) (v := ?vb8) ?hi_b8 ?k1_b8 ?k2_b8 ?k3_b8 (fun _ _ _ h => h) (Or.inl ⟨?g_b8, ?y_b8⟩) (by assumption) ?r_b8
    case hi_b8 => (simp only [List.getElem?_toArray, List.getElem?_cons_succ, List.getElem?_cons_zero]; rfl)
    case k1_b8 => kernel_rfl
    case k2_b8 => kernel_rfl
    case k3_b8 => kernel_rfl
    case g_b8 => rfl
    case y_b8 => (intro w hSw; (try dsimp only at hSw); first | (go_simp; done) | (go_simp; with_reducible rfl))
    (try simp only [Act.put, List.setIfInBounds_toArray, List.set_cons_zero, List.set_cons_succ])
    refine wpAnyH_take (i := 9) (oi := ?ob9) (v := ?vb9) ?hi_b9 ?k1_b9 ?k2_b9 ?k3_b9 (fun _ _ _ h => h) (Or.inl ⟨?g_b9, ?y_b9⟩) (by assumption) ?r_b9
    case hi_b9 => (simp only [List.getElem?_toArray, List.getElem?_cons_succ, List.getElem?_cons_zero]; rfl)
    case k1_b9 => kernel_rfl
    case k2_b9 => kernel_rfl
    case k3_b9 => kernel_rfl
    case g_b9 => rfl
    case y_b9 => (intro w hSw; (try dsimp only at hSw); first | (go_simp; done) | (go_simp; with_reducible rfl))
    (try simp only [Act.put, List.setIfInBounds_toArray, List.set_cons_zero, List.set_cons_succ])
    refine wpAnyH_take (i := 10) (oi := ?ob10) (v := ?vb10) ?hi_b10 ?k1_b10 ?k2_b10 ?k3_b10 (fun _ _ _ h => h) (Or.inl ⟨?g_b10, ?y_b10⟩) (by assumption) ?r_b10
    case hi_b10 => (simp only [List.getElem?_toArray, List.getElem?_cons_succ, List.getElem?_cons_zero]; rfl)
    case k1_b10 => kernel_rfl
    case k2_b10 => kernel_rfl
    case k3_b10 => kernel_rfl
    case g_b10 => rfl
    case y_b10 => (intro w hSw; (try dsimp only at hSw); first | (go_simp; done) | (go_simp; with_reducible rfl))
    (try simp only [Act.put, List.setIfInBounds_toArray, List.set_cons_zero, List.set_cons_succ])
    refine wpAnyH_ready (rs := [11]) ?k1_b11 (by simp) ?r_b11
    case k1_b11 => kernel_rfl
    refine AllReadyH.cons (o := ?ob11) ?hi_b11 (fun K hK => ?s_b11) ?m_b11
    case hi_b11 => (simp only [List.getElem?_toArray, List.getElem?_cons_succ, List.getElem?_cons_zero]; rfl)
    case m_b11 => exact AllReadyH.nil
    go_simp
    (go_at_call 64; (refine (compare_calls y x _).mono ?_); rintro e w9 ⟨rfl, hg9⟩; have HS1 := Lib.hid (S4.next (V := wr) (p := ad.add (lo * 2)) (gx := gx) (y := y) (x := x) (by assumption) hg9.below); clear hg9)
    (try go_wp2_with fail)
    refine hK.out _ _ HS1.out (fun hHeld => ?_)
    clear hK K
    (try simp only [Act.put, List.setIfInBounds_toArray, List.set_cons_zero, List.set_cons_succ])
    refine wpAnyH_take (i := 12) (oi := ?ob12) (v := ?vb12) ?hi_b12 ?k1_b12 ?k2_b12 ?k3_b12 (fun _ _ _ h => h) (Or.inl ⟨?g_b12, ?y_b12⟩) (by assumption) ?r_b12
    case hi_b12 => (simp only [List.getElem?_toArray, List.getElem?_cons_succ, List.getElem?_cons_zero]; rfl)
    case k1_b12 => kernel_rfl
    case k2_b12 => kernel_rfl
    case k3_b12 => kernel_rfl
    case g_b12 => rfl
    case y_b12 => (intro w hSw; (try dsimp only at hSw); first | (go_simp; done) | (go_simp; with_reducible rfl))
    (try simp only [Act.put, List.setIfInBounds_toArray, List.set_cons_zero, List.set_cons_succ])
    refine wpAnyH_take (i := 13) (oi := ?ob13) (v := ?vb13) ?hi_b13 ?k1_b13 ?k2_b13 ?k3_b13 (fun _ _ _ h => h) (Or.inl ⟨?g_b13, ?y_b13⟩) (by assumption) ?r_b13
    case hi_b13 => (simp only [List.getElem?_toArray, List.getElem?_cons_succ, List.getElem?_cons_zero]; rfl)
    case k1_b13 => kernel_rfl
    case k2_b13 => kernel_rfl
    case k3_b13 => kernel_rfl
    case g_b13 => rfl
    case y_b13 => (intro w hSw; (try dsimp only at hSw); first | (go_simp; done) | (go_simp; with_reducible rfl))
    (try simp only [Act.put, List.setIfInBounds_toArray, List.set_cons_zero, List.set_cons_succ])
    refine wpAnyH_take (i := 14) (oi := ?ob14) (v := ?vb14) ?hi_b14 ?k1_b14 ?k2_b14 ?k3_b14 (fun _ _ _ h => h) (Or.inl ⟨?g_b14, ?y_b14⟩) (by assumption) ?r_b14
    case hi_b14 => (simp only [List.getElem?_toArray, List.getElem?_cons_succ, List.getElem?_cons_zero]; rfl)
    case k1_b14 => kernel_rfl
    case k2_b14 => kernel_rfl
    case k3_b14 => kernel_rfl
    case g_b14 => rfl
    case y_b14 => (intro w hSw; (try dsimp only at hSw); first | (go_simp; done) | (go_simp; with_reducible rfl))
    (try simp only [Act.put, List.setIfInBounds_toArray, List.set_cons_zero, List.set_cons_succ])
    refine wpAnyH_take (i := 15) (oi := ?ob15) (v := ?vb15) ?hi_b15 ?k1_b15 ?k2_b15 ?k3_b15 (fun _ _ _ h => h) (Or.inl ⟨?g_b15, ?y_b15⟩) (by assumption) ?r_b15
    case hi_b15 => (simp only [List.getElem?_toArray, List.getElem?_cons_succ, List.getElem?_cons_zero]; rfl)
    case k1_b15 => kernel_rfl
    case k2_b15 => kernel_rfl
    case k3_b15 => kernel_rfl
    case g_b15 => rfl
    case y_b15 => (intro w hSw; (try dsimp only at hSw); first | (go_simp; done) | (go_simp; with_reducible rfl))
    (try simp only [Act.put, List.setIfInBounds_toArray, List.set_cons_zero, List.set_cons_succ])
    refine wpAnyH_done (by kernel_rfl) ?_ _
    refine NoPanic.normal ?_
    go_wp2
    refine bodyPost_ret (results_list (rs := [.tmp 6, .tmp 7]) rfl (by simp) (.tmp (.tmp .nil))) rfl ?_
    refine ⟨lo, decide (cfY y x = 0), rfl, h2, PL.out, ?_, below_step HB.out (below_step BW.out (HS1.out.2.2.2.2))⟩
    rw [HY.out, decide_eq_true_iff, cfY_eq]
    simp
   ·have d2 : decide ((lo : Int) < (ys.length : Int)) = false := by simp; omega
    go_upto_region 8 with fail
    have QS := Lib.hid (show Below wr.heap.size wr wr from Below.refl _ _)
    refine wp_region_noPanic ?_
    refine wp_region_held_drew (S := (fun w' => Below wr.heap.size wr w')) ?hm_f ?hS_f (fun hHeld => ?_)
    case hm_f => kernel_rfl
    case hS_f => exact below_step QS.out (by with_reducible repeat (first | exact Below.refl _ _ | apply pw_below_drewN | apply Below.drew))
    refine wpAnyH_take (i := 0) (oi := ?of0) (v := ?vf0) ?hi_f0 ?k1_f0 ?k2_f0 ?k3_f0 (fun _ _ _ h => h) (Or.inl ⟨?g_f0, ?y_f0⟩) (by assumption) ?r_f0
    case hi_f0 => (simp only [List.getElem?_toArray, List.getElem?_cons_succ, List.getElem?_cons_zero]; rfl)
    case k1_f0 => kernel_rfl
    case k2_f0 => kernel_rfl
    case k3_f0 => kernel_rfl
    case g_f0 => rfl
    case y_f0 => (intro w hSw; (try dsimp only at hSw); first | (go_simp; done) | (go_simp; with_reducible rfl))
    (try simp only [Act.put, List.setIfInBounds_toArray, List.set_cons_zero, List.set_cons_succ])
    refine wpAnyH_take (i := 1) (oi := ?of1) (v := ?vf1) ?hi_f1 ?k1_f1 ?k2_f1 ?k3_f1 (fun _ _ _ h => h) (Or.inl ⟨?g_f1, ?y_f1⟩) (by assumption) ?r_f1
    case hi_f1 => (simp only [List.getElem?_toArray, List.getElem?_cons_succ, List.getElem?_cons_zero]; rfl)
    case k1_f1 => kernel_rfl
    case k2_f1 => kernel_rfl
    case k3_f1 => kernel_rfl
    case g_f1 => rfl
    case y_f1 => (intro w hSw; (try dsimp only at hSw); first | (go_simp; done) | (go_simp; with_reducible rfl))
    (try simp only [Act.put, List.setIfInBounds_toArray, List.set_cons_zero, List.set_cons_succ])
    refine wpAnyH_take (i := 2) (oi := ?of2) (v := ?vf2) ?hi_f2 ?k1_f2 ?k2_f2 ?k3_f2 (fun _ _ _ h => h) (Or.inl ⟨?g_f2, ?y_f2⟩) (by assumption) ?r_f2
    case hi_f2 => (simp only [List.getElem?_toArray, List.getElem?_cons_succ, List.getElem?_cons_zero]; rfl)
    case k1_f2 => kernel_rfl
    case k2_f2 => kernel_rfl
    case k3_f2 => kernel_rfl
    case g_f2 => rfl
    case y_f2 => (intro w hSw; (try dsimp only at hSw); first | (go_simp; done) | (go_simp; with_reducible rfl))
    (try simp only [Act.put, List.setIfInBounds_toArray, List.set_cons_zero, List.set_cons_succ])
    refine wpAnyH_take (i := 3) (oi := ?of3) (v := ?vf3) ?hi_f3 ?k1_f3 ?k2_f3 ?k3_f3 (fun _ _ _ h => h) (Or.inl ⟨?g_f3, ?y_f3⟩) (by assumption) ?r_f3
    case hi_f3 => (simp only [List.getElem?_toArray, List.getElem?_cons_succ, List.getElem?_cons_zero]; rfl)
    case k1_f3 => kernel_rfl
    case k2_f3 => kernel_rfl
    case k3_f3 => kernel_rfl
    case g_f3 => rfl
    case y_f3 => (intro w hSw; (try dsimp only at hSw); first | (go_simp; done) | (go_simp; with_reducible rfl))
    (try simp only [Act.put, List.setIfInBounds_toArray, List.set_cons_zero, List.set_cons_succ])
    refine wpAnyH_take (i := 4) (oi := ?of4) (v := ?vf4) ?hi_f4 ?k1_f4 ?k2_f4 ?k3_f4 (fun _ _ _ h => h) (Or.inl ⟨?g_f4, ?y_f4⟩) (by assumption) ?r_f4
    case hi_f4 => (simp only [List.getElem?_toArray, List.getElem?_cons_succ, List.getElem?_cons_zero]; rfl)
    case k1_f4 => kernel_rfl
    case k2_f4 => kernel_rfl
    case k3_f4 => kernel_rfl
    case g_f4 => rfl
    case y_f4 => (intro w hSw; (try dsimp only at hSw); first | (go_simp; done) | (go_simp; with_reducible rfl))
    (try simp only [Act.put, List.setIfInBounds_toArray, List.set_cons_zero, List.set_cons_succ])
    refine wpAnyH_take (i := 5) (oi := ?of5) (v := undef) ?hi_f5 ?k1_f5 ?k2_f5 ?k3_f5 (fun _ _ _ h => h) (Or.inr ⟨?g_f5, rfl⟩) (by assumption) ?r_f5
    case hi_f5 => (simp only [List.getElem?_toArray, List.getElem?_cons_succ, List.getElem?_cons_zero]; rfl)
    case k1_f5 => kernel_rfl
    case k2_f5 => kernel_rfl
    case k3_f5 => kernel_rfl
    case g_f5 => rfl
    (try simp only [Act.put, List.setIfInBounds_toArray, List.set_cons_zero, List.set_cons_succ])
    refine wpAnyH_take (i := 6) (oi := ?of6) (v := undef) ?hi_f6 ?k1_f6 ?k2_f6 ?k3_f6 (fun _ _ _ h => h) (Or.inr ⟨?g_f6, rfl⟩) (by assumption) ?r_f6
    case hi_f6 => (simp only [List.getElem?_toArray, List.getElem?_cons_succ, List.getElem?_cons_zero]; rfl)
    case k1_f6 => kernel_rfl
    case k2_f6 => kernel_rfl
    case k3_f6 => kernel_rfl
    case g_f6 => rfl
    (try simp only [Act.put, List.setIfInBounds_toArray, List.set_cons_zero, List.set_cons_succ])
    refine wpAnyH_take (i := 7) (oi := ?of7) (v := undef) ?hi_f7 ?k1_f7 ?k2_f7 ?k3_f7 (fun _ _ _ h => h) (Or.inr ⟨?g_f7, rfl⟩) (by assumption) ?r_f7
    case hi_f7 => (simp only [List.getElem?_toArray, List.getElem?_cons_succ, List.getElem?_cons_zero]; rfl)
    case k1_f7 => kernel_rfl
    case k2_f7 => kernel_rfl
    case k3_f7 => kernel_rfl
    case g_f7 => rfl
    (try simp only [Act.put, List.setIfInBounds_toArray, List.set_cons_zero, List.set_cons_succ])
    refine wpAnyH_take (i := 8) (oi := ?of8) (v := undef) ?hi_f8 ?k1_f8 ?k2_f8 ?k3_f8 (fun _ _ _ h => h) (Or.inr ⟨?g_f8, rfl⟩) (by assumption) ?r_f8
    case hi_f8 => (simp only [List.getElem?_toArray, List.getElem?_cons_succ, List.getElem?_cons_zero]; rfl)
    case k1_f8 => kernel_rfl
    case k2_f8 => kernel_rfl
    case k3_f8 => kernel_rfl
    case g_f8 => rfl
    (try simp only [Act.put, List.setIfInBounds_toArray, List.set_cons_zero, List.set_cons_succ])
    refine wpAnyH_take (i := 9) (oi := ?of9) (v := undef) ?hi_f9 ?k1_f9 ?k2_f9 ?k3_f9 (fun _ _ _ h => h) (Or.inr ⟨?g_f9, rfl⟩) (by assumption) ?r_f9
    case hi_f9 => (simp only [List.getElem?_toArray, List.getElem?_cons_succ, List.getElem?_cons_zero]; rfl)
    case k1_f9 => kernel_rfl
    case k2_f9 => kernel_rfl
    case k3_f9 => kernel_rfl
    case g_f9 => rfl
    (try simp only [Act.put, List.setIfInBounds_toArray, List.set_cons_zero, List.set_cons_succ])
    refine wpAnyH_take (i := 10) (oi := ?of10) (v := undef) ?hi_f10 ?k1_f10 ?k2_f10 ?k3_f10 (fun _ _ _ h => h) (Or.inr ⟨?g_f10, rfl⟩) (by assumption) ?r_f10
    case hi_f10 => (simp only [List.getElem?_toArray, List.getElem?_cons_succ, List.getElem?_cons_zero]; rfl)
    case k1_f10 => kernel_rfl
    case k2_f10 => kernel_rfl
    case k3_f10 => kernel_rfl
    case g_f10 => rfl
    (try simp only [Act.put, List.setIfInBounds_toArray, List.set_cons_zero, List.set_cons_succ])
    refine wpAnyH_take (i := 11) (oi := ?of11) (v := undef) ?hi_f11 ?k1_f11 ?k2_f11 ?k3_f11 (fun _ _ _ h => h) (Or.inr ⟨?g_f11, rfl⟩) (by assumption) ?r_f11
    case hi_f11 => (simp only [List.getElem?_toArray, List.getElem?_cons_succ, List.getElem?_cons_zero]; rfl)
    case k1_f11 => kernel_rfl
    case k2_f11 => kernel_rfl
    case k3_f11 => kernel_rfl
    case g_f11 => rfl
    (try simp only [Act.put, List.setIfInBounds_toArray, List.set_cons_zero, List.set_cons_succ])
    refine wpAnyH_take (i := 12) (oi := ?of12) (v := undef) ?hi_f12 ?k1_f12 ?k2_f12 ?k3_f12 (fun _ _ _ h => h) (Or.inr ⟨?g_f12, rfl⟩) (by assumption) ?r_f12
    case hi_f12 => (simp only [List.getElem?_toArray, List.getElem?_cons_succ, List.getElem?_cons_zero]; rfl)
    case k1_f12 => kernel_rfl
    case k2_f12 => kernel_rfl
    case k3_f12 => kernel_rfl
    case g_f12 => rfl
    (try simp only [Act.put, List.setIfInBounds_toArray, List.set_cons_zero, List.set_cons_succ])
    refine wpAnyH_take (i := 13) (oi := ?of13) (v := ?vf13) ?hi_f13 ?k1_f13 ?k2_f13 ?k3_f13 (fun _ _ _ h => h) (Or.inl ⟨?g_f13, ?y_f13⟩) (by assumption) ?r_f13
    case hi_f13 => (simp only [List.getElem?_toArray, List.getElem?_cons_succ, List.getElem?_cons_zero]; rfl)
    case k1_f13 => kernel_rfl
    case k2_f13 => kernel_rfl
    case k3_f13 => kernel_rfl
    case g_f13 => rfl
    case y_f13 => (intro w hSw; (try dsimp only at hSw); first | (go_simp; done) | (go_simp; with_reducible rfl))
    (try simp only [Act.put, List.setIfInBounds_toArray, List.set_cons_zero, List.set_cons_succ])
    refine wpAnyH_take (i := 14) (oi := ?of14) (v := ?vf14) ?hi_f14 ?k1_f14 ?k2_f14 ?k3_f14 (fun _ _ _ h => h) (Or.inl ⟨?g_f14, ?y_f14⟩) (by assumption) ?r_f14
    case hi_f14 => (simp only [List.getElem?_toArray, List.getElem?_cons_succ, List.getElem?_cons_zero]; rfl)
    case k1_f14 => kernel_rfl
    case k2_f14 => kernel_rfl
    case k3_f14 => kernel_rfl
    case g_f14 => rfl
    case y_f14 => (intro w hSw; (try dsimp only at hSw); first | (go_simp; done) | (go_simp; with_reducible rfl))
    (try simp only [Act.put, List.setIfInBounds_toArray, List.set_cons_zero, List.set_cons_succ])
    refine wpAnyH_take (i := 15) (oi := ?of15) (v := ?vf15) ?hi_f15 ?k1_f15 ?k2_f15 ?k3_f15 (fun _ _ _ h => h) (Or.inl ⟨?g_f15, ?y_f15⟩) (by assumption) ?r_f15
    case hi_f15 => (simp only [List.getElem?_toArray, List.getElem?_cons_succ, List.getElem?_cons_zero]; rfl)
    case k1_f15 => kernel_rfl
    case k2_f15 => kernel_rfl
    case k3_f15 => kernel_rfl
    case g_f15 => rfl
    case y_f15 => (intro w hSw; (try dsimp only at hSw); first | (go_simp; done) | (go_simp; with_reducible rfl))
    (try simp only [Act.put, List.setIfInBounds_toArray, List.set_cons_zero, List.set_cons_succ])
    refine wpAnyH_done (by kernel_rfl) ?_ _
    refine NoPanic.normal ?_
    go_wp2
    refine bodyPost_ret (results_list (rs := [.tmp 6, .tmp 7]) rfl (by simp) (.tmp (.tmp .nil))) rfl ?_
    refine ⟨lo, false, rfl, h2, PL.out, ?_, below_step HB.out (below_step BW.out (by with_reducible repeat (first | exact Below.refl _ _ | apply pw_below_drewN | apply Below.drew)))⟩
    rw [List.getElem?_eq_none (by omega)]
    simp
end Go.Proofs.YtjphmebhofkhcaaDoor.Mk
/- Marks: Take's closure, and what Take keeps; a site put into sorted ones. Conditions: those named. -/
namespace Go.Proofs.YtjphmebhofkhcaaDoor.Mk
open Go.RowKit Go.Proofs.YtjphmebhofkhcaaDoorW.PrintWords Go.Proofs.YtjphmebhofkhcaaDoorW.PrintLast Go.Proofs.YtjphmebhofkhcaaDoorW.PrintMore Go.Proofs.YtjphmebhofkhcaaDoor.PSegAll Go.Proofs.YtjphmebhofkhcaaDoor.Pure
set_option linter.unusedVariables false
set_option linter.unusedSimpArgs false
/-- Where a place is behind letters that are taken away. -/
def toW (a b : Int) (p : Int) : Int := if p > b then IntKind.i64.wrap (p - (b - a)) else if p > a then a else p
theorem toW_eq {a b p : Int} (ha : 0 ≤ a) (hb : a ≤ b ∧ b ≤ 1152921504606846976) (hp : -1152921504606846976 ≤ p ∧ p ≤ 1152921504606846976) : toW a b p = toT a b p := by
 unfold toW toT
 split
 ·exact IntWalk.i64_in _ (by omega)
 ·rfl
set_option maxRecDepth 100000 in
set_option maxHeartbeats 800000 in
theorem take1_calls (a b p : Int) (gb ga : Nat) (w : World) (hb : w.cell? ⟨gb, 0, none⟩ = some (.int .i64 b)) (ha : w.cell? ⟨ga, 0, none⟩ = some (.int .i64 a)) (hab : 0 ≤ a ∧ a ≤ 1152921504606846976 ∧ 0 ≤ b ∧ b ≤ 1152921504606846976) :
  Calls Tryd.prog 79 #[.int .i64 p, .pointer (some ⟨gb, 0, none⟩), .pointer (some ⟨ga, 0, none⟩)] w fun e w' => e = .returned (.int .i64 (toW a b p)) ∧ Below w.heap.size w w' := by
 unfold toW
 have w1_ : IntKind.i64.wrap (b - a) = b - a := IntWalk.i64_in _ (by omega)
 clear hab
 go_enter Tryd.func79, Tryd.ntmps79
 by_cases h : p > b
 ·have d' : decide (b < p) = true := by simpa using h
  rw [if_pos h]
  generalize hz : IntKind.i64.wrap (p - (b - a)) = z
  go_wp2
  go_ret
  exact ⟨rfl, Below.refl _ _⟩
 ·have d' : decide (b < p) = false := by simpa using h
  rw [if_neg h]
  by_cases h2 : p > a
  ·have d2 : decide (a < p) = true := by simpa using h2
   rw [if_pos h2]
   go_wp2
   go_ret
   exact ⟨rfl, Below.refl _ _⟩
  ·have d2 : decide (a < p) = false := by simpa using h2
   rw [if_neg h2]
   go_wp2
   go_ret
   exact ⟨rfl, Below.refl _ _⟩
theorem eg_take1 : ∀ args w, (callFunc 79 args).run Tryd.prog w = .ok (.enter 79 args) w := fun args w => by kernel_rfl
def takeW (a b : Int) (xs : List Sp) : List Sp := xs.foldl (fun o s => addL o ⟨s.f0, toW a b s.f1, toW a b s.f2⟩) []
theorem takeW_snoc (a b : Int) (xs : List Sp) (s : Sp) : takeW a b (xs ++ [s]) = addL (takeW a b xs) ⟨s.f0, toW a b s.f1, toW a b s.f2⟩ := by unfold takeW; rw [List.foldl_append]; rfl
theorem takeW_take {a b : Int} {xs : List Sp} {j : Nat} {x : Sp} (h : xs[j]? = some x) : takeW a b (xs.take (j + 1)) = addL (takeW a b (xs.take j)) ⟨x.f0, toW a b x.f1, toW a b x.f2⟩ := by
 obtain ⟨hl, e⟩ := List.getElem?_eq_some_iff.1 h
 rw [List.take_succ_eq_append_getElem hl, e, takeW_snoc]
theorem foldT_len (f g : Sp → Int) : ∀ (xs : List Sp) (o : List Sp), (xs.foldl (fun o s => addL o ⟨s.f0, f s, g s⟩) o).length ≤ o.length + xs.length
 | [], o => by simp
 | s :: r, o => by
  rw [List.foldl_cons, List.length_cons]
  have h1 := foldT_len f g r (addL o ⟨s.f0, f s, g s⟩)
  have h2 := addL_length o ⟨s.f0, f s, g s⟩
  omega
theorem takeW_len (a b : Int) (xs : List Sp) : (takeW a b xs).length ≤ xs.length := by have h := foldT_len (fun s => toW a b s.f1) (fun s => toW a b s.f2) xs []; simpa [takeW] using h
theorem takeW_eq {a b : Int} (ha : 0 ≤ a) (hb : a ≤ b ∧ b ≤ 1152921504606846976) {xs : List Sp} (hx : ∀ x ∈ xs, (-1152921504606846976 ≤ x.f1 ∧ x.f1 ≤ 1152921504606846976) ∧ -1152921504606846976 ≤ x.f2 ∧ x.f2 ≤ 1152921504606846976) : takeW a b xs = takeL a b xs := by
 unfold takeW takeL
 refine foldl_congr_mem xs (fun o s hs => ?_) []
 rw [toW_eq ha hb (hx s hs).1, toW_eq ha hb (hx s hs).2]
/-- The site that Take may put in. -/
def lastY (a m : Int) (ys : List SY) : List SY := if m > 0 then siteL ys ⟨m, a⟩ else ys
theorem siteL_placed {ys : List SY} {x : SY} {i : Nat} (hs : ys.Pairwise siteLt) (hp : Placed ys x i i) : (ys[i]? = some x → siteL ys x = ys) ∧ (ys[i]? ≠ some x → siteL ys x = ys.take i ++ x :: ys.drop i) := by
 obtain ⟨s1, s2⟩ := siteL_ok (s := x) hs
 constructor
 ·intro h
  have hm := List.mem_of_getElem? h
  refine sites_uniq s1 hs (fun z => ?_)
  rw [s2]
  exact ⟨fun k => by rcases k with rfl | k; exact hm; exact k, fun k => .inr k⟩
 ·intro h
  have hx : ∀ (j : Nat) (y : SY), ys[j]? = some y → i ≤ j → siteLt x y := by
   intro j y hy hj
   have h1 := hp.2 j y hy hj
   rcases siteLt_total y x with k | k | k
   ·exact absurd k h1
   ·subst k
    exfalso
    by_cases e : j = i
    ·subst e
     exact h hy
    ·obtain ⟨q1, q2⟩ := List.getElem?_eq_some_iff.1 hy
     have q3 : i < ys.length := by omega
     have := List.pairwise_iff_getElem.1 hs i j q3 q1 (by omega)
     rw [q2] at this
     exact hp.2 i ys[i] (List.getElem?_eq_getElem q3) (Nat.le_refl _) this
   ·exact k
  have ht : ∀ y ∈ ys.take i, siteLt y x := by
   intro y hy
   obtain ⟨j, hj⟩ := List.getElem?_of_mem hy
   rw [List.getElem?_take] at hj
   split at hj
   ·rename_i hlt
    exact hp.1 j y hj hlt
   ·cases hj
  have hd : ∀ y ∈ ys.drop i, siteLt x y := by
   intro y hy
   obtain ⟨j, hj⟩ := List.getElem?_of_mem hy
   rw [List.getElem?_drop] at hj
   exact hx _ y hj (by omega)
  have hp2 := hs
  rw [← List.take_append_drop i ys, List.pairwise_append] at hp2
  refine sites_uniq s1 (List.pairwise_append.2 ⟨hp2.1, List.pairwise_cons.2 ⟨hd, hp2.2.1⟩, fun y hy z hz => ?_⟩) (fun z => ?_)
  ·rcases List.mem_cons.1 hz with rfl | hz
   ·exact ht y hy
   ·exact hp2.2.2 y hy z hz
  ·rw [s2, List.mem_append, List.mem_cons]
   conv => lhs; rhs; rw [← List.take_append_drop i ys, List.mem_append]
   constructor
   ·rintro (k | k | k)
    ·exact .inr (.inl k)
    ·exact .inl k
    ·exact .inr (.inr k)
   ·rintro (k | k | k)
    ·exact .inr (.inl k)
    ·exact .inl k
    ·exact .inr (.inr k)
/-- What Take keeps behind moved: the place, the marks of its own, the place for the answer. -/
structure TZ (w : World) (g5 g8 g13 : Nat) (a : Int) (v : Value) (o : List Sp) (vy : Value) (zs : List SY) (W : World) : Prop where
 b : Below w.heap.size w W
 h5 : W.heap[g5]? = some (.cells #[.int .i64 a] 3 (0, 0))
 h8 : W.heap[g8]? = some (.cells #[.slice none 0 0, .slice none 0 0] 29 (0, 0))
 h13 : W.heap[g13]? = some (.cells #[v, vy] 29 (0, 0))
 lo8 : w.heap.size ≤ g8
 lo : w.heap.size ≤ g13
 ne : g8 ≠ g13
 row : Kd.R kSp 67 W w.heap.size (fun _ => True) v o
 ry : Kd.R kY 70 W w.heap.size (fun _ => True) vy zs
theorem TZ.next {w W W' : World} {g5 g8 g13 : Nat} {a : Int} {v : Value} {o : List Sp} {vy : Value} {zs : List SY} (h : TZ w g5 g8 g13 a v o vy zs W) (hb : Below W.heap.size W W') : TZ w g5 g8 g13 a v o vy zs W' := ⟨below_step h.b hb, blk_below h.h5 hb, blk_below h.h8 hb, blk_below h.h13 hb, h.lo8, h.lo, h.ne, Kd.R_below h.row hb, Kd.R_below h.ry hb⟩
theorem grown_keepT {W W' : World} {base : Nat} {ok : Nat → Prop} {vy : Value} {zs : List SY} (h : Kd.R kY 70 W base ok vy zs) (hg : W.grownBy W' vy.ownBlock) {g : Nat} {cs : Array Value} {t : TypeId} (hx : W.heap[g]? = some (.cells cs t (0, 0))) (ht : t ≠ 70) : W'.heap[g]? = W.heap[g]? := hg.block g (blk_lt hx) (own_neY h hx ht)
theorem TZ.ins {w W W' : World} {g5 g8 g13 : Nat} {a : Int} {v : Value} {o : List Sp} {vy : Value} {zs zs' : List SY} (h : TZ w g5 g8 g13 a v o vy zs W) {e : Ending} (ha : RetIns vy zs' w.heap.size W e W') : ∃ A c, e = .returned (.slice A zs'.length c) ∧ W'.heap[g13]? = some (.cells #[v, vy] 29 (0, 0)) ∧ TZ w g5 g8 g13 a v o (.slice A zs'.length c) zs' (W'.setCell ⟨g13, 1, none⟩ (.slice A zs'.length c)) := by
 obtain ⟨v', rfl, hr, hg⟩ := ha
 obtain ⟨A, c, e'⟩ := Kd.R_slice hr
 subst e'
 have hb := below_grown h.b hg (own_base h.ry)
 have e5 := (grown_keepT h.ry hg h.h5 (by decide)).trans h.h5
 have e8 := (grown_keepT h.ry hg h.h8 (by decide)).trans h.h8
 have e13 := (grown_keepT h.ry hg h.h13 (by decide)).trans h.h13
 have er := R_moveT rfl h.row (fun g cs hc => grown_keepT h.ry hg hc (by decide))
 refine ⟨A, c, rfl, e13, below_set hb h.lo, (set_typeM e13 (by decide) 1 _ g5 _ e5).trans e5, ?_, by simpa using blk_set e13 1 (.slice A zs'.length c), h.lo8, h.lo, h.ne, R_moveT rfl er (set_typeM e13 (by decide) 1 _), R_moveT rfl hr (set_typeM e13 (by decide) 1 _)⟩
 exact (Below.heap_setCell W' ⟨g13, 1, none⟩ _ g8 h.ne).trans e8
end Go.Proofs.YtjphmebhofkhcaaDoor.Mk
/- Marks: the walk of Take. Conditions: at most 2^40 spans and sites, places within 0 and 2^60. -/
namespace Go.Proofs.YtjphmebhofkhcaaDoor.Mk
open Go.RowKit Go.Proofs.YtjphmebhofkhcaaDoorW.PrintWords Go.Proofs.YtjphmebhofkhcaaDoorW.PrintLast Go.Proofs.YtjphmebhofkhcaaDoorW.PrintMore Go.Proofs.YtjphmebhofkhcaaDoor.PSegAll Go.Proofs.YtjphmebhofkhcaaDoor.Pure
set_option linter.unusedVariables false
set_option linter.unusedSimpArgs false
attribute [local go_sem] max2_int min2_int max_two min_two
/-- A span's cells, read in a region that draws. -/
abbrev S3 (g : Nat) (x : Sp) (W : World) : Prop := W.cell? ⟨g, 0, none⟩ = some (.int .i64 x.f0) ∧ W.cell? ⟨g, 1, none⟩ = some (.int .i64 x.f1) ∧ W.cell? ⟨g, 2, none⟩ = some (.int .i64 x.f2)
theorem S3.of {g : Nat} {x : Sp} {W : World} (h : W.heap[g]? = some (.cells #[.int .i64 x.f0, .int .i64 x.f1, .int .i64 x.f2] 67 (0, 0))) : S3 g x W := ⟨(blk_cell h 0).trans rfl, (blk_cell h 1).trans rfl, (blk_cell h 2).trans rfl⟩
theorem own_ltY {W : World} {base : Nat} {ok : Nat → Prop} {v : Value} {o : List SY} (h : Kd.R kY 70 W base ok v o) : ∀ k, v.ownBlock = some k → k < W.heap.size := by
 intro k hk
 obtain ⟨i, ho⟩ := Kd.R_own h
 obtain ⟨cu, hcu⟩ := own_typed ho k hk
 exact blk_lt hcu
set_option maxRecDepth 1000000 in
set_option maxHeartbeats 8000000 in
theorem take_calls (A : Option Addr) (c : Nat) (xs : List Sp) (B : Option Addr) (d : Nat) (ys : List SY) (a b m : Int) (w : World) (hr : Kd.C kSp w A xs.length xs) (hc : xs.length ≤ c) (hs : Kd.C kY w B ys.length ys) (hd : ys.length ≤ d) (hl : xs.length ≤ 1099511627776) (hly : ys.length ≤ 1099511627775)
  (hab : 0 ≤ a ∧ a ≤ 1152921504606846976 ∧ 0 ≤ b ∧ b ≤ 1152921504606846976) :
  Calls Tryd.prog 57 #[.agg #[.slice A xs.length c, .slice B ys.length d], .int .i64 a, .int .i64 b, .int .i64 m] w (RetMk (takeW a b xs) (lastY a m (normY (ys.map (mvY (toW a b))))) w) := by
 have HR := Lib.hid hr
 have HS := Lib.hid hs
 have HAB := Lib.hid hab
 clear hr hs hab
 go_enter Tryd.func57, Tryd.ntmps57
 go_upto_region 1 with fail
 obtain ⟨L0, hL0⟩ : ∃ L : List (Nat × Array Value × TypeId), L = [(w.heap.size, #[.slice A xs.length c, .slice B ys.length d], 29), (w.heap.size + 1, #[.int .i64 a], 3), (w.heap.size + 2, #[.int .i64 b], 3), (w.heap.size + 3, #[.slice none 0 0, .slice none 0 0], 29)] := ⟨_, rfl⟩
 refine gen2 (φ := fun W => Code.wp _ _ _ _ W) (P := fun W => KZ w L0 (.slice none 0 0) [] W) ?hP0 ?_
 case hP0 =>
  rw [hL0]
  refine ⟨below_alloc (below_alloc (below_alloc (below_alloc (Below.refl _ _) _) _) _) _, fun z hz => ?_, Kd.R_nil _ _ _ _ _⟩
  have e1 := blk_new w (.cells #[.slice A xs.length c, .slice B ys.length d] 29)
  have e2 := blk_newM (w := w.alloc (.cells #[.slice A xs.length c, .slice B ys.length d] 29)) (o := .cells #[.int .i64 a] 3) (g := w.heap.size + 1) (by simp)
  have e3 := blk_newM (w := (w.alloc (.cells #[.slice A xs.length c, .slice B ys.length d] 29)).alloc (.cells #[.int .i64 a] 3)) (o := .cells #[.int .i64 b] 3) (g := w.heap.size + 2) (by simp)
  have e4 := blk_newM (w := ((w.alloc (.cells #[.slice A xs.length c, .slice B ys.length d] 29)).alloc (.cells #[.int .i64 a] 3)).alloc (.cells #[.int .i64 b] 3)) (o := .cells #[.slice none 0 0, .slice none 0 0] 29) (g := w.heap.size + 3) (by simp)
  simp only [List.mem_cons, List.not_mem_nil, or_false] at hz
  rcases hz with rfl | rfl | rfl | rfl
  ·exact ⟨blk_alloc (blk_alloc (blk_alloc e1 _) _) _, by simp [Value.ownBlock]⟩
  ·exact ⟨blk_alloc (blk_alloc e2 _) _, by simp [Value.ownBlock]⟩
  ·exact ⟨blk_alloc e3 _, by simp [Value.ownBlock]⟩
  ·exact ⟨e4, by simp [Value.ownBlock]⟩
 rintro V0 hV0
 have Z0 := Lib.hid hV0
 have M4 : Hid ((w.heap.size, (#[.slice A xs.length c, .slice B ys.length d] : Array Value), 29) ∈ L0) := Lib.hid (by rw [hL0]; simp)
 have M5 : Hid ((w.heap.size + 1, (#[.int .i64 a] : Array Value), 3) ∈ L0) := Lib.hid (by rw [hL0]; simp)
 have M6 : Hid ((w.heap.size + 2, (#[.int .i64 b] : Array Value), 3) ∈ L0) := Lib.hid (by rw [hL0]; simp)
 have M8 : Hid ((w.heap.size + 3, (#[.slice none 0 0, .slice none 0 0] : Array Value), 29) ∈ L0) := Lib.hid (by rw [hL0]; simp)
 clear hV0 hL0
 have x4 := (blk_cell (Z0.out.blk _ M4.out).1 0).trans rfl
 go_wp2
 clear x4
 go_loopw [21, 10] (fun s21 s10 wr => ∃ (kk : Nat) (v : Value), kk ≤ xs.length ∧ s21 = .int .i64 (kk : Int) ∧ v = s10 ∧ Hid (KZ w L0 v (takeW a b (xs.take kk)) wr)) (fun s21 _ _ => xs.length - cntM s21)
 case atStart => exact ⟨0, _, Nat.zero_le _, rfl, rfl, Z0⟩
 case round =>
  obtain ⟨kk, v, hkk, rfl, ev, ZW⟩ := hrel
  subst ev
  have LO : Hid ((takeW a b (xs.take kk)).length ≤ 1099511627776) := Lib.hid (by have h := takeW_len a b (xs.take kk); rw [List.length_take] at h; omega)
  by_cases hlt : kk < xs.length
  ·have d1 : decide ((kk : Int) < (xs.length : Int)) = true := by simp; omega
   have b1 : (0 : Int) ≤ (kk : Int) := by omega
   have b2 : (kk : Int) < (xs.length : Int) := by omega
   have w1_ : IntKind.i64.wrap ((kk : Int) + 1) = (kk : Int) + 1 := IntWalk.i64_in _ (by omega)
   obtain ⟨x, hx⟩ : ∃ x, xs[kk]? = some x := ⟨_, List.getElem?_eq_getElem hlt⟩
   obtain ⟨ad, e0, y0, y1, y2⟩ := at_S (Kd.C_below HR.out ZW.out.b) hx hlt
   subst e0
   have PT := Lib.hid (takeW_take (a := a) (b := b) hx)
   clear hx
   generalize takeW a b (xs.take kk) = o at ZW LO PT
   go_upto_region 6 with (first | ((with_reducible refine gate_dst (N := 12) rfl ?_); refine box_event ?hg (N := 12) ?hd (cs := #[.int .i64 0, .int .i64 0, .int .i64 0]) (t := 67) ?hr ?_; (case hd => rfl); (case hg => rfl); (case hr => first | (go_simp; done) | (go_simp; rfl)); intro gB hgB wB hxB hbB; have GB := Lib.hid (show TBm 67 wr gB #[.int .i64 0, .int .i64 0, .int .i64 0] wB from ⟨hbB, by rw [hgB]; exact Nat.le_refl _, hxB⟩); have q0 := (blk_cell hxB 0).trans rfl; have q1 := (blk_cell hxB 1).trans rfl; have q2 := (blk_cell hxB 2).trans rfl; have z0 := blk_frozen hxB 0; have z1 := blk_frozen hxB 1; have z2 := blk_frozen hxB 2; clear hgB hxB hbB))
   refine gen2 (φ := fun W => Code.wp _ _ _ _ W) (P := fun W => TBm 67 wr gB #[.int .i64 x.f0, .int .i64 x.f1, .int .i64 x.f2] W) (((GB.out.set 0 (.int .i64 x.f0)).set 1 (.int .i64 x.f1)).set 2 (.int .i64 x.f2)) ?_
   clear q0 q1 q2 z0 z1 z2 GB y0 y1 y2
   rintro V3 hV3
   obtain ⟨L2, hL2⟩ : ∃ L2, L2 = (gB, (#[.int .i64 x.f0, .int .i64 x.f1, .int .i64 x.f2] : Array Value), 67) :: L0 := ⟨_, rfl⟩
   have Z3 : Hid (KZ w L2 v o V3) := Lib.hid (by rw [hL2]; exact ZW.out.push hV3.b hV3.lo hV3.hx)
   have IN : Hid (∀ z ∈ L0, z ∈ L2) := Lib.hid (fun z hz => by rw [hL2]; exact List.mem_cons_of_mem _ hz)
   have I0 : Hid ((gB, (#[.int .i64 x.f0, .int .i64 x.f1, .int .i64 x.f2] : Array Value), 67) ∈ L2) := Lib.hid (by rw [hL2]; exact List.mem_cons_self)
   have BK : Hid (∀ (v' : Value) (o' : List Sp) (W : World), KZ w L2 v' o' W → KZ w L0 v' o' W) := Lib.hid (fun v' o' W h => by rw [hL2] at h; exact h.tail)
   clear hV3 hL2 ZW
   obtain ⟨t1, ht1⟩ : ∃ t, t = toW a b x.f1 := ⟨_, rfl⟩
   obtain ⟨t2, ht2⟩ : ∃ t, t = toW a b x.f2 := ⟨_, rfl⟩
   have T1 := Lib.hid ht1
   have T2 := Lib.hid ht2
   rw [← ht1, ← ht2] at PT
   clear ht1 ht2
   refine wp_region_noPanic ?_
   refine wp_region_held_drew (S := (fun w' => S3 gB x w')) ?hm_a ?hS_a (fun hHeld => ?_)
   case hm_a => kernel_rfl
   case hS_a => exact S3.of ((Z3.out.next (by with_reducible repeat (first | exact Below.refl _ _ | apply pw_below_drewN | apply Below.drew))).blk _ I0.out).1
   refine wpAnyH_take (i := 0) (oi := ?oa0) (v := ?va0) ?hi_a0 ?k1_a0 ?k2_a0 ?k3_a0 (fun _ _ _ h => h) (Or.inl ⟨?g_a0, ?y_a0⟩) (by assumption) ?r_a0
   case hi_a0 => (simp only [List.getElem?_toArray, List.getElem?_cons_succ, List.getElem?_cons_zero]; rfl)
   case k1_a0 => kernel_rfl
   case k2_a0 => kernel_rfl
   case k3_a0 => kernel_rfl
   case g_a0 => rfl
   case y_a0 => (intro w hSw; (try dsimp only at hSw); first | (go_simp; done) | (go_simp; with_reducible rfl))
   (try simp only [Act.put, List.setIfInBounds_toArray, List.set_cons_zero, List.set_cons_succ])
   refine wpAnyH_take (i := 1) (oi := ?oa1) (v := ?va1) ?hi_a1 ?k1_a1 ?k2_a1 ?k3_a1 (fun _ _ _ h => h) (Or.inl ⟨?g_a1, ?y_a1⟩) (by assumption) ?r_a1
   case hi_a1 => (simp only [List.getElem?_toArray, List.getElem?_cons_succ, List.getElem?_cons_zero]; rfl)
   case k1_a1 => kernel_rfl
   case k2_a1 => kernel_rfl
   case k3_a1 => kernel_rfl
   case g_a1 => rfl
   case y_a1 => (intro w hSw; (try dsimp only at hSw); first | (go_simp; done) | (go_simp; with_reducible rfl))
   (try simp only [Act.put, List.setIfInBounds_toArray, List.set_cons_zero, List.set_cons_succ])
   refine wpAnyH_take (i := 2) (oi := ?oa2) (v := ?va2) ?hi_a2 ?k1_a2 ?k2_a2 ?k3_a2 (fun _ _ _ h => h) (Or.inl ⟨?g_a2, ?y_a2⟩) (by assumption) ?r_a2
   case hi_a2 => (simp only [List.getElem?_toArray, List.getElem?_cons_succ, List.getElem?_cons_zero]; rfl)
   case k1_a2 => kernel_rfl
   case k2_a2 => kernel_rfl
   case k3_a2 => kernel_rfl
   case g_a2 => rfl
   case y_a2 => (intro w hSw; (try dsimp only at hSw); first | (go_simp; done) | (go_simp; with_reducible rfl))
   (try simp only [Act.put, List.setIfInBounds_toArray, List.set_cons_zero, List.set_cons_succ])
   refine wpAnyH_take (i := 3) (oi := ?oa3) (v := ?va3) ?hi_a3 ?k1_a3 ?k2_a3 ?k3_a3 (fun _ _ _ h => h) (Or.inl ⟨?g_a3, ?y_a3⟩) (by assumption) ?r_a3
   case hi_a3 => (simp only [List.getElem?_toArray, List.getElem?_cons_succ, List.getElem?_cons_zero]; rfl)
   case k1_a3 => kernel_rfl
   case k2_a3 => kernel_rfl
   case k3_a3 => kernel_rfl
   case g_a3 => rfl
   case y_a3 => (intro w hSw; (try dsimp only at hSw); first | (go_simp; done) | (go_simp; with_reducible rfl))
   (try simp only [Act.put, List.setIfInBounds_toArray, List.set_cons_zero, List.set_cons_succ])
   refine wpAnyH_take (i := 4) (oi := ?oa4) (v := ?va4) ?hi_a4 ?k1_a4 ?k2_a4 ?k3_a4 (fun _ _ _ h => h) (Or.inl ⟨?g_a4, ?y_a4⟩) (by assumption) ?r_a4
   case hi_a4 => (simp only [List.getElem?_toArray, List.getElem?_cons_succ, List.getElem?_cons_zero]; rfl)
   case k1_a4 => kernel_rfl
   case k2_a4 => kernel_rfl
   case k3_a4 => kernel_rfl
   case g_a4 => rfl
   case y_a4 => (intro w hSw; (try dsimp only at hSw); first | (go_simp; done) | (go_simp; with_reducible rfl))
   (try simp only [Act.put, List.setIfInBounds_toArray, List.set_cons_zero, List.set_cons_succ])
   refine wpAnyH_take (i := 5) (oi := ?oa5) (v := ?va5) ?hi_a5 ?k1_a5 ?k2_a5 ?k3_a5 (fun _ _ _ h => h) (Or.inl ⟨?g_a5, ?y_a5⟩) (by assumption) ?r_a5
   case hi_a5 => (simp only [List.getElem?_toArray, List.getElem?_cons_succ, List.getElem?_cons_zero]; rfl)
   case k1_a5 => kernel_rfl
   case k2_a5 => kernel_rfl
   case k3_a5 => kernel_rfl
   case g_a5 => rfl
   case y_a5 => (intro w hSw; (try dsimp only at hSw); first | (go_simp; done) | (go_simp; with_reducible rfl))
   (try simp only [Act.put, List.setIfInBounds_toArray, List.set_cons_zero, List.set_cons_succ])
   refine wpAnyH_take (i := 7) (oi := ?oa7) (v := ?va7) ?hi_a7 ?k1_a7 ?k2_a7 ?k3_a7 (fun _ _ _ h => h) (Or.inl ⟨?g_a7, ?y_a7⟩) (by assumption) ?r_a7
   case hi_a7 => (simp only [List.getElem?_toArray, List.getElem?_cons_succ, List.getElem?_cons_zero]; rfl)
   case k1_a7 => kernel_rfl
   case k2_a7 => kernel_rfl
   case k3_a7 => kernel_rfl
   case g_a7 => rfl
   case y_a7 => (intro w hSw; (try dsimp only at hSw); first | (go_simp; done) | (go_simp; with_reducible rfl))
   (try simp only [Act.put, List.setIfInBounds_toArray, List.set_cons_zero, List.set_cons_succ])
   refine wpAnyH_take (i := 8) (oi := ?oa8) (v := ?va8) ?hi_a8 ?k1_a8 ?k2_a8 ?k3_a8 (fun _ _ _ h => h) (Or.inl ⟨?g_a8, ?y_a8⟩) (by assumption) ?r_a8
   case hi_a8 => (simp only [List.getElem?_toArray, List.getElem?_cons_succ, List.getElem?_cons_zero]; rfl)
   case k1_a8 => kernel_rfl
   case k2_a8 => kernel_rfl
   case k3_a8 => kernel_rfl
   case g_a8 => rfl
   case y_a8 => (intro w hSw; (try dsimp only at hSw); first | (go_simp; done) | (go_simp; with_reducible rfl))
   (try simp only [Act.put, List.setIfInBounds_toArray, List.set_cons_zero, List.set_cons_succ])
   refine wpAnyH_take (i := 9) (oi := ?oa9) (v := ?va9) ?hi_a9 ?k1_a9 ?k2_a9 ?k3_a9 (fun _ _ _ h => h) (Or.inl ⟨?g_a9, ?y_a9⟩) (by assumption) ?r_a9
   case hi_a9 => (simp only [List.getElem?_toArray, List.getElem?_cons_succ, List.getElem?_cons_zero]; rfl)
   case k1_a9 => kernel_rfl
   case k2_a9 => kernel_rfl
   case k3_a9 => kernel_rfl
   case g_a9 => rfl
   case y_a9 => (intro w hSw; (try dsimp only at hSw); first | (go_simp; done) | (go_simp; with_reducible rfl))
   (try simp only [Act.put, List.setIfInBounds_toArray, List.set_cons_zero, List.set_cons_succ])
   refine wpAnyH_ready (rs := [6]) ?k1_a6 (by simp) ?r_a6
   case k1_a6 => kernel_rfl
   refine AllReadyH.cons (o := ?oa6) ?hi_a6 (fun K hK => ?s_a6) ?m_a6
   case hi_a6 => (simp only [List.getElem?_toArray, List.getElem?_cons_succ, List.getElem?_cons_zero]; rfl)
   case m_a6 => exact AllReadyH.nil
   go_simp
   (go_at_call 79; (refine (take1_calls a b x.f1 (w.heap.size + 2) (w.heap.size + 1) _ ?c1a ?c1b HAB.out).mono ?_); (case c1a => exact (blk_cell ((Z3.out.next (by with_reducible repeat (first | exact Below.refl _ _ | apply pw_below_drewN | apply Below.drew))).blk _ (IN.out _ M6.out)).1 0).trans rfl); (case c1b => exact (blk_cell ((Z3.out.next (by with_reducible repeat (first | exact Below.refl _ _ | apply pw_below_drewN | apply Below.drew))).blk _ (IN.out _ M5.out)).1 0).trans rfl); rw [← T1.out]; rintro e w5 ⟨rfl, hb5⟩; have ZA := Lib.hid ((Z3.out.next (by with_reducible repeat (first | exact Below.refl _ _ | apply pw_below_drewN | apply Below.drew))).next hb5); clear hb5)
   (try go_wp2_with fail)
   refine hK.out _ _ (S3.of (ZA.out.blk _ I0.out).1) (fun hHeld => ?_)
   clear hK K
   (try simp only [Act.put, List.setIfInBounds_toArray, List.set_cons_zero, List.set_cons_succ])
   refine wpAnyH_ready (rs := [10]) ?k1_a10 (by simp) ?r_a10
   case k1_a10 => kernel_rfl
   refine AllReadyH.cons (o := ?oa10) ?hi_a10 (fun K hK => ?s_a10) ?m_a10
   case hi_a10 => (simp only [List.getElem?_toArray, List.getElem?_cons_succ, List.getElem?_cons_zero]; rfl)
   case m_a10 => exact AllReadyH.nil
   go_simp
   (go_at_call 79; (refine (take1_calls a b x.f2 (w.heap.size + 2) (w.heap.size + 1) _ ?c2a ?c2b HAB.out).mono ?_); (case c2a => exact (blk_cell (ZA.out.blk _ (IN.out _ M6.out)).1 0).trans rfl); (case c2b => exact (blk_cell (ZA.out.blk _ (IN.out _ M5.out)).1 0).trans rfl); rw [← T2.out]; rintro e w6 ⟨rfl, hb6⟩; have ZB := Lib.hid (ZA.out.next hb6); clear hb6)
   (try go_wp2_with fail)
   refine hK.out _ _ (S3.of (ZB.out.blk _ I0.out).1) (fun hHeld => ?_)
   clear hK K
   (try simp only [Act.put, List.setIfInBounds_toArray, List.set_cons_zero, List.set_cons_succ])
   refine wpAnyH_take (i := 11) (oi := ?oa11) (v := ?va11) ?hi_a11 ?k1_a11 ?k2_a11 ?k3_a11 (fun _ _ _ h => h) (Or.inl ⟨?g_a11, ?y_a11⟩) (by assumption) ?r_a11
   case hi_a11 => (simp only [List.getElem?_toArray, List.getElem?_cons_succ, List.getElem?_cons_zero]; rfl)
   case k1_a11 => kernel_rfl
   case k2_a11 => kernel_rfl
   case k3_a11 => kernel_rfl
   case g_a11 => rfl
   case y_a11 => (intro w hSw; (try dsimp only at hSw); first | (go_simp; done) | (go_simp; with_reducible rfl))
   (try simp only [Act.put, List.setIfInBounds_toArray, List.set_cons_zero, List.set_cons_succ])
   refine wpAnyH_ready (rs := [12]) ?k1_a12 (by simp) ?r_a12
   case k1_a12 => kernel_rfl
   refine AllReadyH.cons (o := ?oa12) ?hi_a12 (fun K hK => ?s_a12) ?m_a12
   case hi_a12 => (simp only [List.getElem?_toArray, List.getElem?_cons_succ, List.getElem?_cons_zero]; rfl)
   case m_a12 => exact AllReadyH.nil
   go_simp
   (go_at_call 67; (refine (add_calls v o ⟨x.f0, t1, t2⟩ w _ ZB.out.b ZB.out.row ?c3a).mono ?_); (case c3a => have := LO.out; omega); rintro e w7 ha7; obtain ⟨v7, rfl, z9⟩ := ZB.out.add ha7; clear ha7)
   (try go_wp2_with fail)
   refine hK.out _ _ (S3.of (z9.blk _ I0.out).1) (fun hHeld => ?_)
   clear hK K
   (try simp only [Act.put, List.setIfInBounds_toArray, List.set_cons_zero, List.set_cons_succ])
   refine wpAnyH_take (i := 13) (oi := ?oa13) (v := ?va13) ?hi_a13 ?k1_a13 ?k2_a13 ?k3_a13 (fun _ _ _ h => h) (Or.inl ⟨?g_a13, ?y_a13⟩) (by assumption) ?r_a13
   case hi_a13 => (simp only [List.getElem?_toArray, List.getElem?_cons_succ, List.getElem?_cons_zero]; rfl)
   case k1_a13 => kernel_rfl
   case k2_a13 => kernel_rfl
   case k3_a13 => kernel_rfl
   case g_a13 => rfl
   case y_a13 => (intro w hSw; (try dsimp only at hSw); first | (go_simp; done) | (go_simp; with_reducible rfl))
   (try simp only [Act.put, List.setIfInBounds_toArray, List.set_cons_zero, List.set_cons_succ])
   refine wpAnyH_done (by kernel_rfl) ?_ _
   refine NoPanic.normal ?_
   have Z9 := Lib.hid (BK.out _ _ _ z9)
   clear z9 ZA ZB Z3
   go_wp2
   go_roundw
   case rel => exact ⟨kk + 1, _, by omega, by go_num, rfl, by rw [PT.out]; exact Z9⟩
   case measure =>
    simp only [cntM]
    omega
  ·have d1 : decide ((kk : Int) < (xs.length : Int)) = false := by simp; omega
   obtain rfl : kk = xs.length := by omega
   rw [List.take_length] at ZW LO
   clear Z0
   obtain ⟨pl, hpl⟩ : ∃ l, l = takeW a b xs := ⟨_, rfl⟩
   obtain ⟨nz, hnz⟩ : ∃ l, l = normY (ys.map (mvY (toW a b))) := ⟨_, rfl⟩
   have HPL := Lib.hid hpl
   have HNZ := Lib.hid hnz
   have NS : Hid (nz.Pairwise siteLt) := Lib.hid (by rw [hnz]; exact (normY_ok _).1)
   have LN : Hid (nz.length ≤ 1099511627775) := Lib.hid (by have h := normY_len (ys.map (mvY (toW a b))); rw [List.length_map] at h; rw [hnz]; omega)
   rw [← hpl] at ZW LO
   clear hpl hnz
   obtain ⟨Av, cv, ev⟩ := Kd.R_slice ZW.out.row
   subst ev
   have x4 := (blk_cell (ZW.out.blk _ M4.out).1 1).trans rfl
   go_upto_region 9 with (first | (go_at_call 68; refine (moved_calls B d ys 79 #[.pointer (some ⟨w.heap.size + 2, 0, none⟩), .pointer (some ⟨w.heap.size + 1, 0, none⟩)] (toW a b) _ eg_take1 (fun W p hb => take1_calls a b p _ _ W (pw_cell_below hb ((blk_cell (ZW.out.blk _ M6.out).1 0).trans rfl)) (pw_cell_below hb ((blk_cell (ZW.out.blk _ M5.out).1 0).trans rfl)) HAB.out) (Kd.C_below HS.out ZW.out.b) hd (by omega)).mono ?_; rw [← HNZ.out]; rintro e w8 ⟨v8, rfl, hr8, hb8⟩; have Z8 := Lib.hid (ZW.out.next hb8); have R8 := Lib.hid (Kd.R_lower hr8 ZW.out.b.size); obtain ⟨A8, c8, e8⟩ := Kd.R_slice R8.out; subst e8; clear hr8 hb8) | ((with_reducible refine gate_dst (N := 13) rfl ?_); refine box_event ?hg (N := 13) ?hd (cs := #[.slice none 0 0, .slice none 0 0]) (t := 29) ?hr ?_; (case hd => rfl); (case hg => rfl); (case hr => first | (go_simp; done) | (go_simp; rfl)); intro gG hgG wG hxG hbG; have GG := Lib.hid (show TBm 29 w8 gG #[.slice none 0 0, .slice none 0 0] wG from ⟨hbG, by rw [hgG]; exact Nat.le_refl _, hxG⟩); have q0 := (blk_cell hxG 0).trans rfl; have q1 := (blk_cell hxG 1).trans rfl; have z0 := blk_frozen hxG 0; have z1 := blk_frozen hxG 1; clear hgG hxG hbG))
   have hpn : pl.length = pl.length := rfl
   refine gen2 (φ := fun W => Code.wp _ _ _ _ W) (P := fun W => TZ w (w.heap.size + 1) (w.heap.size + 3) gG a (.slice Av pl.length cv) pl (.slice A8 nz.length c8) nz W) ?hT ?_
   case hT =>
    have n1 : w.heap.size + 3 ≠ gG := by have := blk_lt (Z8.out.blk _ M8.out).1; have := GG.out.lo; omega
    have b1 := GG.out.b
    have e13 := GG.out.hx
    have k5 : wG.heap[w.heap.size + 1]? = some (.cells #[.int .i64 a] 3 (0, 0)) := blk_below (Z8.out.blk _ M5.out).1 b1
    have k8 : wG.heap[w.heap.size + 3]? = some (.cells #[.slice none 0 0, .slice none 0 0] 29 (0, 0)) := blk_below (Z8.out.blk _ M8.out).1 b1
    have l1 := Nat.le_trans Z8.out.b.size GG.out.lo
    have k5a := (set_typeM e13 (t := 3) (by decide) 0 (.slice Av pl.length cv) _ _ k5).trans k5
    exact ⟨below_set (below_set (below_step Z8.out.b b1) l1) l1, (set_typeM (blk_set e13 0 (.slice Av pl.length cv)) (t := 3) (by decide) 1 _ _ _ k5a).trans k5a,
     (Below.heap_setCell _ ⟨gG, 1, none⟩ _ _ n1).trans ((Below.heap_setCell _ ⟨gG, 0, none⟩ _ _ n1).trans k8), by simpa using blk_set (blk_set e13 0 (.slice Av pl.length cv)) 1 (.slice A8 nz.length c8), by omega, l1, n1,
     R_moveT rfl (R_moveT rfl (Kd.R_below Z8.out.row b1) (set_typeM e13 (by decide) 0 _)) (set_typeM (blk_set e13 0 _) (by decide) 1 _), R_moveT rfl (R_moveT rfl (Kd.R_below R8.out b1) (set_typeM e13 (by decide) 0 _)) (set_typeM (blk_set e13 0 _) (by decide) 1 _)⟩
   rintro W9 hW9
   have ZT := Lib.hid hW9
   clear hW9 q0 q1 z0 z1 GG Z8 R8 x4 hpn M4 M5 M6 M8 ZW
   by_cases hm : m > 0
   ·have dm : decide (0 < m) = true := by simpa using hm
    have EL := Lib.hid (show lastY a m nz = siteL nz ⟨m, a⟩ by unfold lastY; rw [if_pos hm])
    clear hm
    have x5 := (blk_cell ZT.out.h5 0).trans rfl
    go_upto_region 11 with (first | ((with_reducible refine gate_dst (N := 14) rfl ?_); refine box_event ?hg (N := 14) ?hd (cs := #[.int .i64 0, .int .i64 0]) (t := 70) ?hr ?_; (case hd => rfl); (case hg => rfl); (case hr => first | (go_simp; done) | (go_simp; rfl)); intro gS hgS wS hxS hbS; have GS := Lib.hid (show TBm 70 W9 gS #[.int .i64 0, .int .i64 0] wS from ⟨hbS, by rw [hgS]; exact Nat.le_refl _, hxS⟩); have q0 := (blk_cell hxS 0).trans rfl; have q1 := (blk_cell hxS 1).trans rfl; have z0 := blk_frozen hxS 0; have z1 := blk_frozen hxS 1; clear hgS hxS hbS))
    refine gen2 (φ := fun W => Code.wp _ _ _ _ W) (P := fun W => TBm 70 W9 gS #[.int .i64 m, .int .i64 a] W) ((GS.out.set 0 (.int .i64 m)).set 1 (.int .i64 a)) ?_
    clear q0 q1 z0 z1 GS x5
    rintro W10 hW10
    have ZU := Lib.hid (ZT.out.next hW10.b)
    have X14 := Lib.hid hW10.hx
    clear hW10 ZT
    have t1 := (blk_cell ZU.out.h13 1).trans rfl
    have s0 := (blk_cell X14.out 0).trans rfl
    have s1 := (blk_cell X14.out 1).trans rfl
    go_wp2_with fail
    (go_at_call 80; refine (search_calls A8 c8 nz ⟨m, a⟩ _ (Kd.R_reads' ZU.out.ry).2.2 (Kd.R_reads' ZU.out.ry).2.1 NS.out (by have := LN.out; omega)).mono ?_; rintro e w11 ⟨i, there, rfl, hi, hpl, hfd, hb11⟩)
    have ZX := Lib.hid (ZU.out.next hb11)
    have X15 := Lib.hid (blk_below X14.out hb11)
    have SP := Lib.hid (siteL_placed NS.out hpl)
    have HI := Lib.hid hi
    clear hpl hb11 hi t1 s0 s1 ZU X14
    cases there with
    | true =>
     have ES : Hid (lastY a m nz = nz) := Lib.hid (by rw [EL.out]; exact SP.out.1 (hfd.1 rfl))
     clear hfd
     have t0 := (blk_cell ZX.out.h13 0).trans rfl
     have t1 := (blk_cell ZX.out.h13 1).trans rfl
     have r0 := (blk_cell ZX.out.h8 0).trans rfl
     have r1 := (blk_cell ZX.out.h8 1).trans rfl
     have z0 := blk_frozen ZX.out.h8 0
     have z1 := blk_frozen ZX.out.h8 1
     go_wp2
     refine bodyPost_ret (results_cell_row rfl _ _ (w.heap.size + 3) 29 #[.slice Av pl.length cv, .slice A8 (nz).length c8] (0, 0) _ rfl (by simpa using blk_set (blk_set ZX.out.h8 0 (.slice Av pl.length cv)) 1 (.slice A8 (nz).length c8)) Tryd.underlying29 rfl (by kernel_rfl)) rfl ?_
     rw [← HPL.out, ← HNZ.out, ES.out]
     exact ⟨Av, cv, A8, c8, rfl, R_moveT rfl (R_moveT rfl ZX.out.row (set_typeM ZX.out.h8 (by decide) 0 _)) (set_typeM (blk_set ZX.out.h8 0 _) (by decide) 1 _), R_moveT rfl (R_moveT rfl ZX.out.ry (set_typeM ZX.out.h8 (by decide) 0 _)) (set_typeM (blk_set ZX.out.h8 0 _) (by decide) 1 _), below_set (below_set ZX.out.b ZX.out.lo8) ZX.out.lo8⟩
    | false =>
     have ES : Hid (lastY a m nz = nz.take i ++ (⟨m, a⟩ : SY) :: nz.drop i) := Lib.hid (by rw [EL.out]; exact SP.out.2 (fun k => by have := hfd.2 k; cases this))
     clear hfd
     have t1 := (blk_cell ZX.out.h13 1).trans rfl
     have s0 := (blk_cell X15.out 0).trans rfl
     have s1 := (blk_cell X15.out 1).trans rfl
     go_wp2_with fail
     (go_at_call 81; refine (insert_calls (.slice A8 nz.length c8) nz i ⟨m, a⟩ w11.heap.size w (w11.alloc (.cells #[.int .i64 m, .int .i64 a] 70)) (Kd.R_below ZX.out.ry (below_alloc (Below.refl _ _) _)) (below_alloc ZX.out.b _) HI.out (blk_new w11 _) (fun e => Nat.lt_irrefl _ (own_ltY ZX.out.ry _ e.symm)) (by have := LN.out; omega)).mono ?_; rintro e w12 ha12)
     rw [← ES.out] at ha12
     have ZXa := Lib.hid (ZX.out.next (below_alloc (Below.refl _ _) (.cells #[.int .i64 m, .int .i64 a] 70)))
     obtain ⟨A9, c9, rfl, e13, zx9⟩ := ZXa.out.ins ha12
     have g1 := blk_frozen e13 1
     have t1 := (blk_cell e13 1).trans rfl
     have Z12 := Lib.hid zx9
     have LZ : Hid ((lastY a m nz).length = (lastY a m nz).length) := Lib.hid rfl
     clear ha12 ZXa zx9 s0 s1
     go_upto_region 14 with fail
     refine gen2 (φ := fun W => Code.wp _ _ _ _ W) (P := fun W => TZ w (w.heap.size + 1) (w.heap.size + 3) gG a (.slice Av pl.length cv) pl (.slice A9 (lastY a m nz).length c9) (lastY a m nz) W) Z12.out ?_
     rintro W13 hW13
     clear ZX Z12 g1 t1 e13
     have ZX := Lib.hid hW13
     clear hW13
     have t0 := (blk_cell ZX.out.h13 0).trans rfl
     have t1 := (blk_cell ZX.out.h13 1).trans rfl
     have r0 := (blk_cell ZX.out.h8 0).trans rfl
     have r1 := (blk_cell ZX.out.h8 1).trans rfl
     have z0 := blk_frozen ZX.out.h8 0
     have z1 := blk_frozen ZX.out.h8 1
     go_wp2
     refine bodyPost_ret (results_cell_row rfl _ _ (w.heap.size + 3) 29 #[.slice Av pl.length cv, .slice A9 (lastY a m nz).length c9] (0, 0) _ rfl (by simpa using blk_set (blk_set ZX.out.h8 0 (.slice Av pl.length cv)) 1 (.slice A9 (lastY a m nz).length c9)) Tryd.underlying29 rfl (by kernel_rfl)) rfl ?_
     rw [← HPL.out, ← HNZ.out]
     exact ⟨Av, cv, A9, c9, rfl, R_moveT rfl (R_moveT rfl ZX.out.row (set_typeM ZX.out.h8 (by decide) 0 _)) (set_typeM (blk_set ZX.out.h8 0 _) (by decide) 1 _), R_moveT rfl (R_moveT rfl ZX.out.ry (set_typeM ZX.out.h8 (by decide) 0 _)) (set_typeM (blk_set ZX.out.h8 0 _) (by decide) 1 _), below_set (below_set ZX.out.b ZX.out.lo8) ZX.out.lo8⟩
   ·have dm : decide (0 < m) = false := by simpa using hm
    have ES := Lib.hid (show lastY a m nz = nz by unfold lastY; rw [if_neg hm])
    clear hm
    have ZX := ZT
    clear ZT
    have t0 := (blk_cell ZX.out.h13 0).trans rfl
    have t1 := (blk_cell ZX.out.h13 1).trans rfl
    have r0 := (blk_cell ZX.out.h8 0).trans rfl
    have r1 := (blk_cell ZX.out.h8 1).trans rfl
    have z0 := blk_frozen ZX.out.h8 0
    have z1 := blk_frozen ZX.out.h8 1
    go_wp2
    refine bodyPost_ret (results_cell_row rfl _ _ (w.heap.size + 3) 29 #[.slice Av pl.length cv, .slice A8 (nz).length c8] (0, 0) _ rfl (by simpa using blk_set (blk_set ZX.out.h8 0 (.slice Av pl.length cv)) 1 (.slice A8 (nz).length c8)) Tryd.underlying29 rfl (by kernel_rfl)) rfl ?_
    rw [← HPL.out, ← HNZ.out, ES.out]
    exact ⟨Av, cv, A8, c8, rfl, R_moveT rfl (R_moveT rfl ZX.out.row (set_typeM ZX.out.h8 (by decide) 0 _)) (set_typeM (blk_set ZX.out.h8 0 _) (by decide) 1 _), R_moveT rfl (R_moveT rfl ZX.out.ry (set_typeM ZX.out.h8 (by decide) 0 _)) (set_typeM (blk_set ZX.out.h8 0 _) (by decide) 1 _), below_set (below_set ZX.out.b ZX.out.lo8) ZX.out.lo8⟩
end Go.Proofs.YtjphmebhofkhcaaDoor.Mk
/- Marks: the walk of the reference's Take. Conditions: right marks of a text of at most 2^40 letters. -/
namespace Go.Proofs.YtjphmebhofkhcaaDoor.Mk
open Go.RowKit Go.Proofs.YtjphmebhofkhcaaDoorW.PrintWords Go.Proofs.YtjphmebhofkhcaaDoorW.PrintLast Go.Proofs.YtjphmebhofkhcaaDoorW.PrintMore Go.Proofs.YtjphmebhofkhcaaDoor.PSegAll Go.Proofs.YtjphmebhofkhcaaDoor.Pure
set_option linter.unusedVariables false
set_option linter.unusedSimpArgs false
attribute [local go_sem] max2_int min2_int max_two min_two
end Go.Proofs.YtjphmebhofkhcaaDoor.Mk
/- Marks: letters that are put and taken away again leave the marks as they were (plain law). Conditions: the bounds named. -/
namespace Go.Proofs.YtjphmebhofkhcaaDoor.Mk
open Go.RowKit Go.Proofs.YtjphmebhofkhcaaDoorW.PrintWords Go.Proofs.YtjphmebhofkhcaaDoorW.PrintLast Go.Proofs.YtjphmebhofkhcaaDoorW.PrintMore Go.Proofs.YtjphmebhofkhcaaDoor.PSegAll Go.Proofs.YtjphmebhofkhcaaDoor.Pure
set_option linter.unusedVariables false
set_option linter.unusedSimpArgs false
end Go.Proofs.YtjphmebhofkhcaaDoor.Mk
