/- Marks: the walk of slices.Insert at a row of sites of the call's own, one site put in. Conditions: at most 2^40 sites. -/
import Derived.Test.YtdgjjdpeaohebaaGMA
import Derived.Shelf.Spec.SlicesInsertGrow
import Derived.Laws.CopyOwn
import Derived.Test.YtdgjjdpeaohebaaGMB
namespace Go.Proofs.Ytdgjjdpeaohebaa.Mk
open Go.RowKit Go.Proofs.YtdgjjdpeaohebaaW.PrintWords Go.Proofs.YtdgjjdpeaohebaaW.PrintLast Go.Proofs.YtdgjjdpeaohebaaW.PrintMore Go.Proofs.Ytdgjjdpeaohebaa.PMarksTake Go.Proofs.Ytdgjjdpeaohebaa.Pure
set_option linter.unusedVariables false
set_option linter.unusedSimpArgs false
/-- The cells of sites. -/
def cellsY (ys : List SY) : List Value := ys.flatMap encY
theorem cellsY_app (a b : List SY) : cellsY (a ++ b) = cellsY a ++ cellsY b := by unfold cellsY; rw [List.flatMap_append]
theorem cellsY_len (ys : List SY) : (cellsY ys).length = ys.length * 2 := by
 induction ys with
 | nil => rfl
 | cons y r ih => rw [show cellsY (y :: r) = encY y ++ cellsY r from rfl, List.length_append, ih, encY_len, List.length_cons]; omega
theorem cellsY_drop (ys : List SY) (i : Nat) : (cellsY ys).drop (i * 2) = cellsY (ys.drop i) := by
 by_cases h : i ≤ ys.length
 ·have e : ys = ys.take i ++ ys.drop i := (List.take_append_drop i ys).symm
  have hl : (cellsY (ys.take i)).length = i * 2 := by rw [cellsY_len, List.length_take, Nat.min_eq_left h]
  conv => lhs; rw [e, cellsY_app]
  rw [List.drop_append_of_le_length (by omega), ← hl, List.drop_length, List.nil_append]
 ·rw [List.drop_eq_nil_of_le (by rw [cellsY_len]; omega), List.drop_eq_nil_of_le (by omega)]
  rfl
theorem cellsY_take (ys : List SY) (i : Nat) : (cellsY ys).take (i * 2) = cellsY (ys.take i) := by
 by_cases h : i ≤ ys.length
 ·have e : ys = ys.take i ++ ys.drop i := (List.take_append_drop i ys).symm
  have hl : (cellsY (ys.take i)).length = i * 2 := by rw [cellsY_len, List.length_take, Nat.min_eq_left h]
  conv => lhs; rw [e, cellsY_app]
  rw [List.take_append_of_le_length (by omega), ← hl, List.take_length]
 ·rw [List.take_of_length_le (by rw [cellsY_len]; omega), List.take_of_length_le (by omega)]
theorem cellsY_one (ys : List SY) : ∀ v ∈ cellsY ys, v.oneCell' = true := by
 intro v hv
 obtain ⟨y, _, hv⟩ := List.mem_flatMap.1 hv
 exact encY_one y v hv
theorem cellsY_at {ys : List SY} {j : Nat} {y : SY} (h : ys[j]? = some y) : ((cellsY ys).drop (j * 2)).take 2 = encY y := by
 rw [cellsY_drop]
 obtain ⟨hl, e⟩ := List.getElem?_eq_some_iff.1 h
 rw [List.drop_eq_getElem_cons hl, e, show cellsY (y :: ys.drop (j + 1)) = encY y ++ cellsY (ys.drop (j + 1)) from rfl, List.take_append_of_le_length (by rw [encY_len]; omega), ← encY_len y, List.take_length]
/-- A row of the call's own, opened. -/
theorem own_open {W : World} {base : Nat} {ok : Nat → Prop} {g n c : Nat} {ys : List SY} (h : Kd.R kY 38 W base ok (.slice (some ⟨g, 0, none⟩) n c) ys) : ∃ cur : List Value, W.heap[g]? = some (.cells cur.toArray 38 (0, 0)) ∧ cur.length = c * 2 ∧ n = ys.length ∧ n ≤ c ∧ c ≤ maxLen ∧ base ≤ g ∧ cur.take (n * 2) = cellsY ys := by
 have hn := (Kd.R_reads' h).1
 obtain ⟨_, inner, ⟨hl, ho⟩, hr⟩ := h
 rcases ho with ⟨hv, _⟩ | ⟨g', cap', cur, hv, hb, hh, hnc, hcm, hcs, ht⟩
 ·cases hv
 injection hv with ha _ hc
 injection ha with ha
 injection ha with ha
 subst ha; subst hc
 have k2 : kY.sz = 2 := rfl
 rw [k2] at hcs ht hl
 refine ⟨cur.toList, by rw [Array.toArray_toList]; exact hh, by rw [Array.length_toList, hcs], hn, by omega, hcm, hb, ?_⟩
 rw [hn, ht]
 apply List.ext_getElem?
 intro t
 by_cases hlt : t < ys.length * 2
 ·obtain ⟨y, hy⟩ : ∃ y, ys[t / 2]? = some y := ⟨_, List.getElem?_eq_getElem (by omega)⟩
  have e1 : (inner.drop (t / 2 * 2)).take 2 = encY y := k38_openM (hr.2 (t / 2) y hy)
  have e2 := cellsY_at hy
  have p1 : inner[t]? = (encY y)[t % 2]? := by rw [← e1, List.getElem?_take, if_pos (by omega), List.getElem?_drop, show t / 2 * 2 + t % 2 = t by omega]
  have p2 : (cellsY ys)[t]? = (encY y)[t % 2]? := by rw [← e2, List.getElem?_take, if_pos (by omega), List.getElem?_drop, show t / 2 * 2 + t % 2 = t by omega]
  rw [p1, p2]
 ·rw [List.getElem?_eq_none (by omega), List.getElem?_eq_none (by rw [cellsY_len]; omega)]
/-- .. and made. -/
theorem own_make {W : World} {base g c : Nat} {ys : List SY} {cur : List Value} (h : W.heap[g]? = some (.cells cur.toArray 38 (0, 0))) (hl : cur.length = c * 2) (hn : ys.length ≤ c) (hc : c ≤ maxLen) (hb : base ≤ g) (ht : cur.take (ys.length * 2) = cellsY ys) :
  Kd.R kY 38 W base (fun _ => True) (.slice (some ⟨g, 0, none⟩) ys.length c) ys := by
 refine ⟨fun _ _ => trivial, cellsY ys, ⟨by rw [cellsY_len]; rfl, .inr ⟨g, c, _, rfl, hb, h, hn, hc, by rw [List.size_toArray, hl]; rfl, ht⟩⟩, ?_⟩
 refine ⟨by rw [cellsY_len]; rfl, fun j p hp => ?_⟩
 have e : ((cellsY ys).drop (j * kY.sz)).take kY.sz = [.int .i64 p.f0, .int .i64 p.f1] := cellsY_at hp
 rw [e]
 exact k38_mkM _ _ _ _
/-- copy of sites into a block that is known whole. -/
theorem run_copy_sites (w : World) (ty : TypeId) (g o dLen dCap : Nat) (a : Addr) (sLen sCap : Nat) (cur : List Value) (cs : List Value)
  (hg : w.heap[g]? = some (.cells cur.toArray 38 (0, 0))) (hn : cs.length = Nat.min sLen dLen * 2)
  (hsrc : ∀ j v, cs[j]? = some v → w.cell? (a.add j) = some v) (hfit : o + cs.length ≤ cur.length) (h1 : ∀ v ∈ cs, v.oneCell' = true) :
  (Builtin.copy_ #[23, 23] ty #[.slice (some ⟨g, o, none⟩) dLen dCap, .slice (some a) sLen sCap]).run Try.prog w =
   .ok (goInt (Nat.min sLen dLen)) (w.setRow g (splice cur o cs).toArray) := by
 have hl := run_loadCells_list (P := Try.prog) w a cs hsrc
 have hst := run_storeCells_at Try.prog g o 38 cs 0 cur.toArray w hg (by simpa using hfit) h1
 have hq0 := infoC38
 cases hq : Try.prog.info? 38 with
 | none => rw [hq] at hq0; cases hq0
 | some i =>
  have hi : i.size = 2 := by rw [hq] at hq0; simp at hq0; exact hq0.2.1
  simp only [List.toList_toArray, Nat.add_zero] at hst
  simp [Builtin.copy_, run_underlying Try.underlying23, Builtin.lenOf, Builtin.firstCells, sizeOf, typeInfo, hq, hi, ← hn, hl, hst, splice]
theorem cut_cap (t e : TypeId) (kh : IntKind) {i : TypeInfo} (ht : Try.prog.underlying t = some (.slice e)) (hi : Try.prog.info? e = some i) (A : Option Addr) (n c : Nat) (j : Int) (h0 : 0 ≤ j) (hm : j ≤ c) :
  ∀ W : World, (Instr.slice t (.slice A n c) none (some (.int kh j)) none).run Try.prog W = .ok (.slice A j.toNat c) W := by
 intro W
 have hel : Try.prog.elem t = e := by simp [Program.elem, ht]
 have hu : Try.prog.underlying t = some (.slice (Try.prog.elem t)) := by rw [hel]; exact ht
 have ha : (A.map fun x => x.add 0) = A := by cases A <;> simp [Addr.add]
 rw [run_slice_h W t A n c hu kh j h0 (by omega), hel]
 simp [sizeOf, typeInfo, hi, sliced, Result.andThen, ha]
theorem infoYY : ∃ i, Try.prog.info? 38 = some i ∧ i.size = 2 ∧ i.zero = some (.agg #[.int .i64 0, .int .i64 0]) ∧ i.bytes = 16 := by
 obtain ⟨i, h1, h2⟩ := Option.map_eq_some_iff.1 infoC38
 simp only [Prod.mk.injEq] at h2
 exact ⟨i, h1, h2.2.1, h2.1, h2.2.2⟩
/-- A row behind its element at i: cut. -/
theorem cut_at_i {g n c i : Nat} (hi : i ≤ n) (hc : c ≠ i) : ∀ W : World, (Instr.slice 23 (.slice (some ⟨g, 0, none⟩) n c) (some (.int .i64 (i : Int))) none none).run Try.prog W = .ok (.slice (some ⟨g, i * 2, none⟩) (n - i) (c - i)) W := by
 obtain ⟨i0, h0, h1, _⟩ := infoYY
 have h := cut_from (P := Try.prog) 23 38 .i64 Try.underlying23 h0 2 h1 (some ⟨g, 0, none⟩) n c (i : Int) (by omega) (by omega)
 rw [Int.toNat_natCast, if_neg hc, Option.map_some, add_plain] at h
 exact h
def RetIns (v : Value) (o : List SY) (base : Nat) (w : World) (e : Ending) (w' : World) : Prop := ∃ v', e = .returned v' ∧ Kd.R kY 38 w' base (fun _ => True) v' o ∧ w.grownBy w' v.ownBlock
theorem grown_setRow {w : World} {g : Nat} (cs : Array Value) : w.grownBy (w.setRow g cs) (some g) := ⟨rfl, rfl, rfl, by simp [World.setRow], fun k _ hk => setRow_other w g k cs (fun e => hk (by rw [e]))⟩
/-- The site is put in where it stands: the cells of the row. -/
theorem ins_cells {o : List SY} {x : SY} {i c : Nat} {cur : List Value} (hl : cur.length = c * 2) (hi : i ≤ o.length) (hc : o.length + 1 ≤ c) (ht : cur.take (o.length * 2) = cellsY o) :
  (splice (splice cur ((i + 1) * 2) (cellsY (o.drop i))) (i * 2) (encY x)).take ((o.take i ++ x :: o.drop i).length * 2) = cellsY (o.take i ++ x :: o.drop i) := by
 have h1 : (cellsY (o.drop i)).length = (o.length - i) * 2 := by rw [cellsY_len, List.length_drop]
 have h2 : cur.take (i * 2) = cellsY (o.take i) := by
  have := congrArg (List.take (i * 2)) ht
  rw [List.take_take, Nat.min_eq_left (by omega), cellsY_take] at this
  exact this
 have e : (o.take i ++ x :: o.drop i).length = o.length + 1 := by simp; omega
 have e3 : cellsY (o.take i ++ x :: o.drop i) = cur.take (i * 2) ++ (encY x ++ cellsY (o.drop i)) := by rw [cellsY_app, h2]; rfl
 rw [e, e3]
 unfold splice
 have hx := encY_len x
 simp only [hx]
 have hcc : ((o.length + 1) * 2) ≤ cur.length := by rw [hl]; exact Nat.mul_le_mul_right 2 hc
 have l1 : (cur.take (i * 2)).length = i * 2 := by rw [List.length_take]; omega
 have l2 : (cur.take ((i + 1) * 2)).length = (i + 1) * 2 := by rw [List.length_take]; omega
 have l3 : ((cur.take ((i + 1) * 2) ++ (cellsY (o.drop i) ++ cur.drop ((i + 1) * 2 + (cellsY (o.drop i)).length))).take (i * 2)) = cur.take (i * 2) := by
  rw [List.take_append_of_le_length (by omega), List.take_take, Nat.min_eq_left (by omega)]
 have l4 : ((cur.take ((i + 1) * 2) ++ (cellsY (o.drop i) ++ cur.drop ((i + 1) * 2 + (cellsY (o.drop i)).length))).drop (i * 2 + 2)) = cellsY (o.drop i) ++ cur.drop ((i + 1) * 2 + (cellsY (o.drop i)).length) := by
  rw [show i * 2 + 2 = (cur.take ((i + 1) * 2)).length by rw [l2]; omega, List.drop_left]
 rw [l3, l4]
 generalize cur.drop ((i + 1) * 2 + (cellsY (o.drop i)).length) = D
 have e4 : cur.take (i * 2) ++ (encY x ++ (cellsY (o.drop i) ++ D)) = (cur.take (i * 2) ++ (encY x ++ cellsY (o.drop i))) ++ D := by simp only [List.append_assoc]
 have l5 : (cur.take (i * 2) ++ (encY x ++ cellsY (o.drop i))).length = (o.length + 1) * 2 := by rw [List.length_append, List.length_append, l1, hx, h1]; omega
 rw [e4, ← l5, List.take_left]
end Go.Proofs.Ytdgjjdpeaohebaa.Mk
/- Marks: the walk of slices.Insert at a row of sites of the call's own: there is room; there is none; at the end. Conditions: at most 2^40 sites. -/
namespace Go.Proofs.Ytdgjjdpeaohebaa.Mk
open Go.RowKit Go.Proofs.YtdgjjdpeaohebaaW.PrintWords Go.Proofs.YtdgjjdpeaohebaaW.PrintLast Go.Proofs.YtdgjjdpeaohebaaW.PrintMore Go.Proofs.Ytdgjjdpeaohebaa.PMarksTake Go.Proofs.Ytdgjjdpeaohebaa.Pure
set_option linter.unusedVariables false
set_option linter.unusedSimpArgs false
theorem sizeY : ∀ w : World, (Go.sizeOf 38).run Try.prog w = .ok 2 w := by
 intro w
 obtain ⟨i0, h0, h1, _⟩ := infoYY
 simp [sizeOf, typeInfo, h0, h1]
theorem ov_apart {w : World} {g gv off n c : Nat} {cur cv : List Value} (hg : w.heap[g]? = some (.cells cur.toArray 38 (0, 0))) (hv : w.heap[gv]? = some (.cells cv.toArray 38 (0, 0))) (hne : gv ≠ g) (h0 : cur.length ≠ 0) :
  (callFunc 47 #[.slice (some ⟨gv, 0, none⟩) 1 1, .slice (some ⟨g, off, none⟩) n c]).run Try.prog w = .ok (.value (.bool false)) w := by
 rw [run_callFunc_extern Try.func47 (by kernel_rfl) (by kernel_rfl) (by kernel_rfl) (e := Extern.SlicesOverlaps.overlaps #[23, 23] #[4]) (by kernel_rfl),
  Lib.run_overlaps_apart w 23 4 38 Try.underlying23 2 sizeY ⟨gv, 0, none⟩ ⟨g, off, none⟩ 1 1 n c hne 38 38 cv.toArray.size cur.toArray.size (by simp [World.shape?, hv]) (by simp [World.shape?, hg]) (by simpa using h0) (blk_frozen hv _) (blk_frozen hv _)]
 rfl
theorem grown_setRowD {w : World} {g : Nat} (cs : Array Value) : w.grownBy (w.drew.setRow g cs) (some g) := ⟨rfl, rfl, rfl, by show w.heap.size ≤ (w.heap.modify g _).size; simp, fun k _ hk => setRow_other w.drew g k cs (fun e => hk (by rw [e]))⟩
set_option maxHeartbeats 4000000 in
set_option maxRecDepth 100000 in
theorem insert_room (g n c i gv : Nat) (x : SY) (cur cs : List Value) (w : World) (hg : w.heap[g]? = some (.cells cur.toArray 38 (0, 0))) (hl : cur.length = c * 2) (hi : i < n) (hc : n + 1 ≤ c) (hm : c ≤ maxLen) (hv : w.heap[gv]? = some (.cells (encY x).toArray 38 (0, 0))) (hne : gv ≠ g)
  (hcl : cs.length = (n - i) * 2) (hcs : ∀ j v, cs[j]? = some v → cur[i * 2 + j]? = some v) (h1 : ∀ v ∈ cs, v.oneCell' = true) :
  Calls Try.prog 40 #[.slice (some ⟨g, 0, none⟩) n c, .int .i64 (i : Int), .slice (some ⟨gv, 0, none⟩) 1 1] w fun e w' => e = .returned (.slice (some ⟨g, 0, none⟩) (n + 1) c) ∧ w'.heap[g]? = some (.cells (splice (splice cur ((i + 1) * 2) cs) (i * 2) (encY x)).toArray 38 (0, 0)) ∧ w.grownBy w' (some g) := by
 have hm' : c ≤ 9223372036854775807 := by unfold maxLen at hm; exact hm
 have hz2 : ¬ ((i : Int) = (n : Int)) := by omega
 have hz3 : ¬ ((c : Int) < (n : Int) + 1) := by omega
 have w1_ : IntKind.i64.wrap ((n : Int) + 1) = (n : Int) + 1 := IntWalk.i64_in _ (by omega)
 have w2_ : IntKind.i64.wrap ((i : Int) + 1) = (i : Int) + 1 := IntWalk.i64_in _ (by omega)
 obtain ⟨i0, hi0, hi1, _⟩ := infoYY
 have s1 := cut_at_i (g := g) (n := n) (c := c) (i := i) (by omega) (by omega)
 have s2 := cut_cap 23 38 .i64 Try.underlying23 hi0 (some ⟨g, 0, none⟩) n c ((n : Int) + 1) (by omega) (by omega)
 rw [show ((n : Int) + 1).toNat = n + 1 by omega] at s2
 have s3 := cut_at_i (g := g) (n := n + 1) (c := c) (i := i + 1) (by omega) (by omega)
 rw [show (((i + 1 : Nat) : Int)) = (i : Int) + 1 by omega, Nat.add_sub_add_right] at s3
 have s4 := cut_at_i (g := g) (n := n + 1) (c := c) (i := i) (by omega) (by omega)
 have hov := fun (m k : Nat) => ov_apart (off := (i + 1) * 2) (n := m) (c := k) hg hv hne (by omega)
 obtain ⟨cur1, hcur1⟩ : ∃ l, l = splice cur ((i + 1) * 2) cs := ⟨_, rfl⟩
 have hl1 : cur1.length = c * 2 := by rw [hcur1, length_splice _ _ _ (by rw [hcl]; omega), hl]
 have hcp1 : ∀ ty dc sc, (Builtin.copy_ #[23, 23] ty #[.slice (some ⟨g, (i + 1) * 2, none⟩) (n - i) dc, .slice (some ⟨g, i * 2, none⟩) (n + 1 - i) sc]).run Try.prog w.drew = .ok (goInt (Nat.min (n + 1 - i) (n - i))) (w.drew.setRow g cur1.toArray) := fun ty dc sc => by
  rw [hcur1]
  exact run_copy_sites w.drew ty g ((i + 1) * 2) (n - i) dc ⟨g, i * 2, none⟩ (n + 1 - i) sc cur cs hg (by rw [hcl]; simp only [Nat.min_def]; split <;> omega) (fun j v hj => by rw [Addr.add_lit, blk_cell (w := w.drew) hg]; simpa using hcs j v hj) (by rw [hcl]; omega) h1
 have hg1 : (w.drew.setRow g cur1.toArray).heap[g]? = some (.cells cur1.toArray 38 (0, 0)) := setRow_heap w.drew g _ _ _ _ hg
 have hv1 : (w.drew.setRow g cur1.toArray).heap[gv]? = some (.cells (encY x).toArray 38 (0, 0)) := (setRow_other w.drew g gv _ hne).trans hv
 have hcp2 : ∀ (W : World), W.heap = (w.drew.setRow g cur1.toArray).heap → ∀ ty dc, (Builtin.copy_ #[23, 23] ty #[.slice (some ⟨g, i * 2, none⟩) (n + 1 - i) dc, .slice (some ⟨gv, 0, none⟩) 1 1]).run Try.prog W = .ok (goInt (Nat.min 1 (n + 1 - i))) (W.setRow g (splice cur1 (i * 2) (encY x)).toArray) := fun W hW ty dc =>
  run_copy_sites W ty g (i * 2) (n + 1 - i) dc ⟨gv, 0, none⟩ 1 1 cur1 (encY x) (by rw [hW]; exact hg1) (by rw [encY_len]; simp only [Nat.min_def]; split <;> omega) (fun j v hj => by rw [Addr.add_lit, blk_cell (w := W) (by rw [hW]; exact hv1)]; simpa using hj) (by rw [encY_len]; omega) (encY_one x)
 have HC1 := Lib.hid hcur1
 clear hcur1
 go_enter Try.func40, Try.ntmps40
 go_wp2_with (simp only [hov])
 go_region_law (refine step_copy_runI rfl _ _ 23 23 rfl _ _ (by simp [Act.eval, Act.put]) (by simp [Act.eval, Act.put]) (hcp1 _ _ _) ?_)
 go_wp2_with (at_builtin; refine wpList_copy_runI _ rfl _ _ 23 23 rfl _ _ rfl rfl (hcp2 _ rfl _ _) ?_)
 go_ret
 refine ⟨rfl, ?_, ?_⟩
 ·rw [← HC1.out]
  exact setRow_heap _ g _ _ _ _ hg1
 ·exact World.grownBy.trans (grown_setRowD cur1.toArray) (grown_setRow _)
/-- The site is put in where the row is laid anew: the cells. -/
theorem grow_cells {o : List SY} {x : SY} {i G : Nat} {R : List Value} (hl : R.length = G * 2) (hi : i ≤ o.length) (hc : o.length + 1 ≤ G) (hR : R.take (i * 2) = cellsY (o.take i)) :
  (splice (splice R (i * 2) (encY x)) ((i + 1) * 2) (cellsY (o.drop i))).take ((o.take i ++ x :: o.drop i).length * 2) = cellsY (o.take i ++ x :: o.drop i) := by
 have h1 : (cellsY (o.drop i)).length = (o.length - i) * 2 := by rw [cellsY_len, List.length_drop]
 have e : (o.take i ++ x :: o.drop i).length = o.length + 1 := by simp; omega
 have e3 : cellsY (o.take i ++ x :: o.drop i) = (R.take (i * 2) ++ encY x) ++ cellsY (o.drop i) := by rw [cellsY_app, hR, List.append_assoc]; rfl
 rw [e, e3]
 unfold splice
 have hx := encY_len x
 have hcc : ((o.length + 1) * 2) ≤ R.length := by rw [hl]; exact Nat.mul_le_mul_right 2 hc
 have l1 : (R.take (i * 2)).length = i * 2 := by rw [List.length_take]; omega
 have l2 : (R.take (i * 2) ++ encY x).length = (i + 1) * 2 := by rw [List.length_append, l1, hx]; omega
 generalize R.drop (i * 2 + (encY x).length) = D
 have l3 : (R.take (i * 2) ++ (encY x ++ D)).take ((i + 1) * 2) = R.take (i * 2) ++ encY x := by rw [← List.append_assoc, ← l2, List.take_left]
 rw [l3]
 generalize (R.take (i * 2) ++ (encY x ++ D)).drop ((i + 1) * 2 + (cellsY (o.drop i)).length) = D2
 have l5 : ((R.take (i * 2) ++ encY x) ++ cellsY (o.drop i)).length = (o.length + 1) * 2 := by rw [List.length_append, l2, h1]; omega
 rw [← List.append_assoc, ← l5, List.take_left]
theorem grownCap_drew (w : World) (n c : Nat) (e : TypeId) : n ≤ grownCap w n c e := grownCap_ge w n c e
set_option maxHeartbeats 4000000 in
set_option maxRecDepth 100000 in
theorem insert_grow (g n c i gv : Nat) (x : SY) (cur cs : List Value) (w : World) (hg : w.heap[g]? = some (.cells cur.toArray 38 (0, 0))) (hl : cur.length = c * 2) (hi : i < n) (hnc : n ≤ c) (hc : c < n + 1) (hb : n ≤ 1099511627776) (hv : w.heap[gv]? = some (.cells (encY x).toArray 38 (0, 0))) (hne : gv ≠ g)
  (hcl : cs.length = (n - i) * 2) (hcs : ∀ j v, cs[j]? = some v → cur[i * 2 + j]? = some v) (h1 : ∀ v ∈ cs, v.oneCell' = true) :
  Calls Try.prog 40 #[.slice (some ⟨g, 0, none⟩) n c, .int .i64 (i : Int), .slice (some ⟨gv, 0, none⟩) 1 1] w fun e w' => ∃ (G : Nat) (R : List Value), e = .returned (.slice (some ⟨w.heap.size, 0, none⟩) (n + 1) G) ∧ n + 1 ≤ G ∧ G ≤ maxLen ∧ R.length = G * 2 ∧ R.take (i * 2) = cur.take (i * 2) ∧ w'.heap[w.heap.size]? = some (.cells (splice (splice R (i * 2) (encY x)) ((i + 1) * 2) cs).toArray 38 (0, 0)) ∧ Below w.heap.size w w' := by
 obtain rfl : c = n := by omega
 have hz2 : ¬ ((i : Int) = (c : Int)) := by omega
 have hz3 : (c : Int) < (c : Int) + 1 := by omega
 have w1_ : IntKind.i64.wrap ((c : Int) + 1) = (c : Int) + 1 := IntWalk.i64_in _ (by omega)
 have w2_ : IntKind.i64.wrap ((i : Int) + 1) = (i : Int) + 1 := IntWalk.i64_in _ (by omega)
 have w3_ : IntKind.i64.wrap ((c : Int) + 1 - (i : Int)) = ((c + 1 - i : Nat) : Int) := by rw [show ((c : Int) + 1 - (i : Int)) = ((c + 1 - i : Nat) : Int) by omega]; exact IntWalk.i64_in _ (by omega)
 obtain ⟨i0, hi0, hi1, hi2, hi3⟩ := infoYY
 have s1 := cut_at_i (g := g) (n := c) (c := c) (i := i) (by omega) (by omega)
 have s2 := cut_cap 23 38 .i64 Try.underlying23 hi0 (some ⟨g, 0, none⟩) c c (i : Int) (by omega) (by omega)
 rw [Int.toNat_natCast] at s2
 have hgl := blk_lt hg
 have hvl := blk_lt hv
 have hold : (Builtin.firstCells i0.size i (.slice (some ⟨g, 0, none⟩) i c)).run Try.prog w.drew = .ok (cur.take (i * 2)).toArray w.drew := by
  rw [hi1]
  exact run_firstCells_some (w := w.drew) 2 i ⟨g, 0, none⟩ i c (cur.take (i * 2)) (by rw [List.length_take]; omega) (fun j v hj => by
   rw [Addr.add_lit, blk_cell (w := w.drew) hg]
   rw [List.getElem?_take] at hj
   split at hj
   ·simpa using hj
   ·cases hj)
 obtain ⟨G, hG⟩ : ∃ G, G = grownCap w (c + 1) c 38 := ⟨_, rfl⟩
 have hG1 : c + 1 ≤ G := by rw [hG]; exact grownCap_ge w _ _ _
 have hG2 : G ≤ maxLen := by rw [hG]; exact grownCap_le_maxLen w _ _ _ (by unfold maxLen; omega)
 have hG63 : G ≤ 9223372036854775807 := by unfold maxLen at hG2; exact hG2
 obtain ⟨R, hR⟩ : ∃ R : List Value, R = cur.take (i * 2) ++ ((Builtin.zeroCells (Value.agg #[.int .i64 0, .int .i64 0]).cells (c + 1 - i)).toList ++ (Builtin.zeroCells (Value.agg #[.int .i64 0, .int .i64 0]).cells (G - (c + 1))).toList) := ⟨_, rfl⟩
 have zl : ∀ k, (Builtin.zeroCells (Value.agg #[.int .i64 0, .int .i64 0]).cells k).toList.length = k * 2 := fun k => by simp [Builtin.zeroCells, Value.cells]
 have hRl : R.length = G * 2 := by rw [hR, List.length_append, List.length_append, zl, zl, List.length_take]; omega
 have hRt : R.take (i * 2) = cur.take (i * 2) := by rw [hR, List.take_append_of_le_length (by rw [List.length_take]; omega), List.take_take, Nat.min_self]
 have hrz : ∀ ty, (Builtin.append_ #[23, 3] ty #[.slice (some ⟨g, 0, none⟩) i c, .int .i64 ((c + 1 - i : Nat) : Int)]).run Try.prog w =
   .ok (.slice (some ⟨w.heap.size, 0, none⟩) (c + 1) G) (w.drew.alloc (.cells R.toArray 38)) := fun ty => by
  have h := Lib.run_append_grow_zeros w 23 3 ty 38 i0 _ .i64 .i64 Try.underlying23 Try.underlying3 hi0 hi2 (some ⟨g, 0, none⟩) i c (cur.take (i * 2)) hold (c + 1 - i) (by omega) (by omega) (by omega) (by omega) (by rw [hi3]; omega) (by rw [hi3, show i + (c + 1 - i) = c + 1 by omega]; exact growslice_fits (by omega) (by omega))
  rw [show i + (c + 1 - i) = c + 1 by omega] at h
  have eR : R.toArray = (cur.take (i * 2)).toArray ++ Builtin.zeroCells (Value.agg #[.int .i64 0, .int .i64 0]).cells (c + 1 - i) ++ Builtin.zeroCells (Value.agg #[.int .i64 0, .int .i64 0]).cells (G - (c + 1)) := by rw [hR]; apply Array.ext'; simp only [Array.toList_append, List.append_assoc]
  rw [h, ← hG, eR]
 obtain ⟨W1, hW1⟩ : ∃ W1, W1 = w.drew.alloc (.cells R.toArray 38) := ⟨_, rfl⟩
 rw [← hW1] at hrz
 have hN : W1.heap[w.heap.size]? = some (.cells R.toArray 38 (0, 0)) := by rw [hW1]; exact blk_new w.drew _
 have hB1 : Below w.heap.size w W1 := by rw [hW1]; exact below_alloc (Below.drew (Below.refl _ _)) _
 have hg1 := blk_below hg hB1
 have hv1 := blk_below hv hB1
 have hne1 : w.heap.size ≠ g := by omega
 have hne2 : w.heap.size ≠ gv := by omega
 obtain ⟨R1, hR1⟩ : ∃ l, l = splice R (i * 2) (encY x) := ⟨_, rfl⟩
 have hR1l : R1.length = G * 2 := by rw [hR1, length_splice _ _ _ (by rw [encY_len]; omega), hRl]
 have hcpA : ∀ (W : World), W.heap = W1.heap → ∀ ty dc, (Builtin.copy_ #[23, 23] ty #[.slice (some ⟨w.heap.size, i * 2, none⟩) (c + 1 - i) dc, .slice (some ⟨gv, 0, none⟩) 1 1]).run Try.prog W = .ok (goInt (Nat.min 1 (c + 1 - i))) (W.setRow w.heap.size R1.toArray) := fun W hW ty dc => by
  rw [hR1]
  exact run_copy_sites W ty w.heap.size (i * 2) (c + 1 - i) dc ⟨gv, 0, none⟩ 1 1 R (encY x) (by rw [hW]; exact hN) (by rw [encY_len]; simp only [Nat.min_def]; split <;> omega) (fun j v hj => by rw [Addr.add_lit, blk_cell (w := W) (by rw [hW]; exact hv1)]; simpa using hj) (by rw [encY_len]; omega) (encY_one x)
 have hN2 : (W1.setRow w.heap.size R1.toArray).heap[w.heap.size]? = some (.cells R1.toArray 38 (0, 0)) := setRow_heap _ _ _ _ _ _ hN
 have hg2 : (W1.setRow w.heap.size R1.toArray).heap[g]? = some (.cells cur.toArray 38 (0, 0)) := (setRow_other _ _ _ _ (by omega)).trans hg1
 have hcpB : ∀ (W : World), W.heap = (W1.setRow w.heap.size R1.toArray).heap → ∀ ty dc sc, (Builtin.copy_ #[23, 23] ty #[.slice (some ⟨w.heap.size, (i + 1) * 2, none⟩) (c - i) dc, .slice (some ⟨g, i * 2, none⟩) (c - i) sc]).run Try.prog W = .ok (goInt (Nat.min (c - i) (c - i))) (W.setRow w.heap.size (splice R1 ((i + 1) * 2) cs).toArray) := fun W hW ty dc sc =>
  run_copy_sites W ty w.heap.size ((i + 1) * 2) (c - i) dc ⟨g, i * 2, none⟩ (c - i) sc R1 cs (by rw [hW]; exact hN2) (by rw [hcl]; simp only [Nat.min_def]; split <;> omega) (fun j v hj => by rw [Addr.add_lit, blk_cell (w := W) (by rw [hW]; exact hg2)]; simpa using hcs j v hj) (by rw [hcl]; omega) h1
 have s3 := cut_at_i (g := w.heap.size) (n := c + 1) (c := G) (i := i) (by omega) (by omega)
 have s4 := cut_at_i (g := w.heap.size) (n := c + 1) (c := G) (i := i + 1) (by omega) (by omega)
 rw [show (((i + 1 : Nat) : Int)) = (i : Int) + 1 by omega, Nat.add_sub_add_right] at s4
 have hcpB1 := hcpB ((W1.setRow w.heap.size R1.toArray).drew) rfl
 have HR1 := Lib.hid hR1
 clear hcpB
 clear hold hG hR hR1 zl hW1
 go_enter Try.func40, Try.ntmps40
 go_wp2_with (first
  | (at_builtin; refine Lib.wpList_append_run _ rfl _ _ _ _ rfl _ _ rfl rfl _ _ (hrz _) ?_)
  | (at_builtin; refine wpList_copy_runI _ rfl _ _ 23 23 rfl _ _ rfl rfl (hcpA _ rfl _ _) ?_))
 go_region_law (refine step_copy_runI rfl _ _ 23 23 rfl _ _ (by simp [Act.eval, Act.put]) (by simp [Act.eval, Act.put]) (hcpB1 _ _ _) ?_)
 go_wp2
 go_ret
 refine ⟨G, R, rfl, hG1, hG2, hRl, hRt, ?_, ?_⟩
 ·rw [← HR1.out]
  exact setRow_heap _ _ _ _ _ _ hN2
 ·exact below_setRow (Below.drew (below_setRow hB1 (Nat.le_refl _) _)) (Nat.le_refl _) _
end Go.Proofs.Ytdgjjdpeaohebaa.Mk
/- Marks: slices.Insert at a row of the call's own; the walk of slices.BinarySearchFunc at sites. Conditions: at most 2^40 sites. -/
namespace Go.Proofs.Ytdgjjdpeaohebaa.Mk
open Go.RowKit Go.Proofs.YtdgjjdpeaohebaaW.PrintWords Go.Proofs.YtdgjjdpeaohebaaW.PrintLast Go.Proofs.YtdgjjdpeaohebaaW.PrintMore Go.Proofs.Ytdgjjdpeaohebaa.PMarksTake Go.Proofs.Ytdgjjdpeaohebaa.Pure
set_option linter.unusedVariables false
set_option linter.unusedSimpArgs false
theorem C_one {W : World} {g : Nat} {x : SY} (h : W.heap[g]? = some (.cells (encY x).toArray 38 (0, 0))) : Kd.C kY W (some ⟨g, 0, none⟩) 1 [x] :=
 (Kd.R_reads' (own_make (base := 0) (c := 1) (ys := [x]) (cur := encY x) h rfl (Nat.le_refl _) (by decide) (Nat.zero_le _) rfl)).2.2
set_option maxHeartbeats 4000000 in
set_option maxRecDepth 100000 in
theorem insert_end (v : Value) (o : List SY) (x : SY) (gv : Nat) (w0 w : World) (h : Kd.R kY 38 w w0.heap.size (fun _ => True) v o) (hb : Below w0.heap.size w0 w) (hv : w.heap[gv]? = some (.cells (encY x).toArray 38 (0, 0))) (hl : o.length ≤ 1099511627776) :
  Calls Try.prog 40 #[v, .int .i64 (o.length : Int), .slice (some ⟨gv, 0, none⟩) 1 1] w (RetIns v (o ++ [x]) w0.heap.size w) := by
 obtain ⟨A, c, ev, hc, hC⟩ := Kd.R_reads h
 subst ev
 have HR := Lib.hid h
 have HB := Lib.hid hb
 have HX := Lib.hid (C_one hv)
 clear h hb hv hC
 obtain ⟨i0, hi0, hi1, _⟩ := infoYY
 have s1 := cut_from (P := Try.prog) 23 38 .i64 Try.underlying23 hi0 2 hi1 A o.length c (o.length : Int) (by omega) (by omega)
 generalize (if c = ((o.length : Int)).toNat then A else A.map (·.add (((o.length : Int)).toNat * 2))) = A' at s1
 generalize (o.length - ((o.length : Int)).toNat) = n' at s1
 generalize (c - ((o.length : Int)).toNat) = c' at s1
 have d1 : decide ((o.length : Int) = (o.length : Int)) = true := by simp
 clear hi0 hi1
 go_enter Try.func40, Try.ntmps40
 go_wp2_with (first | ((with_reducible refine gate_builtin (b := .append) rfl ?_); at_builtin; go_must (refine Kd.R_append_rows kY w0.heap.size ?hg (.tmp 23) (.tmp 24) 23 38 (.agg #[.int .i64 0, .int .i64 0]) 16 rfl Try.underlying23 infoC38 rfl (by decide) (by decide) _ o [x] (some ⟨gv, 0, none⟩) 1 1 (fun _ => True) (fun k => some k ≠ (Value.slice A o.length c).ownBlock) rfl rfl HR.out HX.out (fun x cs h => k38_M_of_K x cs h) (fun _ h => ⟨trivial, h⟩) (fun _ _ => trivial) HB.out HB.out.size (by omega) ?_); (case hg => rfl); intro v7 w7 ho7 hb7 hg7 hat7; have HO := Lib.hid ho7; have HG := Lib.hid hg7; clear ho7 hb7 hg7 hat7))
 go_wp2
 go_ret
 exact ⟨_, rfl, HO.out, HG.out⟩
theorem ins_grown {w w' : World} {g : Nat} (h : Below w.heap.size w w') : w.grownBy w' (some g) := grown_of_below h _
theorem insert_calls (v : Value) (o : List SY) (i : Nat) (x : SY) (gv : Nat) (w0 w : World) (h : Kd.R kY 38 w w0.heap.size (fun _ => True) v o) (hb : Below w0.heap.size w0 w) (hi : i ≤ o.length) (hv : w.heap[gv]? = some (.cells (encY x).toArray 38 (0, 0))) (hne : some gv ≠ v.ownBlock) (hl : o.length ≤ 1099511627776) :
  Calls Try.prog 40 #[v, .int .i64 (i : Int), .slice (some ⟨gv, 0, none⟩) 1 1] w (RetIns v (o.take i ++ x :: o.drop i) w0.heap.size w) := by
 by_cases he : i = o.length
 ·subst he
  rw [List.take_length, List.drop_length]
  exact insert_end v o x gv w0 w h hb hv hl
 have hlt : i < o.length := by omega
 obtain ⟨g, c, ev, _, _, _⟩ := Kd.R_form h (by omega)
 subst ev
 obtain ⟨cur, hg, hcl, _, hnc, hcm, hbase, hcu⟩ := own_open h
 have hne' : gv ≠ g := fun e => hne (by rw [e]; rfl)
 have hcs : ∀ j u, (cellsY (o.drop i))[j]? = some u → cur[i * 2 + j]? = some u := by
  intro j u hu
  have hj := (List.getElem?_eq_some_iff.1 hu).1
  rw [cellsY_len, List.length_drop] at hj
  rw [← cellsY_drop, ← hcu, List.getElem?_drop, List.getElem?_take, if_pos (by omega)] at hu
  exact hu
 have hcl2 : (cellsY (o.drop i)).length = (o.length - i) * 2 := by rw [cellsY_len, List.length_drop]
 have en : (o.take i ++ x :: o.drop i).length = o.length + 1 := by simp; omega
 by_cases hroom : o.length + 1 ≤ c
 ·refine (insert_room g o.length c i gv x cur (cellsY (o.drop i)) w hg hcl hlt hroom hcm hv hne' hcl2 hcs (cellsY_one _)).mono ?_
  rintro e w' ⟨rfl, hh, hgr⟩
  refine ⟨_, rfl, ?_, hgr⟩
  have := own_make (base := w0.heap.size) (c := c) (ys := o.take i ++ x :: o.drop i) hh (by rw [length_splice _ _ _ (by rw [length_splice _ _ _ (by rw [hcl2]; omega), encY_len]; omega), length_splice _ _ _ (by rw [hcl2]; omega)]; exact hcl) (by rw [en]; exact hroom) hcm hbase (ins_cells hcl hi hroom hcu)
  rw [en] at this
  exact this
 ·refine (insert_grow g o.length c i gv x cur (cellsY (o.drop i)) w hg hcl hlt hnc (by omega) hl hv hne' hcl2 hcs (cellsY_one _)).mono ?_
  rintro e w' ⟨G, R, rfl, hG1, hG2, hRl, hRt, hh, hbw⟩
  refine ⟨_, rfl, ?_, ins_grown hbw⟩
  have ht : R.take (i * 2) = cellsY (o.take i) := by
   have := congrArg (List.take (i * 2)) hcu
   rw [List.take_take, Nat.min_eq_left (by omega), cellsY_take] at this
   rw [hRt, this]
  have := own_make (base := w0.heap.size) (c := G) (ys := o.take i ++ x :: o.drop i) hh (by rw [length_splice _ _ _ (by rw [length_splice _ _ _ (by rw [encY_len]; omega), hcl2]; omega), length_splice _ _ _ (by rw [encY_len]; omega)]; exact hRl) (by rw [en]; exact hG1) hG2 hb.size (grow_cells hRl hi hG1 ht)
  rw [en] at this
  exact this
theorem cfY_lt (x y : SY) : cfY x y < 0 ↔ siteLt x y := by
 have h := ltY x y
 unfold ltOf at h
 simpa using h
theorem cfY_eq (x y : SY) : cfY x y = 0 ↔ x = y := by
 constructor
 ·intro h
  have h1 : ¬ siteLt x y := fun k => by have := (cfY_lt x y).2 k; omega
  rcases siteLt_total x y with k | k | k
  ·exact absurd k h1
  ·exact k
  ·have h2 : cfY x y = 0 := h
   unfold cfY mrCmp at h2
   unfold siteLt at k
   exfalso
   split at h2 <;> (repeat' split at h2) <;> (repeat' split at *) <;> omega
 ·rintro rfl
  unfold cfY mrCmp
  simp
/-- What is read at a comparison. -/
abbrev S4 (V : World) (p : Addr) (gx : Nat) (y x : SY) (W : World) : Prop := W.cell? p = some (.int .i64 y.f0) ∧ W.cell? ⟨p.block, p.off + 1, none⟩ = some (.int .i64 y.f1) ∧ W.cell? ⟨gx, 0, none⟩ = some (.int .i64 x.f0) ∧ W.cell? ⟨gx, 1, none⟩ = some (.int .i64 x.f1) ∧ Below V.heap.size V W
theorem S4.next {V W W' : World} {p : Addr} {gx : Nat} {y x : SY} (h : S4 V p gx y x W) (hb : Below W.heap.size W W') : S4 V p gx y x W' := ⟨pw_cell_below hb h.1, pw_cell_below hb h.2.1, pw_cell_below hb h.2.2.1, pw_cell_below hb h.2.2.2.1, below_step h.2.2.2.2 hb⟩
/-- A sorted row's place for a site. -/
def Placed (ys : List SY) (x : SY) (lo hi : Nat) : Prop := (∀ (j : Nat) (y : SY), ys[j]? = some y → j < lo → siteLt y x) ∧ ∀ (j : Nat) (y : SY), ys[j]? = some y → hi ≤ j → ¬ siteLt y x
set_option maxHeartbeats 4000000 in
set_option maxRecDepth 100000 in
theorem search_calls (A : Option Addr) (c : Nat) (ys : List SY) (x : SY) (w : World) (hr : Kd.C kY w A ys.length ys) (hc : ys.length ≤ c) (hs : ys.Pairwise siteLt) (hl : ys.length ≤ 1099511627776) :
  Calls Try.prog 39 #[.slice A ys.length c, .agg #[.int .i64 x.f0, .int .i64 x.f1], .func (.func 25) #[] #[]] w fun e w' => ∃ (i : Nat) (b : Bool), e = .returned (.tuple #[.int .i64 (i : Int), .bool b]) ∧ i ≤ ys.length ∧ Placed ys x i i ∧ (b = true ↔ ys[i]? = some x) ∧ Below w.heap.size w w' := by
 have HR := Lib.hid hr
 have HS := Lib.hid hs
 clear hr hs
 go_enter Try.func39, Try.ntmps39
 go_upto_region 1 with fail
 refine gen2 (φ := fun W => Code.wp _ _ _ _ W) (P := fun W => Below w.heap.size w W ∧ W.heap[w.heap.size]? = some (.cells #[.int .i64 x.f0, .int .i64 x.f1] 38 (0, 0))) ⟨below_alloc (Below.refl _ _) _, blk_new w _⟩ ?_
 rintro V ⟨hb, hx⟩
 have HB := Lib.hid hb
 have HX := Lib.hid hx
 clear hb hx
 generalize w.heap.size = gx at HX ⊢
 go_wp2
 go_loopw [9, 10] (fun s9 s10 wr => ∃ lo hi : Nat, lo ≤ hi ∧ hi ≤ ys.length ∧ s9 = .int .i64 (lo : Int) ∧ s10 = .int .i64 (hi : Int) ∧ Hid (Placed ys x lo hi) ∧ Hid (Below V.heap.size V wr)) (fun s9 s10 _ => cntM s10 - cntM s9)
 case atStart => exact ⟨0, ys.length, Nat.zero_le _, Nat.le_refl _, rfl, rfl, Lib.hid ⟨fun j y _ h => absurd h (Nat.not_lt_zero _), fun j y hy h => absurd (List.getElem?_eq_some_iff.1 hy).1 (Nat.not_lt.2 h)⟩, Lib.hid (Below.refl _ _)⟩
 case round =>
  obtain ⟨lo, hi, h1, h2, rfl, rfl, PL, BW⟩ := hrel
  by_cases hlt : lo < hi
  ·have d1 : decide ((lo : Int) < (hi : Int)) = true := by simp; omega
   have w1_ : IntKind.i64.wrap ((lo : Int) + (hi : Int)) = (lo : Int) + (hi : Int) := IntWalk.i64_in _ (by omega)
   obtain ⟨m, hm⟩ : ∃ m, m = (lo + hi) / 2 := ⟨_, rfl⟩
   go_upto_region 5 with fail
   have em : ((lo : Int) + (hi : Int)) / 2 = (m : Int) := by omega
   have hm1 : lo ≤ m ∧ m < hi := by omega
   have b1 : (0 : Int) ≤ (m : Int) := by omega
   have b2 : (m : Int) < (ys.length : Int) := by omega
   have w2_ : IntKind.i64.wrap ((m : Int) + 1) = (m : Int) + 1 := IntWalk.i64_in _ (by omega)
   obtain ⟨y, hy⟩ : ∃ y, ys[m]? = some y := ⟨_, List.getElem?_eq_getElem (by omega)⟩
   have HY := Lib.hid hy
   have HM := Lib.hid hm1
   rw [em]
   clear hm em
   obtain ⟨ad, e0, y0, y1⟩ := at_Y (Kd.C_below HR.out (below_step HB.out BW.out)) hy (by omega)
   subst e0
   have QS := Lib.hid (show S4 wr (ad.add (m * 2)) gx y x wr from ⟨y0, y1, (blk_cell (blk_below HX.out BW.out) 0).trans rfl, (blk_cell (blk_below HX.out BW.out) 1).trans rfl, Below.refl _ _⟩)
   clear hy y0 y1 hm1
   refine wp_region_noPanic ?_
   refine wp_region_held_drew (S := (fun w' => S4 wr (ad.add (m * 2)) gx y x w')) ?hm_a ?hS_a (fun hHeld => ?_)
   case hm_a => kernel_rfl
   case hS_a => exact QS.out.next (by with_reducible repeat (first | exact Below.refl _ _ | apply pw_below_drewN | apply Below.drew))
   refine wpAnyH_take (i := 0) (oi := ?oa0) (v := ?va0) ?hi_a0 ?k1_a0 ?k2_a0 ?k3_a0 (fun _ _ _ h => h) (Or.inl ⟨?g_a0, ?y_a0⟩) (by assumption) ?r_a0
   case hi_a0 => (simp only [List.getElem?_toArray, List.getElem?_cons_succ, List.getElem?_cons_zero]; rfl)
   case k1_a0 => kernel_rfl
   case k2_a0 => kernel_rfl
   case k3_a0 => kernel_rfl
   case g_a0 => rfl
   case y_a0 => (intro w hSw; (try dsimp only at hSw); first | (go_simp; done) | (go_simp; with_reducible rfl))
   (try simp only [Act.put, List.setIfInBounds_toArray, List.set_cons_zero, List.set_cons_succ])
   refine wpAnyH_take (i := 1) (oi := ?oa1) (v := ?va1) ?hi_a1 ?k1_a1 ?k2_a1 ?k3_a1 (fun _ _ _ h => h) (Or.inl ⟨?g_a1, ?y_a1⟩) (by assumption) ?r_a1
   case hi_a1 => (simp only [List.getElem?_toArray, List.getElem?_cons_succ, List.getElem?_cons_zero]; rfl)
   case k1_a1 => kernel_rfl
   case k2_a1 => kernel_rfl
   case k3_a1 => kernel_rfl
   case g_a1 => rfl
   case y_a1 => (intro w hSw; (try dsimp only at hSw); first | (go_simp; done) | (go_simp; with_reducible rfl))
   (try simp only [Act.put, List.setIfInBounds_toArray, List.set_cons_zero, List.set_cons_succ])
   refine wpAnyH_take (i := 2) (oi := ?oa2) (v := ?va2) ?hi_a2 ?k1_a2 ?k2_a2 ?k3_a2 (fun _ _ _ h => h) (Or.inl ⟨?g_a2, ?y_a2⟩) (by assumption) ?r_a2
   case hi_a2 => (simp only [List.getElem?_toArray, List.getElem?_cons_succ, List.getElem?_cons_zero]; rfl)
   case k1_a2 => kernel_rfl
   case k2_a2 => kernel_rfl
   case k3_a2 => kernel_rfl
   case g_a2 => rfl
   case y_a2 => (intro w hSw; (try dsimp only at hSw); first | (go_simp; done) | (go_simp; with_reducible rfl))
   (try simp only [Act.put, List.setIfInBounds_toArray, List.set_cons_zero, List.set_cons_succ])
   refine wpAnyH_take (i := 3) (oi := ?oa3) (v := ?va3) ?hi_a3 ?k1_a3 ?k2_a3 ?k3_a3 (fun _ _ _ h => h) (Or.inl ⟨?g_a3, ?y_a3⟩) (by assumption) ?r_a3
   case hi_a3 => (simp only [List.getElem?_toArray, List.getElem?_cons_succ, List.getElem?_cons_zero]; rfl)
   case k1_a3 => kernel_rfl
   case k2_a3 => kernel_rfl
   case k3_a3 => kernel_rfl
   case g_a3 => rfl
   case y_a3 => (intro w hSw; (try dsimp only at hSw); first | (go_simp; done) | (go_simp; with_reducible rfl))
   (try simp only [Act.put, List.setIfInBounds_toArray, List.set_cons_zero, List.set_cons_succ])
   refine wpAnyH_take (i := 4) (oi := ?oa4) (v := ?va4) ?hi_a4 ?k1_a4 ?k2_a4 ?k3_a4 (fun _ _ _ h => h) (Or.inl ⟨?g_a4, ?y_a4⟩) (by assumption) ?r_a4
   case hi_a4 => (simp only [List.getElem?_toArray, List.getElem?_cons_succ, List.getElem?_cons_zero]; rfl)
   case k1_a4 => kernel_rfl
   case k2_a4 => kernel_rfl
   case k3_a4 => kernel_rfl
   case g_a4 => rfl
   case y_a4 => (intro w hSw; (try dsimp only at hSw); first | (go_simp; done) | (go_simp; with_reducible rfl))
   (try simp only [Act.put, List.setIfInBounds_toArray, List.set_cons_zero, List.set_cons_succ])
   refine wpAnyH_take (i := 5) (oi := ?oa5) (v := ?va5) ?hi_a5 ?k1_a5 ?k2_a5 ?k3_a5 (fun _ _ _ h => h) (Or.inl ⟨?g_a5, ?y_a5⟩) (by assumption) ?r_a5
   case hi_a5 => (simp only [List.getElem?_toArray, List.getElem?_cons_succ, List.getElem?_cons_zero]; rfl)
   case k1_a5 => kernel_rfl
   case k2_a5 => kernel_rfl
   case k3_a5 => kernel_rfl
   case g_a5 => rfl
   case y_a5 => (intro w hSw; (try dsimp only at hSw); first | (go_simp; done) | (go_simp; with_reducible rfl))
   (try simp only [Act.put, List.setIfInBounds_toArray, List.set_cons_zero, List.set_cons_succ])
   refine wpAnyH_ready (rs := [6]) ?k1_a6 (by simp) ?r_a6
   case k1_a6 => kernel_rfl
   refine AllReadyH.cons (o := ?oa6) ?hi_a6 (fun K hK => ?s_a6) ?m_a6
   case hi_a6 => (simp only [List.getElem?_toArray, List.getElem?_cons_succ, List.getElem?_cons_zero]; rfl)
   case m_a6 => exact AllReadyH.nil
   go_simp
   (go_at_call 25; (refine (compare_calls y x _).mono ?_); rintro e w9 ⟨rfl, hg9⟩; have HS1 := Lib.hid (S4.next (V := wr) (p := ad.add (m * 2)) (gx := gx) (y := y) (x := x) (by assumption) hg9.below); clear hg9)
   (try go_wp2_with fail)
   refine hK.out _ _ HS1.out (fun hHeld => ?_)
   clear hK K
   (try simp only [Act.put, List.setIfInBounds_toArray, List.set_cons_zero, List.set_cons_succ])
   refine wpAnyH_take (i := 7) (oi := ?oa7) (v := ?va7) ?hi_a7 ?k1_a7 ?k2_a7 ?k3_a7 (fun _ _ _ h => h) (Or.inl ⟨?g_a7, ?y_a7⟩) (by assumption) ?r_a7
   case hi_a7 => (simp only [List.getElem?_toArray, List.getElem?_cons_succ, List.getElem?_cons_zero]; rfl)
   case k1_a7 => kernel_rfl
   case k2_a7 => kernel_rfl
   case k3_a7 => kernel_rfl
   case g_a7 => rfl
   case y_a7 => (intro w hSw; (try dsimp only at hSw); first | (go_simp; done) | (go_simp; with_reducible rfl))
   (try simp only [Act.put, List.setIfInBounds_toArray, List.set_cons_zero, List.set_cons_succ])
   refine wpAnyH_done (by kernel_rfl) ?_ _
   refine NoPanic.normal ?_
   have BN := Lib.hid (below_step BW.out (HS1.out.2.2.2.2))
   obtain ⟨z, hz⟩ : ∃ z, z = cfY y x := ⟨_, rfl⟩
   rw [← hz]
   have HZ := Lib.hid hz
   clear hz HS1 QS BW
   by_cases hlt2 : z < 0
   ·have d2 : decide (z < 0) = true := by simpa using hlt2
    have LT := Lib.hid ((cfY_lt y x).1 (by rw [← HZ.out]; exact hlt2))
    have hle : ¬ (0 ≤ z) := by omega
    go_wp2
    go_roundw
    case rel =>
     refine ⟨m + 1, hi, by have := HM.out; omega, h2, by go_num, rfl, Lib.hid ⟨fun j u hu hj => ?_, PL.out.2⟩, BN⟩
     by_cases hjm : j = m
     ·subst hjm
      rw [HY.out] at hu
      injection hu with hu
      subst hu
      exact LT.out
     ·obtain ⟨q1, q2⟩ := List.getElem?_eq_some_iff.1 hu
      obtain ⟨q3, q4⟩ := List.getElem?_eq_some_iff.1 HY.out
      have := List.pairwise_iff_getElem.1 HS.out j m q1 q3 (by omega)
      rw [q2, q4] at this
      exact siteLt_trans this LT.out
    case measure =>
     have := HM.out
     simp only [cntM]
     omega
   ·have d2 : decide (z < 0) = false := by simpa using hlt2
    have LT := Lib.hid (fun k => hlt2 (by rw [HZ.out]; exact (cfY_lt y x).2 k))
    have hle : 0 ≤ z := by omega
    go_wp2
    go_roundw
    case rel =>
     refine ⟨lo, m, HM.out.1, by have := HM.out; omega, rfl, rfl, Lib.hid ⟨PL.out.1, fun j u hu hj k => ?_⟩, BN⟩
     by_cases hjm : j = m
     ·subst hjm
      rw [HY.out] at hu
      injection hu with hu
      subst hu
      exact LT.out k
     ·obtain ⟨q1, q2⟩ := List.getElem?_eq_some_iff.1 hu
      obtain ⟨q3, q4⟩ := List.getElem?_eq_some_iff.1 HY.out
      have := List.pairwise_iff_getElem.1 HS.out m j q3 q1 (by omega)
      rw [q2, q4] at this
      exact LT.out (siteLt_trans this k)
    case measure =>
     have := HM.out
     simp only [cntM]
     omega
  ·have d1 : decide ((lo : Int) < (hi : Int)) = false := by simp; omega
   obtain rfl : lo = hi := by omega
   by_cases hn : lo < ys.length
   ·have d2 : decide ((lo : Int) < (ys.length : Int)) = true := by simp; omega
    have b1 : (0 : Int) ≤ (lo : Int) := by omega
    have b2 : (lo : Int) < (ys.length : Int) := by omega
    obtain ⟨y, hy⟩ : ∃ y, ys[lo]? = some y := ⟨_, List.getElem?_eq_getElem hn⟩
    have HY := Lib.hid hy
    go_upto_region 8 with fail
    obtain ⟨ad, e0, y0, y1⟩ := at_Y (Kd.C_below HR.out (below_step HB.out BW.out)) hy hn
    subst e0
    have QS := Lib.hid (show S4 wr (ad.add (lo * 2)) gx y x wr from ⟨y0, y1, (blk_cell (blk_below HX.out BW.out) 0).trans rfl, (blk_cell (blk_below HX.out BW.out) 1).trans rfl, Below.refl _ _⟩)
    clear hy y0 y1
    refine wp_region_noPanic ?_
    refine wp_region_held_drew (S := (fun w' => S4 wr (ad.add (lo * 2)) gx y x w')) ?hm_b ?hS_b (fun hHeld => ?_)
    case hm_b => kernel_rfl
    case hS_b => exact QS.out.next (by with_reducible repeat (first | exact Below.refl _ _ | apply pw_below_drewN | apply Below.drew))
    refine wpAnyH_take (i := 0) (oi := ?ob0) (v := ?vb0) ?hi_b0 ?k1_b0 ?k2_b0 ?k3_b0 (fun _ _ _ h => h) (Or.inl ⟨?g_b0, ?y_b0⟩) (by assumption) ?r_b0
    case hi_b0 => (simp only [List.getElem?_toArray, List.getElem?_cons_succ, List.getElem?_cons_zero]; rfl)
    case k1_b0 => kernel_rfl
    case k2_b0 => kernel_rfl
    case k3_b0 => kernel_rfl
    case g_b0 => rfl
    case y_b0 => (intro w hSw; (try dsimp only at hSw); first | (go_simp; done) | (go_simp; with_reducible rfl))
    (try simp only [Act.put, List.setIfInBounds_toArray, List.set_cons_zero, List.set_cons_succ])
    refine wpAnyH_take (i := 1) (oi := ?ob1) (v := ?vb1) ?hi_b1 ?k1_b1 ?k2_b1 ?k3_b1 (fun _ _ _ h => h) (Or.inl ⟨?g_b1, ?y_b1⟩) (by assumption) ?r_b1
    case hi_b1 => (simp only [List.getElem?_toArray, List.getElem?_cons_succ, List.getElem?_cons_zero]; rfl)
    case k1_b1 => kernel_rfl
    case k2_b1 => kernel_rfl
    case k3_b1 => kernel_rfl
    case g_b1 => rfl
    case y_b1 => (intro w hSw; (try dsimp only at hSw); first | (go_simp; done) | (go_simp; with_reducible rfl))
    (try simp only [Act.put, List.setIfInBounds_toArray, List.set_cons_zero, List.set_cons_succ])
    refine wpAnyH_take (i := 2) (oi := ?ob2) (v := ?vb2) ?hi_b2 ?k1_b2 ?k2_b2 ?k3_b2 (fun _ _ _ h => h) (Or.inl ⟨?g_b2, ?y_b2⟩) (by assumption) ?r_b2
    case hi_b2 => (simp only [List.getElem?_toArray, List.getElem?_cons_succ, List.getElem?_cons_zero]; rfl)
    case k1_b2 => kernel_rfl
    case k2_b2 => kernel_rfl
    case k3_b2 => kernel_rfl
    case g_b2 => rfl
    case y_b2 => (intro w hSw; (try dsimp only at hSw); first | (go_simp; done) | (go_simp; with_reducible rfl))
    (try simp only [Act.put, List.setIfInBounds_toArray, List.set_cons_zero, List.set_cons_succ])
    refine wpAnyH_take (i := 3) (oi := ?ob3) (v := ?vb3) ?hi_b3 ?k1_b3 ?k2_b3 ?k3_b3 (fun _ _ _ h => h) (Or.inl ⟨?g_b3, ?y_b3⟩) (by assumption) ?r_b3
    case hi_b3 => (simp only [List.getElem?_toArray, List.getElem?_cons_succ, List.getElem?_cons_zero]; rfl)
    case k1_b3 => kernel_rfl
    case k2_b3 => kernel_rfl
    case k3_b3 => kernel_rfl
    case g_b3 => rfl
    case y_b3 => (intro w hSw; (try dsimp only at hSw); first | (go_simp; done) | (go_simp; with_reducible rfl))
    (try simp only [Act.put, List.setIfInBounds_toArray, List.set_cons_zero, List.set_cons_succ])
    refine wpAnyH_take (i := 4) (oi := ?ob4) (v := ?vb4) ?hi_b4 ?k1_b4 ?k2_b4 ?k3_b4 (fun _ _ _ h => h) (Or.inl ⟨?g_b4, ?y_b4⟩) (by assumption) ?r_b4
    case hi_b4 => (simp only [List.getElem?_toArray, List.getElem?_cons_succ, List.getElem?_cons_zero]; rfl)
    case k1_b4 => kernel_rfl
    case k2_b4 => kernel_rfl
    case k3_b4 => kernel_rfl
    case g_b4 => rfl
    case y_b4 => (intro w hSw; (try dsimp only at hSw); first | (go_simp; done) | (go_simp; with_reducible rfl))
    (try simp only [Act.put, List.setIfInBounds_toArray, List.set_cons_zero, List.set_cons_succ])
    refine wpAnyH_take (i := 5) (oi := ?ob5) (v := ?vb5) ?hi_b5 ?k1_b5 ?k2_b5 ?k3_b5 (fun _ _ _ h => h) (Or.inl ⟨?g_b5, ?y_b5⟩) (by assumption) ?r_b5
    case hi_b5 => (simp only [List.getElem?_toArray, List.getElem?_cons_succ, List.getElem?_cons_zero]; rfl)
    case k1_b5 => kernel_rfl
    case k2_b5 => kernel_rfl
    case k3_b5 => kernel_rfl
    case g_b5 => rfl
    case y_b5 => (intro w hSw; (try dsimp only at hSw); first | (go_simp; done) | (go_simp; with_reducible rfl))
    (try simp only [Act.put, List.setIfInBounds_toArray, List.set_cons_zero, List.set_cons_succ])
    refine wpAnyH_take (i := 6) (oi := ?ob6) (v := ?vb6) ?hi_b6 ?k1_b6 ?k2_b6 ?k3_b6 (fun _ _ _ h => h) (Or.inl ⟨?g_b6, ?y_b6⟩) (by assumption) ?r_b6
    case hi_b6 => (simp only [List.getElem?_toArray, List.getElem?_cons_succ, List.getElem?_cons_zero]; rfl)
    case k1_b6 => kernel_rfl
    case k2_b6 => kernel_rfl
    case k3_b6 => kernel_rfl
    case g_b6 => rfl
    case y_b6 => (intro w hSw; (try dsimp only at hSw); first | (go_simp; done) | (go_simp; with_reducible rfl))
    (try simp only [Act.put, List.setIfInBounds_toArray, List.set_cons_zero, List.set_cons_succ])
    refine wpAnyH_take (i := 7) (oi := ?ob7) (v := ?vb7) ?hi_b7 ?k1_b7 ?k2_b7 ?k3_b7 (fun _ _ _ h => h) (Or.inl ⟨?g_b7, ?y_b7⟩) (by assumption) ?r_b7
    case hi_b7 => (simp only [List.getElem?_toArray, List.getElem?_cons_succ, List.getElem?_cons_zero]; rfl)
    case k1_b7 => kernel_rfl
    case k2_b7 => kernel_rfl
    case k3_b7 => kernel_rfl
    case g_b7 => rfl
    case y_b7 => (intro w hSw; (try dsimp only at hSw); first | (go_simp; done) | (go_simp; with_reducible rfl))
    (try simp only [Act.put, List.setIfInBounds_toArray, List.set_cons_zero, List.set_cons_succ])
    refine wpAnyH_take (i := 8) (oi := ?ob8) (v := ?vb8) ?hi_b8 ?k1_b8 ?k2_b8 ?k3_b8 (fun _ _ _ h => h) (Or.inl ⟨?g_b8, ?y_b8⟩) (by assumption) ?r_b8
    case hi_b8 => (simp only [List.getElem?_toArray, List.getElem?_cons_succ, List.getElem?_cons_zero]; rfl)
    case k1_b8 => kernel_rfl
    case k2_b8 => kernel_rfl
    case k3_b8 => kernel_rfl
    case g_b8 => rfl
    case y_b8 => (intro w hSw; (try dsimp only at hSw); first | (go_simp; done) | (go_simp; with_reducible rfl))
    (try simp only [Act.put, List.setIfInBounds_toArray, List.set_cons_zero, List.set_cons_succ])
    refine wpAnyH_take (i := 9) (oi := ?ob9) (v := ?vb9) ?hi_b9 ?k1_b9 ?k2_b9 ?k3_b9 (fun _ _ _ h => h) (Or.inl ⟨?g_b9, ?y_b9⟩) (by assumption) ?r_b9
    case hi_b9 => (simp only [List.getElem?_toArray, List.getElem?_cons_succ, List.getElem?_cons_zero]; rfl)
    case k1_b9 => kernel_rfl
    case k2_b9 => kernel_rfl
    case k3_b9 => kernel_rfl
    case g_b9 => rfl
    case y_b9 => (intro w hSw; (try dsimp only at hSw); first | (go_simp; done) | (go_simp; with_reducible rfl))
    (try simp only [Act.put, List.setIfInBounds_toArray, List.set_cons_zero, List.set_cons_succ])
    refine wpAnyH_take (i := 10) (oi := ?ob10) (v := ?vb10) ?hi_b10 ?k1_b10 ?k2_b10 ?k3_b10 (fun _ _ _ h => h) (Or.inl ⟨?g_b10, ?y_b10⟩) (by assumption) ?r_b10
    case hi_b10 => (simp only [List.getElem?_toArray, List.getElem?_cons_succ, List.getElem?_cons_zero]; rfl)
    case k1_b10 => kernel_rfl
    case k2_b10 => kernel_rfl
    case k3_b10 => kernel_rfl
    case g_b10 => rfl
    case y_b10 => (intro w hSw; (try dsimp only at hSw); first | (go_simp; done) | (go_simp; with_reducible rfl))
    (try simp only [Act.put, List.setIfInBounds_toArray, List.set_cons_zero, List.set_cons_succ])
    refine wpAnyH_ready (rs := [11]) ?k1_b11 (by simp) ?r_b11
    case k1_b11 => kernel_rfl
    refine AllReadyH.cons (o := ?ob11) ?hi_b11 (fun K hK => ?s_b11) ?m_b11
    case hi_b11 => (simp only [List.getElem?_toArray, List.getElem?_cons_succ, List.getElem?_cons_zero]; rfl)
    case m_b11 => exact AllReadyH.nil
    go_simp
    (go_at_call 25; (refine (compare_calls y x _).mono ?_); rintro e w9 ⟨rfl, hg9⟩; have HS1 := Lib.hid (S4.next (V := wr) (p := ad.add (lo * 2)) (gx := gx) (y := y) (x := x) (by assumption) hg9.below); clear hg9)
    (try go_wp2_with fail)
    refine hK.out _ _ HS1.out (fun hHeld => ?_)
    clear hK K
    (try simp only [Act.put, List.setIfInBounds_toArray, List.set_cons_zero, List.set_cons_succ])
    refine wpAnyH_take (i := 12) (oi := ?ob12) (v := ?vb12) ?hi_b12 ?k1_b12 ?k2_b12 ?k3_b12 (fun _ _ _ h => h) (Or.inl ⟨?g_b12, ?y_b12⟩) (by assumption) ?r_b12
    case hi_b12 => (simp only [List.getElem?_toArray, List.getElem?_cons_succ, List.getElem?_cons_zero]; rfl)
    case k1_b12 => kernel_rfl
    case k2_b12 => kernel_rfl
    case k3_b12 => kernel_rfl
    case g_b12 => rfl
    case y_b12 => (intro w hSw; (try dsimp only at hSw); first | (go_simp; done) | (go_simp; with_reducible rfl))
    (try simp only [Act.put, List.setIfInBounds_toArray, List.set_cons_zero, List.set_cons_succ])
    refine wpAnyH_take (i := 13) (oi := ?ob13) (v := ?vb13) ?hi_b13 ?k1_b13 ?k2_b13 ?k3_b13 (fun _ _ _ h => h) (Or.inl ⟨?g_b13, ?y_b13⟩) (by assumption) ?r_b13
    case hi_b13 => (simp only [List.getElem?_toArray, List.getElem?_cons_succ, List.getElem?_cons_zero]; rfl)
    case k1_b13 => kernel_rfl
    case k2_b13 => kernel_rfl
    case k3_b13 => kernel_rfl
    case g_b13 => rfl
    case y_b13 => (intro w hSw; (try dsimp only at hSw); first | (go_simp; done) | (go_simp; with_reducible rfl))
    (try simp only [Act.put, List.setIfInBounds_toArray, List.set_cons_zero, List.set_cons_succ])
    refine wpAnyH_take (i := 14) (oi := ?ob14) (v := ?vb14) ?hi_b14 ?k1_b14 ?k2_b14 ?k3_b14 (fun _ _ _ h => h) (Or.inl ⟨?g_b14, ?y_b14⟩) (by assumption) ?r_b14
    case hi_b14 => (simp only [List.getElem?_toArray, List.getElem?_cons_succ, List.getElem?_cons_zero]; rfl)
    case k1_b14 => kernel_rfl
    case k2_b14 => kernel_rfl
    case k3_b14 => kernel_rfl
    case g_b14 => rfl
    case y_b14 => (intro w hSw; (try dsimp only at hSw); first | (go_simp; done) | (go_simp; with_reducible rfl))
    (try simp only [Act.put, List.setIfInBounds_toArray, List.set_cons_zero, List.set_cons_succ])
    refine wpAnyH_take (i := 15) (oi := ?ob15) (v := ?vb15) ?hi_b15 ?k1_b15 ?k2_b15 ?k3_b15 (fun _ _ _ h => h) (Or.inl ⟨?g_b15, ?y_b15⟩) (by assumption) ?r_b15
    case hi_b15 => (simp only [List.getElem?_toArray, List.getElem?_cons_succ, List.getElem?_cons_zero]; rfl)
    case k1_b15 => kernel_rfl
    case k2_b15 => kernel_rfl
    case k3_b15 => kernel_rfl
    case g_b15 => rfl
    case y_b15 => (intro w hSw; (try dsimp only at hSw); first | (go_simp; done) | (go_simp; with_reducible rfl))
    (try simp only [Act.put, List.setIfInBounds_toArray, List.set_cons_zero, List.set_cons_succ])
    refine wpAnyH_done (by kernel_rfl) ?_ _
    refine NoPanic.normal ?_
    go_wp2
    refine bodyPost_ret (results_list (rs := [.tmp 6, .tmp 7]) rfl (by simp) (.tmp (.tmp .nil))) rfl ?_
    refine ⟨lo, decide (cfY y x = 0), rfl, h2, PL.out, ?_, below_step HB.out (below_step BW.out (HS1.out.2.2.2.2))⟩
    rw [HY.out, decide_eq_true_iff, cfY_eq]
    simp
   ·have d2 : decide ((lo : Int) < (ys.length : Int)) = false := by simp; omega
    go_upto_region 8 with fail
    have QS := Lib.hid (show Below wr.heap.size wr wr from Below.refl _ _)
    refine wp_region_noPanic ?_
    refine wp_region_held_drew (S := (fun w' => Below wr.heap.size wr w')) ?hm_f ?hS_f (fun hHeld => ?_)
    case hm_f => kernel_rfl
    case hS_f => exact below_step QS.out (by with_reducible repeat (first | exact Below.refl _ _ | apply pw_below_drewN | apply Below.drew))
    refine wpAnyH_take (i := 0) (oi := ?of0) (v := ?vf0) ?hi_f0 ?k1_f0 ?k2_f0 ?k3_f0 (fun _ _ _ h => h) (Or.inl ⟨?g_f0, ?y_f0⟩) (by assumption) ?r_f0
    case hi_f0 => (simp only [List.getElem?_toArray, List.getElem?_cons_succ, List.getElem?_cons_zero]; rfl)
    case k1_f0 => kernel_rfl
    case k2_f0 => kernel_rfl
    case k3_f0 => kernel_rfl
    case g_f0 => rfl
    case y_f0 => (intro w hSw; (try dsimp only at hSw); first | (go_simp; done) | (go_simp; with_reducible rfl))
    (try simp only [Act.put, List.setIfInBounds_toArray, List.set_cons_zero, List.set_cons_succ])
    refine wpAnyH_take (i := 1) (oi := ?of1) (v := ?vf1) ?hi_f1 ?k1_f1 ?k2_f1 ?k3_f1 (fun _ _ _ h => h) (Or.inl ⟨?g_f1, ?y_f1⟩) (by assumption) ?r_f1
    case hi_f1 => (simp only [List.getElem?_toArray, List.getElem?_cons_succ, List.getElem?_cons_zero]; rfl)
    case k1_f1 => kernel_rfl
    case k2_f1 => kernel_rfl
    case k3_f1 => kernel_rfl
    case g_f1 => rfl
    case y_f1 => (intro w hSw; (try dsimp only at hSw); first | (go_simp; done) | (go_simp; with_reducible rfl))
    (try simp only [Act.put, List.setIfInBounds_toArray, List.set_cons_zero, List.set_cons_succ])
    refine wpAnyH_take (i := 2) (oi := ?of2) (v := ?vf2) ?hi_f2 ?k1_f2 ?k2_f2 ?k3_f2 (fun _ _ _ h => h) (Or.inl ⟨?g_f2, ?y_f2⟩) (by assumption) ?r_f2
    case hi_f2 => (simp only [List.getElem?_toArray, List.getElem?_cons_succ, List.getElem?_cons_zero]; rfl)
    case k1_f2 => kernel_rfl
    case k2_f2 => kernel_rfl
    case k3_f2 => kernel_rfl
    case g_f2 => rfl
    case y_f2 => (intro w hSw; (try dsimp only at hSw); first | (go_simp; done) | (go_simp; with_reducible rfl))
    (try simp only [Act.put, List.setIfInBounds_toArray, List.set_cons_zero, List.set_cons_succ])
    refine wpAnyH_take (i := 3) (oi := ?of3) (v := ?vf3) ?hi_f3 ?k1_f3 ?k2_f3 ?k3_f3 (fun _ _ _ h => h) (Or.inl ⟨?g_f3, ?y_f3⟩) (by assumption) ?r_f3
    case hi_f3 => (simp only [List.getElem?_toArray, List.getElem?_cons_succ, List.getElem?_cons_zero]; rfl)
    case k1_f3 => kernel_rfl
    case k2_f3 => kernel_rfl
    case k3_f3 => kernel_rfl
    case g_f3 => rfl
    case y_f3 => (intro w hSw; (try dsimp only at hSw); first | (go_simp; done) | (go_simp; with_reducible rfl))
    (try simp only [Act.put, List.setIfInBounds_toArray, List.set_cons_zero, List.set_cons_succ])
    refine wpAnyH_take (i := 4) (oi := ?of4) (v := ?vf4) ?hi_f4 ?k1_f4 ?k2_f4 ?k3_f4 (fun _ _ _ h => h) (Or.inl ⟨?g_f4, ?y_f4⟩) (by assumption) ?r_f4
    case hi_f4 => (simp only [List.getElem?_toArray, List.getElem?_cons_succ, List.getElem?_cons_zero]; rfl)
    case k1_f4 => kernel_rfl
    case k2_f4 => kernel_rfl
    case k3_f4 => kernel_rfl
    case g_f4 => rfl
    case y_f4 => (intro w hSw; (try dsimp only at hSw); first | (go_simp; done) | (go_simp; with_reducible rfl))
    (try simp only [Act.put, List.setIfInBounds_toArray, List.set_cons_zero, List.set_cons_succ])
    refine wpAnyH_take (i := 5) (oi := ?of5) (v := undef) ?hi_f5 ?k1_f5 ?k2_f5 ?k3_f5 (fun _ _ _ h => h) (Or.inr ⟨?g_f5, rfl⟩) (by assumption) ?r_f5
    case hi_f5 => (simp only [List.getElem?_toArray, List.getElem?_cons_succ, List.getElem?_cons_zero]; rfl)
    case k1_f5 => kernel_rfl
    case k2_f5 => kernel_rfl
    case k3_f5 => kernel_rfl
    case g_f5 => rfl
    (try simp only [Act.put, List.setIfInBounds_toArray, List.set_cons_zero, List.set_cons_succ])
    refine wpAnyH_take (i := 6) (oi := ?of6) (v := undef) ?hi_f6 ?k1_f6 ?k2_f6 ?k3_f6 (fun _ _ _ h => h) (Or.inr ⟨?g_f6, rfl⟩) (by assumption) ?r_f6
    case hi_f6 => (simp only [List.getElem?_toArray, List.getElem?_cons_succ, List.getElem?_cons_zero]; rfl)
    case k1_f6 => kernel_rfl
    case k2_f6 => kernel_rfl
    case k3_f6 => kernel_rfl
    case g_f6 => rfl
    (try simp only [Act.put, List.setIfInBounds_toArray, List.set_cons_zero, List.set_cons_succ])
    refine wpAnyH_take (i := 7) (oi := ?of7) (v := undef) ?hi_f7 ?k1_f7 ?k2_f7 ?k3_f7 (fun _ _ _ h => h) (Or.inr ⟨?g_f7, rfl⟩) (by assumption) ?r_f7
    case hi_f7 => (simp only [List.getElem?_toArray, List.getElem?_cons_succ, List.getElem?_cons_zero]; rfl)
    case k1_f7 => kernel_rfl
    case k2_f7 => kernel_rfl
    case k3_f7 => kernel_rfl
    case g_f7 => rfl
    (try simp only [Act.put, List.setIfInBounds_toArray, List.set_cons_zero, List.set_cons_succ])
    refine wpAnyH_take (i := 8) (oi := ?of8) (v := undef) ?hi_f8 ?k1_f8 ?k2_f8 ?k3_f8 (fun _ _ _ h => h) (Or.inr ⟨?g_f8, rfl⟩) (by assumption) ?r_f8
    case hi_f8 => (simp only [List.getElem?_toArray, List.getElem?_cons_succ, List.getElem?_cons_zero]; rfl)
    case k1_f8 => kernel_rfl
    case k2_f8 => kernel_rfl
    case k3_f8 => kernel_rfl
    case g_f8 => rfl
    (try simp only [Act.put, List.setIfInBounds_toArray, List.set_cons_zero, List.set_cons_succ])
    refine wpAnyH_take (i := 9) (oi := ?of9) (v := undef) ?hi_f9 ?k1_f9 ?k2_f9 ?k3_f9 (fun _ _ _ h => h) (Or.inr ⟨?g_f9, rfl⟩) (by assumption) ?r_f9
    case hi_f9 => (simp only [List.getElem?_toArray, List.getElem?_cons_succ, List.getElem?_cons_zero]; rfl)
    case k1_f9 => kernel_rfl
    case k2_f9 => kernel_rfl
    case k3_f9 => kernel_rfl
    case g_f9 => rfl
    (try simp only [Act.put, List.setIfInBounds_toArray, List.set_cons_zero, List.set_cons_succ])
    refine wpAnyH_take (i := 10) (oi := ?of10) (v := undef) ?hi_f10 ?k1_f10 ?k2_f10 ?k3_f10 (fun _ _ _ h => h) (Or.inr ⟨?g_f10, rfl⟩) (by assumption) ?r_f10
    case hi_f10 => (simp only [List.getElem?_toArray, List.getElem?_cons_succ, List.getElem?_cons_zero]; rfl)
    case k1_f10 => kernel_rfl
    case k2_f10 => kernel_rfl
    case k3_f10 => kernel_rfl
    case g_f10 => rfl
    (try simp only [Act.put, List.setIfInBounds_toArray, List.set_cons_zero, List.set_cons_succ])
    refine wpAnyH_take (i := 11) (oi := ?of11) (v := undef) ?hi_f11 ?k1_f11 ?k2_f11 ?k3_f11 (fun _ _ _ h => h) (Or.inr ⟨?g_f11, rfl⟩) (by assumption) ?r_f11
    case hi_f11 => (simp only [List.getElem?_toArray, List.getElem?_cons_succ, List.getElem?_cons_zero]; rfl)
    case k1_f11 => kernel_rfl
    case k2_f11 => kernel_rfl
    case k3_f11 => kernel_rfl
    case g_f11 => rfl
    (try simp only [Act.put, List.setIfInBounds_toArray, List.set_cons_zero, List.set_cons_succ])
    refine wpAnyH_take (i := 12) (oi := ?of12) (v := undef) ?hi_f12 ?k1_f12 ?k2_f12 ?k3_f12 (fun _ _ _ h => h) (Or.inr ⟨?g_f12, rfl⟩) (by assumption) ?r_f12
    case hi_f12 => (simp only [List.getElem?_toArray, List.getElem?_cons_succ, List.getElem?_cons_zero]; rfl)
    case k1_f12 => kernel_rfl
    case k2_f12 => kernel_rfl
    case k3_f12 => kernel_rfl
    case g_f12 => rfl
    (try simp only [Act.put, List.setIfInBounds_toArray, List.set_cons_zero, List.set_cons_succ])
    refine wpAnyH_take (i := 13) (oi := ?of13) (v := ?vf13) ?hi_f13 ?k1_f13 ?k2_f13 ?k3_f13 (fun _ _ _ h => h) (Or.inl ⟨?g_f13, ?y_f13⟩) (by assumption) ?r_f13
    case hi_f13 => (simp only [List.getElem?_toArray, List.getElem?_cons_succ, List.getElem?_cons_zero]; rfl)
    case k1_f13 => kernel_rfl
    case k2_f13 => kernel_rfl
    case k3_f13 => kernel_rfl
    case g_f13 => rfl
    case y_f13 => (intro w hSw; (try dsimp only at hSw); first | (go_simp; done) | (go_simp; with_reducible rfl))
    (try simp only [Act.put, List.setIfInBounds_toArray, List.set_cons_zero, List.set_cons_succ])
    refine wpAnyH_take (i := 14) (oi := ?of14) (v := ?vf14) ?hi_f14 ?k1_f14 ?k2_f14 ?k3_f14 (fun _ _ _ h => h) (Or.inl ⟨?g_f14, ?y_f14⟩) (by assumption) ?r_f14
    case hi_f14 => (simp only [List.getElem?_toArray, List.getElem?_cons_succ, List.getElem?_cons_zero]; rfl)
    case k1_f14 => kernel_rfl
    case k2_f14 => kernel_rfl
    case k3_f14 => kernel_rfl
    case g_f14 => rfl
    case y_f14 => (intro w hSw; (try dsimp only at hSw); first | (go_simp; done) | (go_simp; with_reducible rfl))
    (try simp only [Act.put, List.setIfInBounds_toArray, List.set_cons_zero, List.set_cons_succ])
    refine wpAnyH_take (i := 15) (oi := ?of15) (v := ?vf15) ?hi_f15 ?k1_f15 ?k2_f15 ?k3_f15 (fun _ _ _ h => h) (Or.inl ⟨?g_f15, ?y_f15⟩) (by assumption) ?r_f15
    case hi_f15 => (simp only [List.getElem?_toArray, List.getElem?_cons_succ, List.getElem?_cons_zero]; rfl)
    case k1_f15 => kernel_rfl
    case k2_f15 => kernel_rfl
    case k3_f15 => kernel_rfl
    case g_f15 => rfl
    case y_f15 => (intro w hSw; (try dsimp only at hSw); first | (go_simp; done) | (go_simp; with_reducible rfl))
    (try simp only [Act.put, List.setIfInBounds_toArray, List.set_cons_zero, List.set_cons_succ])
    refine wpAnyH_done (by kernel_rfl) ?_ _
    refine NoPanic.normal ?_
    go_wp2
    refine bodyPost_ret (results_list (rs := [.tmp 6, .tmp 7]) rfl (by simp) (.tmp (.tmp .nil))) rfl ?_
    refine ⟨lo, false, rfl, h2, PL.out, ?_, below_step HB.out (below_step BW.out (by with_reducible repeat (first | exact Below.refl _ _ | apply pw_below_drewN | apply Below.drew)))⟩
    rw [List.getElem?_eq_none (by omega)]
    simp
end Go.Proofs.Ytdgjjdpeaohebaa.Mk
/- Marks: Take's closure, and what Take keeps; a site put into sorted ones. Conditions: those named. -/
namespace Go.Proofs.Ytdgjjdpeaohebaa.Mk
open Go.RowKit Go.Proofs.YtdgjjdpeaohebaaW.PrintWords Go.Proofs.YtdgjjdpeaohebaaW.PrintLast Go.Proofs.YtdgjjdpeaohebaaW.PrintMore Go.Proofs.Ytdgjjdpeaohebaa.PMarksTake Go.Proofs.Ytdgjjdpeaohebaa.Pure
set_option linter.unusedVariables false
set_option linter.unusedSimpArgs false
/-- Where a place is behind letters that are taken away. -/
def toW (a b : Int) (p : Int) : Int := if p > b then IntKind.i64.wrap (p - (b - a)) else if p > a then a else p
theorem toW_eq {a b p : Int} (ha : 0 ≤ a) (hb : a ≤ b ∧ b ≤ 1152921504606846976) (hp : -1152921504606846976 ≤ p ∧ p ≤ 1152921504606846976) : toW a b p = toT a b p := by
 unfold toW toT
 split
 ·exact IntWalk.i64_in _ (by omega)
 ·rfl
set_option maxRecDepth 100000 in
set_option maxHeartbeats 800000 in
theorem take1_calls (a b p : Int) (gb ga : Nat) (w : World) (hb : w.cell? ⟨gb, 0, none⟩ = some (.int .i64 b)) (ha : w.cell? ⟨ga, 0, none⟩ = some (.int .i64 a)) (hab : 0 ≤ a ∧ a ≤ 1152921504606846976 ∧ 0 ≤ b ∧ b ≤ 1152921504606846976) :
  Calls Try.prog 38 #[.int .i64 p, .pointer (some ⟨gb, 0, none⟩), .pointer (some ⟨ga, 0, none⟩)] w fun e w' => e = .returned (.int .i64 (toW a b p)) ∧ Below w.heap.size w w' := by
 unfold toW
 have w1_ : IntKind.i64.wrap (b - a) = b - a := IntWalk.i64_in _ (by omega)
 clear hab
 go_enter Try.func38, Try.ntmps38
 by_cases h : p > b
 ·have d' : decide (b < p) = true := by simpa using h
  rw [if_pos h]
  generalize hz : IntKind.i64.wrap (p - (b - a)) = z
  go_wp2
  go_ret
  exact ⟨rfl, Below.refl _ _⟩
 ·have d' : decide (b < p) = false := by simpa using h
  rw [if_neg h]
  by_cases h2 : p > a
  ·have d2 : decide (a < p) = true := by simpa using h2
   rw [if_pos h2]
   go_wp2
   go_ret
   exact ⟨rfl, Below.refl _ _⟩
  ·have d2 : decide (a < p) = false := by simpa using h2
   rw [if_neg h2]
   go_wp2
   go_ret
   exact ⟨rfl, Below.refl _ _⟩
theorem eg_take1 : ∀ args w, (callFunc 38 args).run Try.prog w = .ok (.enter 38 args) w := fun args w => by kernel_rfl
def takeW (a b : Int) (xs : List Sp) : List Sp := xs.foldl (fun o s => addL o ⟨s.f0, toW a b s.f1, toW a b s.f2⟩) []
theorem takeW_snoc (a b : Int) (xs : List Sp) (s : Sp) : takeW a b (xs ++ [s]) = addL (takeW a b xs) ⟨s.f0, toW a b s.f1, toW a b s.f2⟩ := by unfold takeW; rw [List.foldl_append]; rfl
theorem takeW_take {a b : Int} {xs : List Sp} {j : Nat} {x : Sp} (h : xs[j]? = some x) : takeW a b (xs.take (j + 1)) = addL (takeW a b (xs.take j)) ⟨x.f0, toW a b x.f1, toW a b x.f2⟩ := by
 obtain ⟨hl, e⟩ := List.getElem?_eq_some_iff.1 h
 rw [List.take_succ_eq_append_getElem hl, e, takeW_snoc]
theorem foldT_len (f g : Sp → Int) : ∀ (xs : List Sp) (o : List Sp), (xs.foldl (fun o s => addL o ⟨s.f0, f s, g s⟩) o).length ≤ o.length + xs.length
 | [], o => by simp
 | s :: r, o => by
  rw [List.foldl_cons, List.length_cons]
  have h1 := foldT_len f g r (addL o ⟨s.f0, f s, g s⟩)
  have h2 := addL_length o ⟨s.f0, f s, g s⟩
  omega
theorem takeW_len (a b : Int) (xs : List Sp) : (takeW a b xs).length ≤ xs.length := by have h := foldT_len (fun s => toW a b s.f1) (fun s => toW a b s.f2) xs []; simpa [takeW] using h
theorem takeW_eq {a b : Int} (ha : 0 ≤ a) (hb : a ≤ b ∧ b ≤ 1152921504606846976) {xs : List Sp} (hx : ∀ x ∈ xs, (-1152921504606846976 ≤ x.f1 ∧ x.f1 ≤ 1152921504606846976) ∧ -1152921504606846976 ≤ x.f2 ∧ x.f2 ≤ 1152921504606846976) : takeW a b xs = takeL a b xs := by
 unfold takeW takeL
 refine foldl_congr_mem xs (fun o s hs => ?_) []
 rw [toW_eq ha hb (hx s hs).1, toW_eq ha hb (hx s hs).2]
/-- The site that Take may put in. -/
def lastY (a m : Int) (ys : List SY) : List SY := if m > 0 then siteL ys ⟨m, a⟩ else ys
theorem siteL_placed {ys : List SY} {x : SY} {i : Nat} (hs : ys.Pairwise siteLt) (hp : Placed ys x i i) : (ys[i]? = some x → siteL ys x = ys) ∧ (ys[i]? ≠ some x → siteL ys x = ys.take i ++ x :: ys.drop i) := by
 obtain ⟨s1, s2⟩ := siteL_ok (s := x) hs
 constructor
 ·intro h
  have hm := List.mem_of_getElem? h
  refine sites_uniq s1 hs (fun z => ?_)
  rw [s2]
  exact ⟨fun k => by rcases k with rfl | k; exact hm; exact k, fun k => .inr k⟩
 ·intro h
  have hx : ∀ (j : Nat) (y : SY), ys[j]? = some y → i ≤ j → siteLt x y := by
   intro j y hy hj
   have h1 := hp.2 j y hy hj
   rcases siteLt_total y x with k | k | k
   ·exact absurd k h1
   ·subst k
    exfalso
    by_cases e : j = i
    ·subst e
     exact h hy
    ·obtain ⟨q1, q2⟩ := List.getElem?_eq_some_iff.1 hy
     have q3 : i < ys.length := by omega
     have := List.pairwise_iff_getElem.1 hs i j q3 q1 (by omega)
     rw [q2] at this
     exact hp.2 i ys[i] (List.getElem?_eq_getElem q3) (Nat.le_refl _) this
   ·exact k
  have ht : ∀ y ∈ ys.take i, siteLt y x := by
   intro y hy
   obtain ⟨j, hj⟩ := List.getElem?_of_mem hy
   rw [List.getElem?_take] at hj
   split at hj
   ·rename_i hlt
    exact hp.1 j y hj hlt
   ·cases hj
  have hd : ∀ y ∈ ys.drop i, siteLt x y := by
   intro y hy
   obtain ⟨j, hj⟩ := List.getElem?_of_mem hy
   rw [List.getElem?_drop] at hj
   exact hx _ y hj (by omega)
  have hp2 := hs
  rw [← List.take_append_drop i ys, List.pairwise_append] at hp2
  refine sites_uniq s1 (List.pairwise_append.2 ⟨hp2.1, List.pairwise_cons.2 ⟨hd, hp2.2.1⟩, fun y hy z hz => ?_⟩) (fun z => ?_)
  ·rcases List.mem_cons.1 hz with rfl | hz
   ·exact ht y hy
   ·exact hp2.2.2 y hy z hz
  ·rw [s2, List.mem_append, List.mem_cons]
   conv => lhs; rhs; rw [← List.take_append_drop i ys, List.mem_append]
   constructor
   ·rintro (k | k | k)
    ·exact .inr (.inl k)
    ·exact .inl k
    ·exact .inr (.inr k)
   ·rintro (k | k | k)
    ·exact .inr (.inl k)
    ·exact .inl k
    ·exact .inr (.inr k)
/-- What Take keeps behind moved: the place, the marks of its own, the place for the answer. -/
structure TZ (w : World) (g5 g8 g13 : Nat) (a : Int) (v : Value) (o : List Sp) (vy : Value) (zs : List SY) (W : World) : Prop where
 b : Below w.heap.size w W
 h5 : W.heap[g5]? = some (.cells #[.int .i64 a] 3 (0, 0))
 h8 : W.heap[g8]? = some (.cells #[.slice none 0 0, .slice none 0 0] 28 (0, 0))
 h13 : W.heap[g13]? = some (.cells #[v, vy] 28 (0, 0))
 lo8 : w.heap.size ≤ g8
 lo : w.heap.size ≤ g13
 ne : g8 ≠ g13
 row : Kd.R kSp 26 W w.heap.size (fun _ => True) v o
 ry : Kd.R kY 38 W w.heap.size (fun _ => True) vy zs
theorem TZ.next {w W W' : World} {g5 g8 g13 : Nat} {a : Int} {v : Value} {o : List Sp} {vy : Value} {zs : List SY} (h : TZ w g5 g8 g13 a v o vy zs W) (hb : Below W.heap.size W W') : TZ w g5 g8 g13 a v o vy zs W' := ⟨below_step h.b hb, blk_below h.h5 hb, blk_below h.h8 hb, blk_below h.h13 hb, h.lo8, h.lo, h.ne, Kd.R_below h.row hb, Kd.R_below h.ry hb⟩
theorem grown_keepT {W W' : World} {base : Nat} {ok : Nat → Prop} {vy : Value} {zs : List SY} (h : Kd.R kY 38 W base ok vy zs) (hg : W.grownBy W' vy.ownBlock) {g : Nat} {cs : Array Value} {t : TypeId} (hx : W.heap[g]? = some (.cells cs t (0, 0))) (ht : t ≠ 38) : W'.heap[g]? = W.heap[g]? := hg.block g (blk_lt hx) (own_neY h hx ht)
theorem TZ.ins {w W W' : World} {g5 g8 g13 : Nat} {a : Int} {v : Value} {o : List Sp} {vy : Value} {zs zs' : List SY} (h : TZ w g5 g8 g13 a v o vy zs W) {e : Ending} (ha : RetIns vy zs' w.heap.size W e W') : ∃ A c, e = .returned (.slice A zs'.length c) ∧ W'.heap[g13]? = some (.cells #[v, vy] 28 (0, 0)) ∧ TZ w g5 g8 g13 a v o (.slice A zs'.length c) zs' (W'.setCell ⟨g13, 1, none⟩ (.slice A zs'.length c)) := by
 obtain ⟨v', rfl, hr, hg⟩ := ha
 obtain ⟨A, c, e'⟩ := Kd.R_slice hr
 subst e'
 have hb := below_grown h.b hg (own_base h.ry)
 have e5 := (grown_keepT h.ry hg h.h5 (by decide)).trans h.h5
 have e8 := (grown_keepT h.ry hg h.h8 (by decide)).trans h.h8
 have e13 := (grown_keepT h.ry hg h.h13 (by decide)).trans h.h13
 have er := R_moveT rfl h.row (fun g cs hc => grown_keepT h.ry hg hc (by decide))
 refine ⟨A, c, rfl, e13, below_set hb h.lo, (set_typeM e13 (by decide) 1 _ g5 _ e5).trans e5, ?_, by simpa using blk_set e13 1 (.slice A zs'.length c), h.lo8, h.lo, h.ne, R_moveT rfl er (set_typeM e13 (by decide) 1 _), R_moveT rfl hr (set_typeM e13 (by decide) 1 _)⟩
 exact (Below.heap_setCell W' ⟨g13, 1, none⟩ _ g8 h.ne).trans e8
end Go.Proofs.Ytdgjjdpeaohebaa.Mk
/- Marks: the walk of Take. Conditions: at most 2^40 spans and sites, places within 0 and 2^60. -/
namespace Go.Proofs.Ytdgjjdpeaohebaa.Mk
open Go.RowKit Go.Proofs.YtdgjjdpeaohebaaW.PrintWords Go.Proofs.YtdgjjdpeaohebaaW.PrintLast Go.Proofs.YtdgjjdpeaohebaaW.PrintMore Go.Proofs.Ytdgjjdpeaohebaa.PMarksTake Go.Proofs.Ytdgjjdpeaohebaa.Pure
set_option linter.unusedVariables false
set_option linter.unusedSimpArgs false
attribute [local go_sem] max2_int min2_int max_two min_two
/-- A span's cells, read in a region that draws. -/
abbrev S3 (g : Nat) (x : Sp) (W : World) : Prop := W.cell? ⟨g, 0, none⟩ = some (.int .i64 x.f0) ∧ W.cell? ⟨g, 1, none⟩ = some (.int .i64 x.f1) ∧ W.cell? ⟨g, 2, none⟩ = some (.int .i64 x.f2)
theorem S3.of {g : Nat} {x : Sp} {W : World} (h : W.heap[g]? = some (.cells #[.int .i64 x.f0, .int .i64 x.f1, .int .i64 x.f2] 26 (0, 0))) : S3 g x W := ⟨(blk_cell h 0).trans rfl, (blk_cell h 1).trans rfl, (blk_cell h 2).trans rfl⟩
theorem own_ltY {W : World} {base : Nat} {ok : Nat → Prop} {v : Value} {o : List SY} (h : Kd.R kY 38 W base ok v o) : ∀ k, v.ownBlock = some k → k < W.heap.size := by
 intro k hk
 obtain ⟨i, ho⟩ := Kd.R_own h
 obtain ⟨cu, hcu⟩ := own_typed ho k hk
 exact blk_lt hcu
set_option maxRecDepth 1000000 in
set_option maxHeartbeats 8000000 in
theorem take_calls (A : Option Addr) (c : Nat) (xs : List Sp) (B : Option Addr) (d : Nat) (ys : List SY) (a b m : Int) (w : World) (hr : Kd.C kSp w A xs.length xs) (hc : xs.length ≤ c) (hs : Kd.C kY w B ys.length ys) (hd : ys.length ≤ d) (hl : xs.length ≤ 1099511627776) (hly : ys.length ≤ 1099511627775)
  (hab : 0 ≤ a ∧ a ≤ 1152921504606846976 ∧ 0 ≤ b ∧ b ≤ 1152921504606846976) :
  Calls Try.prog 23 #[.agg #[.slice A xs.length c, .slice B ys.length d], .int .i64 a, .int .i64 b, .int .i64 m] w (RetMk (takeW a b xs) (lastY a m (normY (ys.map (mvY (toW a b))))) w) := by
 have HR := Lib.hid hr
 have HS := Lib.hid hs
 have HAB := Lib.hid hab
 clear hr hs hab
 go_enter Try.func23, Try.ntmps23
 go_upto_region 1 with fail
 obtain ⟨L0, hL0⟩ : ∃ L : List (Nat × Array Value × TypeId), L = [(w.heap.size, #[.slice A xs.length c, .slice B ys.length d], 28), (w.heap.size + 1, #[.int .i64 a], 3), (w.heap.size + 2, #[.int .i64 b], 3), (w.heap.size + 3, #[.slice none 0 0, .slice none 0 0], 28)] := ⟨_, rfl⟩
 refine gen2 (φ := fun W => Code.wp _ _ _ _ W) (P := fun W => KZ w L0 (.slice none 0 0) [] W) ?hP0 ?_
 case hP0 =>
  rw [hL0]
  refine ⟨below_alloc (below_alloc (below_alloc (below_alloc (Below.refl _ _) _) _) _) _, fun z hz => ?_, Kd.R_nil _ _ _ _ _⟩
  have e1 := blk_new w (.cells #[.slice A xs.length c, .slice B ys.length d] 28)
  have e2 := blk_newM (w := w.alloc (.cells #[.slice A xs.length c, .slice B ys.length d] 28)) (o := .cells #[.int .i64 a] 3) (g := w.heap.size + 1) (by simp)
  have e3 := blk_newM (w := (w.alloc (.cells #[.slice A xs.length c, .slice B ys.length d] 28)).alloc (.cells #[.int .i64 a] 3)) (o := .cells #[.int .i64 b] 3) (g := w.heap.size + 2) (by simp)
  have e4 := blk_newM (w := ((w.alloc (.cells #[.slice A xs.length c, .slice B ys.length d] 28)).alloc (.cells #[.int .i64 a] 3)).alloc (.cells #[.int .i64 b] 3)) (o := .cells #[.slice none 0 0, .slice none 0 0] 28) (g := w.heap.size + 3) (by simp)
  simp only [List.mem_cons, List.not_mem_nil, or_false] at hz
  rcases hz with rfl | rfl | rfl | rfl
  ·exact ⟨blk_alloc (blk_alloc (blk_alloc e1 _) _) _, by simp [Value.ownBlock]⟩
  ·exact ⟨blk_alloc (blk_alloc e2 _) _, by simp [Value.ownBlock]⟩
  ·exact ⟨blk_alloc e3 _, by simp [Value.ownBlock]⟩
  ·exact ⟨e4, by simp [Value.ownBlock]⟩
 rintro V0 hV0
 have Z0 := Lib.hid hV0
 have M4 : Hid ((w.heap.size, (#[.slice A xs.length c, .slice B ys.length d] : Array Value), 28) ∈ L0) := Lib.hid (by rw [hL0]; simp)
 have M5 : Hid ((w.heap.size + 1, (#[.int .i64 a] : Array Value), 3) ∈ L0) := Lib.hid (by rw [hL0]; simp)
 have M6 : Hid ((w.heap.size + 2, (#[.int .i64 b] : Array Value), 3) ∈ L0) := Lib.hid (by rw [hL0]; simp)
 have M8 : Hid ((w.heap.size + 3, (#[.slice none 0 0, .slice none 0 0] : Array Value), 28) ∈ L0) := Lib.hid (by rw [hL0]; simp)
 clear hV0 hL0
 have x4 := (blk_cell (Z0.out.blk _ M4.out).1 0).trans rfl
 go_wp2
 clear x4
 go_loopw [21, 10] (fun s21 s10 wr => ∃ (kk : Nat) (v : Value), kk ≤ xs.length ∧ s21 = .int .i64 (kk : Int) ∧ v = s10 ∧ Hid (KZ w L0 v (takeW a b (xs.take kk)) wr)) (fun s21 _ _ => xs.length - cntM s21)
 case atStart => exact ⟨0, _, Nat.zero_le _, rfl, rfl, Z0⟩
 case round =>
  obtain ⟨kk, v, hkk, rfl, ev, ZW⟩ := hrel
  subst ev
  have LO : Hid ((takeW a b (xs.take kk)).length ≤ 1099511627776) := Lib.hid (by have h := takeW_len a b (xs.take kk); rw [List.length_take] at h; omega)
  by_cases hlt : kk < xs.length
  ·have d1 : decide ((kk : Int) < (xs.length : Int)) = true := by simp; omega
   have b1 : (0 : Int) ≤ (kk : Int) := by omega
   have b2 : (kk : Int) < (xs.length : Int) := by omega
   have w1_ : IntKind.i64.wrap ((kk : Int) + 1) = (kk : Int) + 1 := IntWalk.i64_in _ (by omega)
   obtain ⟨x, hx⟩ : ∃ x, xs[kk]? = some x := ⟨_, List.getElem?_eq_getElem hlt⟩
   obtain ⟨ad, e0, y0, y1, y2⟩ := at_S (Kd.C_below HR.out ZW.out.b) hx hlt
   subst e0
   have PT := Lib.hid (takeW_take (a := a) (b := b) hx)
   clear hx
   generalize takeW a b (xs.take kk) = o at ZW LO PT
   go_upto_region 6 with (first | ((with_reducible refine gate_dst (N := 12) rfl ?_); refine box_event ?hg (N := 12) ?hd (cs := #[.int .i64 0, .int .i64 0, .int .i64 0]) (t := 26) ?hr ?_; (case hd => rfl); (case hg => rfl); (case hr => first | (go_simp; done) | (go_simp; rfl)); intro gB hgB wB hxB hbB; have GB := Lib.hid (show TBm 26 wr gB #[.int .i64 0, .int .i64 0, .int .i64 0] wB from ⟨hbB, by rw [hgB]; exact Nat.le_refl _, hxB⟩); have q0 := (blk_cell hxB 0).trans rfl; have q1 := (blk_cell hxB 1).trans rfl; have q2 := (blk_cell hxB 2).trans rfl; have z0 := blk_frozen hxB 0; have z1 := blk_frozen hxB 1; have z2 := blk_frozen hxB 2; clear hgB hxB hbB))
   refine gen2 (φ := fun W => Code.wp _ _ _ _ W) (P := fun W => TBm 26 wr gB #[.int .i64 x.f0, .int .i64 x.f1, .int .i64 x.f2] W) (((GB.out.set 0 (.int .i64 x.f0)).set 1 (.int .i64 x.f1)).set 2 (.int .i64 x.f2)) ?_
   clear q0 q1 q2 z0 z1 z2 GB y0 y1 y2
   rintro V3 hV3
   obtain ⟨L2, hL2⟩ : ∃ L2, L2 = (gB, (#[.int .i64 x.f0, .int .i64 x.f1, .int .i64 x.f2] : Array Value), 26) :: L0 := ⟨_, rfl⟩
   have Z3 : Hid (KZ w L2 v o V3) := Lib.hid (by rw [hL2]; exact ZW.out.push hV3.b hV3.lo hV3.hx)
   have IN : Hid (∀ z ∈ L0, z ∈ L2) := Lib.hid (fun z hz => by rw [hL2]; exact List.mem_cons_of_mem _ hz)
   have I0 : Hid ((gB, (#[.int .i64 x.f0, .int .i64 x.f1, .int .i64 x.f2] : Array Value), 26) ∈ L2) := Lib.hid (by rw [hL2]; exact List.mem_cons_self)
   have BK : Hid (∀ (v' : Value) (o' : List Sp) (W : World), KZ w L2 v' o' W → KZ w L0 v' o' W) := Lib.hid (fun v' o' W h => by rw [hL2] at h; exact h.tail)
   clear hV3 hL2 ZW
   obtain ⟨t1, ht1⟩ : ∃ t, t = toW a b x.f1 := ⟨_, rfl⟩
   obtain ⟨t2, ht2⟩ : ∃ t, t = toW a b x.f2 := ⟨_, rfl⟩
   have T1 := Lib.hid ht1
   have T2 := Lib.hid ht2
   rw [← ht1, ← ht2] at PT
   clear ht1 ht2
   refine wp_region_noPanic ?_
   refine wp_region_held_drew (S := (fun w' => S3 gB x w')) ?hm_a ?hS_a (fun hHeld => ?_)
   case hm_a => kernel_rfl
   case hS_a => exact S3.of ((Z3.out.next (by with_reducible repeat (first | exact Below.refl _ _ | apply pw_below_drewN | apply Below.drew))).blk _ I0.out).1
   refine wpAnyH_take (i := 0) (oi := ?oa0) (v := ?va0) ?hi_a0 ?k1_a0 ?k2_a0 ?k3_a0 (fun _ _ _ h => h) (Or.inl ⟨?g_a0, ?y_a0⟩) (by assumption) ?r_a0
   case hi_a0 => (simp only [List.getElem?_toArray, List.getElem?_cons_succ, List.getElem?_cons_zero]; rfl)
   case k1_a0 => kernel_rfl
   case k2_a0 => kernel_rfl
   case k3_a0 => kernel_rfl
   case g_a0 => rfl
   case y_a0 => (intro w hSw; (try dsimp only at hSw); first | (go_simp; done) | (go_simp; with_reducible rfl))
   (try simp only [Act.put, List.setIfInBounds_toArray, List.set_cons_zero, List.set_cons_succ])
   refine wpAnyH_take (i := 1) (oi := ?oa1) (v := ?va1) ?hi_a1 ?k1_a1 ?k2_a1 ?k3_a1 (fun _ _ _ h => h) (Or.inl ⟨?g_a1, ?y_a1⟩) (by assumption) ?r_a1
   case hi_a1 => (simp only [List.getElem?_toArray, List.getElem?_cons_succ, List.getElem?_cons_zero]; rfl)
   case k1_a1 => kernel_rfl
   case k2_a1 => kernel_rfl
   case k3_a1 => kernel_rfl
   case g_a1 => rfl
   case y_a1 => (intro w hSw; (try dsimp only at hSw); first | (go_simp; done) | (go_simp; with_reducible rfl))
   (try simp only [Act.put, List.setIfInBounds_toArray, List.set_cons_zero, List.set_cons_succ])
   refine wpAnyH_take (i := 2) (oi := ?oa2) (v := ?va2) ?hi_a2 ?k1_a2 ?k2_a2 ?k3_a2 (fun _ _ _ h => h) (Or.inl ⟨?g_a2, ?y_a2⟩) (by assumption) ?r_a2
   case hi_a2 => (simp only [List.getElem?_toArray, List.getElem?_cons_succ, List.getElem?_cons_zero]; rfl)
   case k1_a2 => kernel_rfl
   case k2_a2 => kernel_rfl
   case k3_a2 => kernel_rfl
   case g_a2 => rfl
   case y_a2 => (intro w hSw; (try dsimp only at hSw); first | (go_simp; done) | (go_simp; with_reducible rfl))
   (try simp only [Act.put, List.setIfInBounds_toArray, List.set_cons_zero, List.set_cons_succ])
   refine wpAnyH_take (i := 3) (oi := ?oa3) (v := ?va3) ?hi_a3 ?k1_a3 ?k2_a3 ?k3_a3 (fun _ _ _ h => h) (Or.inl ⟨?g_a3, ?y_a3⟩) (by assumption) ?r_a3
   case hi_a3 => (simp only [List.getElem?_toArray, List.getElem?_cons_succ, List.getElem?_cons_zero]; rfl)
   case k1_a3 => kernel_rfl
   case k2_a3 => kernel_rfl
   case k3_a3 => kernel_rfl
   case g_a3 => rfl
   case y_a3 => (intro w hSw; (try dsimp only at hSw); first | (go_simp; done) | (go_simp; with_reducible rfl))
   (try simp only [Act.put, List.setIfInBounds_toArray, List.set_cons_zero, List.set_cons_succ])
   refine wpAnyH_take (i := 4) (oi := ?oa4) (v := ?va4) ?hi_a4 ?k1_a4 ?k2_a4 ?k3_a4 (fun _ _ _ h => h) (Or.inl ⟨?g_a4, ?y_a4⟩) (by assumption) ?r_a4
   case hi_a4 => (simp only [List.getElem?_toArray, List.getElem?_cons_succ, List.getElem?_cons_zero]; rfl)
   case k1_a4 => kernel_rfl
   case k2_a4 => kernel_rfl
   case k3_a4 => kernel_rfl
   case g_a4 => rfl
   case y_a4 => (intro w hSw; (try dsimp only at hSw); first | (go_simp; done) | (go_simp; with_reducible rfl))
   (try simp only [Act.put, List.setIfInBounds_toArray, List.set_cons_zero, List.set_cons_succ])
   refine wpAnyH_take (i := 5) (oi := ?oa5) (v := ?va5) ?hi_a5 ?k1_a5 ?k2_a5 ?k3_a5 (fun _ _ _ h => h) (Or.inl ⟨?g_a5, ?y_a5⟩) (by assumption) ?r_a5
   case hi_a5 => (simp only [List.getElem?_toArray, List.getElem?_cons_succ, List.getElem?_cons_zero]; rfl)
   case k1_a5 => kernel_rfl
   case k2_a5 => kernel_rfl
   case k3_a5 => kernel_rfl
   case g_a5 => rfl
   case y_a5 => (intro w hSw; (try dsimp only at hSw); first | (go_simp; done) | (go_simp; with_reducible rfl))
   (try simp only [Act.put, List.setIfInBounds_toArray, List.set_cons_zero, List.set_cons_succ])
   refine wpAnyH_take (i := 7) (oi := ?oa7) (v := ?va7) ?hi_a7 ?k1_a7 ?k2_a7 ?k3_a7 (fun _ _ _ h => h) (Or.inl ⟨?g_a7, ?y_a7⟩) (by assumption) ?r_a7
   case hi_a7 => (simp only [List.getElem?_toArray, List.getElem?_cons_succ, List.getElem?_cons_zero]; rfl)
   case k1_a7 => kernel_rfl
   case k2_a7 => kernel_rfl
   case k3_a7 => kernel_rfl
   case g_a7 => rfl
   case y_a7 => (intro w hSw; (try dsimp only at hSw); first | (go_simp; done) | (go_simp; with_reducible rfl))
   (try simp only [Act.put, List.setIfInBounds_toArray, List.set_cons_zero, List.set_cons_succ])
   refine wpAnyH_take (i := 8) (oi := ?oa8) (v := ?va8) ?hi_a8 ?k1_a8 ?k2_a8 ?k3_a8 (fun _ _ _ h => h) (Or.inl ⟨?g_a8, ?y_a8⟩) (by assumption) ?r_a8
   case hi_a8 => (simp only [List.getElem?_toArray, List.getElem?_cons_succ, List.getElem?_cons_zero]; rfl)
   case k1_a8 => kernel_rfl
   case k2_a8 => kernel_rfl
   case k3_a8 => kernel_rfl
   case g_a8 => rfl
   case y_a8 => (intro w hSw; (try dsimp only at hSw); first | (go_simp; done) | (go_simp; with_reducible rfl))
   (try simp only [Act.put, List.setIfInBounds_toArray, List.set_cons_zero, List.set_cons_succ])
   refine wpAnyH_take (i := 9) (oi := ?oa9) (v := ?va9) ?hi_a9 ?k1_a9 ?k2_a9 ?k3_a9 (fun _ _ _ h => h) (Or.inl ⟨?g_a9, ?y_a9⟩) (by assumption) ?r_a9
   case hi_a9 => (simp only [List.getElem?_toArray, List.getElem?_cons_succ, List.getElem?_cons_zero]; rfl)
   case k1_a9 => kernel_rfl
   case k2_a9 => kernel_rfl
   case k3_a9 => kernel_rfl
   case g_a9 => rfl
   case y_a9 => (intro w hSw; (try dsimp only at hSw); first | (go_simp; done) | (go_simp; with_reducible rfl))
   (try simp only [Act.put, List.setIfInBounds_toArray, List.set_cons_zero, List.set_cons_succ])
   refine wpAnyH_ready (rs := [6]) ?k1_a6 (by simp) ?r_a6
   case k1_a6 => kernel_rfl
   refine AllReadyH.cons (o := ?oa6) ?hi_a6 (fun K hK => ?s_a6) ?m_a6
   case hi_a6 => (simp only [List.getElem?_toArray, List.getElem?_cons_succ, List.getElem?_cons_zero]; rfl)
   case m_a6 => exact AllReadyH.nil
   go_simp
   (go_at_call 38; (refine (take1_calls a b x.f1 (w.heap.size + 2) (w.heap.size + 1) _ ?c1a ?c1b HAB.out).mono ?_); (case c1a => exact (blk_cell ((Z3.out.next (by with_reducible repeat (first | exact Below.refl _ _ | apply pw_below_drewN | apply Below.drew))).blk _ (IN.out _ M6.out)).1 0).trans rfl); (case c1b => exact (blk_cell ((Z3.out.next (by with_reducible repeat (first | exact Below.refl _ _ | apply pw_below_drewN | apply Below.drew))).blk _ (IN.out _ M5.out)).1 0).trans rfl); rw [← T1.out]; rintro e w5 ⟨rfl, hb5⟩; have ZA := Lib.hid ((Z3.out.next (by with_reducible repeat (first | exact Below.refl _ _ | apply pw_below_drewN | apply Below.drew))).next hb5); clear hb5)
   (try go_wp2_with fail)
   refine hK.out _ _ (S3.of (ZA.out.blk _ I0.out).1) (fun hHeld => ?_)
   clear hK K
   (try simp only [Act.put, List.setIfInBounds_toArray, List.set_cons_zero, List.set_cons_succ])
   refine wpAnyH_ready (rs := [10]) ?k1_a10 (by simp) ?r_a10
   case k1_a10 => kernel_rfl
   refine AllReadyH.cons (o := ?oa10) ?hi_a10 (fun K hK => ?s_a10) ?m_a10
   case hi_a10 => (simp only [List.getElem?_toArray, List.getElem?_cons_succ, List.getElem?_cons_zero]; rfl)
   case m_a10 => exact AllReadyH.nil
   go_simp
   (go_at_call 38; (refine (take1_calls a b x.f2 (w.heap.size + 2) (w.heap.size + 1) _ ?c2a ?c2b HAB.out).mono ?_); (case c2a => exact (blk_cell (ZA.out.blk _ (IN.out _ M6.out)).1 0).trans rfl); (case c2b => exact (blk_cell (ZA.out.blk _ (IN.out _ M5.out)).1 0).trans rfl); rw [← T2.out]; rintro e w6 ⟨rfl, hb6⟩; have ZB := Lib.hid (ZA.out.next hb6); clear hb6)
   (try go_wp2_with fail)
   refine hK.out _ _ (S3.of (ZB.out.blk _ I0.out).1) (fun hHeld => ?_)
   clear hK K
   (try simp only [Act.put, List.setIfInBounds_toArray, List.set_cons_zero, List.set_cons_succ])
   refine wpAnyH_take (i := 11) (oi := ?oa11) (v := ?va11) ?hi_a11 ?k1_a11 ?k2_a11 ?k3_a11 (fun _ _ _ h => h) (Or.inl ⟨?g_a11, ?y_a11⟩) (by assumption) ?r_a11
   case hi_a11 => (simp only [List.getElem?_toArray, List.getElem?_cons_succ, List.getElem?_cons_zero]; rfl)
   case k1_a11 => kernel_rfl
   case k2_a11 => kernel_rfl
   case k3_a11 => kernel_rfl
   case g_a11 => rfl
   case y_a11 => (intro w hSw; (try dsimp only at hSw); first | (go_simp; done) | (go_simp; with_reducible rfl))
   (try simp only [Act.put, List.setIfInBounds_toArray, List.set_cons_zero, List.set_cons_succ])
   refine wpAnyH_ready (rs := [12]) ?k1_a12 (by simp) ?r_a12
   case k1_a12 => kernel_rfl
   refine AllReadyH.cons (o := ?oa12) ?hi_a12 (fun K hK => ?s_a12) ?m_a12
   case hi_a12 => (simp only [List.getElem?_toArray, List.getElem?_cons_succ, List.getElem?_cons_zero]; rfl)
   case m_a12 => exact AllReadyH.nil
   go_simp
   (go_at_call 32; (refine (add_calls v o ⟨x.f0, t1, t2⟩ w _ ZB.out.b ZB.out.row ?c3a).mono ?_); (case c3a => have := LO.out; omega); rintro e w7 ha7; obtain ⟨v7, rfl, z9⟩ := ZB.out.add ha7; clear ha7)
   (try go_wp2_with fail)
   refine hK.out _ _ (S3.of (z9.blk _ I0.out).1) (fun hHeld => ?_)
   clear hK K
   (try simp only [Act.put, List.setIfInBounds_toArray, List.set_cons_zero, List.set_cons_succ])
   refine wpAnyH_take (i := 13) (oi := ?oa13) (v := ?va13) ?hi_a13 ?k1_a13 ?k2_a13 ?k3_a13 (fun _ _ _ h => h) (Or.inl ⟨?g_a13, ?y_a13⟩) (by assumption) ?r_a13
   case hi_a13 => (simp only [List.getElem?_toArray, List.getElem?_cons_succ, List.getElem?_cons_zero]; rfl)
   case k1_a13 => kernel_rfl
   case k2_a13 => kernel_rfl
   case k3_a13 => kernel_rfl
   case g_a13 => rfl
   case y_a13 => (intro w hSw; (try dsimp only at hSw); first | (go_simp; done) | (go_simp; with_reducible rfl))
   (try simp only [Act.put, List.setIfInBounds_toArray, List.set_cons_zero, List.set_cons_succ])
   refine wpAnyH_done (by kernel_rfl) ?_ _
   refine NoPanic.normal ?_
   have Z9 := Lib.hid (BK.out _ _ _ z9)
   clear z9 ZA ZB Z3
   go_wp2
   go_roundw
   case rel => exact ⟨kk + 1, _, by omega, by go_num, rfl, by rw [PT.out]; exact Z9⟩
   case measure =>
    simp only [cntM]
    omega
  ·have d1 : decide ((kk : Int) < (xs.length : Int)) = false := by simp; omega
   obtain rfl : kk = xs.length := by omega
   rw [List.take_length] at ZW LO
   clear Z0
   obtain ⟨pl, hpl⟩ : ∃ l, l = takeW a b xs := ⟨_, rfl⟩
   obtain ⟨nz, hnz⟩ : ∃ l, l = normY (ys.map (mvY (toW a b))) := ⟨_, rfl⟩
   have HPL := Lib.hid hpl
   have HNZ := Lib.hid hnz
   have NS : Hid (nz.Pairwise siteLt) := Lib.hid (by rw [hnz]; exact (normY_ok _).1)
   have LN : Hid (nz.length ≤ 1099511627775) := Lib.hid (by have h := normY_len (ys.map (mvY (toW a b))); rw [List.length_map] at h; rw [hnz]; omega)
   rw [← hpl] at ZW LO
   clear hpl hnz
   obtain ⟨Av, cv, ev⟩ := Kd.R_slice ZW.out.row
   subst ev
   have x4 := (blk_cell (ZW.out.blk _ M4.out).1 1).trans rfl
   go_upto_region 9 with (first | (go_at_call 36; refine (moved_calls B d ys 38 #[.pointer (some ⟨w.heap.size + 2, 0, none⟩), .pointer (some ⟨w.heap.size + 1, 0, none⟩)] (toW a b) _ eg_take1 (fun W p hb => take1_calls a b p _ _ W (pw_cell_below hb ((blk_cell (ZW.out.blk _ M6.out).1 0).trans rfl)) (pw_cell_below hb ((blk_cell (ZW.out.blk _ M5.out).1 0).trans rfl)) HAB.out) (Kd.C_below HS.out ZW.out.b) hd (by omega)).mono ?_; rw [← HNZ.out]; rintro e w8 ⟨v8, rfl, hr8, hb8⟩; have Z8 := Lib.hid (ZW.out.next hb8); have R8 := Lib.hid (Kd.R_lower hr8 ZW.out.b.size); obtain ⟨A8, c8, e8⟩ := Kd.R_slice R8.out; subst e8; clear hr8 hb8) | ((with_reducible refine gate_dst (N := 13) rfl ?_); refine box_event ?hg (N := 13) ?hd (cs := #[.slice none 0 0, .slice none 0 0]) (t := 28) ?hr ?_; (case hd => rfl); (case hg => rfl); (case hr => first | (go_simp; done) | (go_simp; rfl)); intro gG hgG wG hxG hbG; have GG := Lib.hid (show TBm 28 w8 gG #[.slice none 0 0, .slice none 0 0] wG from ⟨hbG, by rw [hgG]; exact Nat.le_refl _, hxG⟩); have q0 := (blk_cell hxG 0).trans rfl; have q1 := (blk_cell hxG 1).trans rfl; have z0 := blk_frozen hxG 0; have z1 := blk_frozen hxG 1; clear hgG hxG hbG))
   have hpn : pl.length = pl.length := rfl
   refine gen2 (φ := fun W => Code.wp _ _ _ _ W) (P := fun W => TZ w (w.heap.size + 1) (w.heap.size + 3) gG a (.slice Av pl.length cv) pl (.slice A8 nz.length c8) nz W) ?hT ?_
   case hT =>
    have n1 : w.heap.size + 3 ≠ gG := by have := blk_lt (Z8.out.blk _ M8.out).1; have := GG.out.lo; omega
    have b1 := GG.out.b
    have e13 := GG.out.hx
    have k5 : wG.heap[w.heap.size + 1]? = some (.cells #[.int .i64 a] 3 (0, 0)) := blk_below (Z8.out.blk _ M5.out).1 b1
    have k8 : wG.heap[w.heap.size + 3]? = some (.cells #[.slice none 0 0, .slice none 0 0] 28 (0, 0)) := blk_below (Z8.out.blk _ M8.out).1 b1
    have l1 := Nat.le_trans Z8.out.b.size GG.out.lo
    have k5a := (set_typeM e13 (t := 3) (by decide) 0 (.slice Av pl.length cv) _ _ k5).trans k5
    exact ⟨below_set (below_set (below_step Z8.out.b b1) l1) l1, (set_typeM (blk_set e13 0 (.slice Av pl.length cv)) (t := 3) (by decide) 1 _ _ _ k5a).trans k5a,
     (Below.heap_setCell _ ⟨gG, 1, none⟩ _ _ n1).trans ((Below.heap_setCell _ ⟨gG, 0, none⟩ _ _ n1).trans k8), by simpa using blk_set (blk_set e13 0 (.slice Av pl.length cv)) 1 (.slice A8 nz.length c8), by omega, l1, n1,
     R_moveT rfl (R_moveT rfl (Kd.R_below Z8.out.row b1) (set_typeM e13 (by decide) 0 _)) (set_typeM (blk_set e13 0 _) (by decide) 1 _), R_moveT rfl (R_moveT rfl (Kd.R_below R8.out b1) (set_typeM e13 (by decide) 0 _)) (set_typeM (blk_set e13 0 _) (by decide) 1 _)⟩
   rintro W9 hW9
   have ZT := Lib.hid hW9
   clear hW9 q0 q1 z0 z1 GG Z8 R8 x4 hpn M4 M5 M6 M8 ZW
   by_cases hm : m > 0
   ·have dm : decide (0 < m) = true := by simpa using hm
    have EL := Lib.hid (show lastY a m nz = siteL nz ⟨m, a⟩ by unfold lastY; rw [if_pos hm])
    clear hm
    have x5 := (blk_cell ZT.out.h5 0).trans rfl
    go_upto_region 11 with (first | ((with_reducible refine gate_dst (N := 14) rfl ?_); refine box_event ?hg (N := 14) ?hd (cs := #[.int .i64 0, .int .i64 0]) (t := 38) ?hr ?_; (case hd => rfl); (case hg => rfl); (case hr => first | (go_simp; done) | (go_simp; rfl)); intro gS hgS wS hxS hbS; have GS := Lib.hid (show TBm 38 W9 gS #[.int .i64 0, .int .i64 0] wS from ⟨hbS, by rw [hgS]; exact Nat.le_refl _, hxS⟩); have q0 := (blk_cell hxS 0).trans rfl; have q1 := (blk_cell hxS 1).trans rfl; have z0 := blk_frozen hxS 0; have z1 := blk_frozen hxS 1; clear hgS hxS hbS))
    refine gen2 (φ := fun W => Code.wp _ _ _ _ W) (P := fun W => TBm 38 W9 gS #[.int .i64 m, .int .i64 a] W) ((GS.out.set 0 (.int .i64 m)).set 1 (.int .i64 a)) ?_
    clear q0 q1 z0 z1 GS x5
    rintro W10 hW10
    have ZU := Lib.hid (ZT.out.next hW10.b)
    have X14 := Lib.hid hW10.hx
    clear hW10 ZT
    have t1 := (blk_cell ZU.out.h13 1).trans rfl
    have s0 := (blk_cell X14.out 0).trans rfl
    have s1 := (blk_cell X14.out 1).trans rfl
    go_wp2_with fail
    (go_at_call 39; refine (search_calls A8 c8 nz ⟨m, a⟩ _ (Kd.R_reads' ZU.out.ry).2.2 (Kd.R_reads' ZU.out.ry).2.1 NS.out (by have := LN.out; omega)).mono ?_; rintro e w11 ⟨i, there, rfl, hi, hpl, hfd, hb11⟩)
    have ZX := Lib.hid (ZU.out.next hb11)
    have X15 := Lib.hid (blk_below X14.out hb11)
    have SP := Lib.hid (siteL_placed NS.out hpl)
    have HI := Lib.hid hi
    clear hpl hb11 hi t1 s0 s1 ZU X14
    cases there with
    | true =>
     have ES : Hid (lastY a m nz = nz) := Lib.hid (by rw [EL.out]; exact SP.out.1 (hfd.1 rfl))
     clear hfd
     have t0 := (blk_cell ZX.out.h13 0).trans rfl
     have t1 := (blk_cell ZX.out.h13 1).trans rfl
     have r0 := (blk_cell ZX.out.h8 0).trans rfl
     have r1 := (blk_cell ZX.out.h8 1).trans rfl
     have z0 := blk_frozen ZX.out.h8 0
     have z1 := blk_frozen ZX.out.h8 1
     go_wp2
     refine bodyPost_ret (results_cell_row rfl _ _ (w.heap.size + 3) 28 #[.slice Av pl.length cv, .slice A8 (nz).length c8] (0, 0) _ rfl (by simpa using blk_set (blk_set ZX.out.h8 0 (.slice Av pl.length cv)) 1 (.slice A8 (nz).length c8)) Try.underlying28 rfl (by kernel_rfl)) rfl ?_
     rw [← HPL.out, ← HNZ.out, ES.out]
     exact ⟨Av, cv, A8, c8, rfl, R_moveT rfl (R_moveT rfl ZX.out.row (set_typeM ZX.out.h8 (by decide) 0 _)) (set_typeM (blk_set ZX.out.h8 0 _) (by decide) 1 _), R_moveT rfl (R_moveT rfl ZX.out.ry (set_typeM ZX.out.h8 (by decide) 0 _)) (set_typeM (blk_set ZX.out.h8 0 _) (by decide) 1 _), below_set (below_set ZX.out.b ZX.out.lo8) ZX.out.lo8⟩
    | false =>
     have ES : Hid (lastY a m nz = nz.take i ++ (⟨m, a⟩ : SY) :: nz.drop i) := Lib.hid (by rw [EL.out]; exact SP.out.2 (fun k => by have := hfd.2 k; cases this))
     clear hfd
     have t1 := (blk_cell ZX.out.h13 1).trans rfl
     have s0 := (blk_cell X15.out 0).trans rfl
     have s1 := (blk_cell X15.out 1).trans rfl
     go_wp2_with fail
     (go_at_call 40; refine (insert_calls (.slice A8 nz.length c8) nz i ⟨m, a⟩ w11.heap.size w (w11.alloc (.cells #[.int .i64 m, .int .i64 a] 38)) (Kd.R_below ZX.out.ry (below_alloc (Below.refl _ _) _)) (below_alloc ZX.out.b _) HI.out (blk_new w11 _) (fun e => Nat.lt_irrefl _ (own_ltY ZX.out.ry _ e.symm)) (by have := LN.out; omega)).mono ?_; rintro e w12 ha12)
     rw [← ES.out] at ha12
     have ZXa := Lib.hid (ZX.out.next (below_alloc (Below.refl _ _) (.cells #[.int .i64 m, .int .i64 a] 38)))
     obtain ⟨A9, c9, rfl, e13, zx9⟩ := ZXa.out.ins ha12
     have g1 := blk_frozen e13 1
     have t1 := (blk_cell e13 1).trans rfl
     have Z12 := Lib.hid zx9
     have LZ : Hid ((lastY a m nz).length = (lastY a m nz).length) := Lib.hid rfl
     clear ha12 ZXa zx9 s0 s1
     go_upto_region 14 with fail
     refine gen2 (φ := fun W => Code.wp _ _ _ _ W) (P := fun W => TZ w (w.heap.size + 1) (w.heap.size + 3) gG a (.slice Av pl.length cv) pl (.slice A9 (lastY a m nz).length c9) (lastY a m nz) W) Z12.out ?_
     rintro W13 hW13
     clear ZX Z12 g1 t1 e13
     have ZX := Lib.hid hW13
     clear hW13
     have t0 := (blk_cell ZX.out.h13 0).trans rfl
     have t1 := (blk_cell ZX.out.h13 1).trans rfl
     have r0 := (blk_cell ZX.out.h8 0).trans rfl
     have r1 := (blk_cell ZX.out.h8 1).trans rfl
     have z0 := blk_frozen ZX.out.h8 0
     have z1 := blk_frozen ZX.out.h8 1
     go_wp2
     refine bodyPost_ret (results_cell_row rfl _ _ (w.heap.size + 3) 28 #[.slice Av pl.length cv, .slice A9 (lastY a m nz).length c9] (0, 0) _ rfl (by simpa using blk_set (blk_set ZX.out.h8 0 (.slice Av pl.length cv)) 1 (.slice A9 (lastY a m nz).length c9)) Try.underlying28 rfl (by kernel_rfl)) rfl ?_
     rw [← HPL.out, ← HNZ.out]
     exact ⟨Av, cv, A9, c9, rfl, R_moveT rfl (R_moveT rfl ZX.out.row (set_typeM ZX.out.h8 (by decide) 0 _)) (set_typeM (blk_set ZX.out.h8 0 _) (by decide) 1 _), R_moveT rfl (R_moveT rfl ZX.out.ry (set_typeM ZX.out.h8 (by decide) 0 _)) (set_typeM (blk_set ZX.out.h8 0 _) (by decide) 1 _), below_set (below_set ZX.out.b ZX.out.lo8) ZX.out.lo8⟩
   ·have dm : decide (0 < m) = false := by simpa using hm
    have ES := Lib.hid (show lastY a m nz = nz by unfold lastY; rw [if_neg hm])
    clear hm
    have ZX := ZT
    clear ZT
    have t0 := (blk_cell ZX.out.h13 0).trans rfl
    have t1 := (blk_cell ZX.out.h13 1).trans rfl
    have r0 := (blk_cell ZX.out.h8 0).trans rfl
    have r1 := (blk_cell ZX.out.h8 1).trans rfl
    have z0 := blk_frozen ZX.out.h8 0
    have z1 := blk_frozen ZX.out.h8 1
    go_wp2
    refine bodyPost_ret (results_cell_row rfl _ _ (w.heap.size + 3) 28 #[.slice Av pl.length cv, .slice A8 (nz).length c8] (0, 0) _ rfl (by simpa using blk_set (blk_set ZX.out.h8 0 (.slice Av pl.length cv)) 1 (.slice A8 (nz).length c8)) Try.underlying28 rfl (by kernel_rfl)) rfl ?_
    rw [← HPL.out, ← HNZ.out, ES.out]
    exact ⟨Av, cv, A8, c8, rfl, R_moveT rfl (R_moveT rfl ZX.out.row (set_typeM ZX.out.h8 (by decide) 0 _)) (set_typeM (blk_set ZX.out.h8 0 _) (by decide) 1 _), R_moveT rfl (R_moveT rfl ZX.out.ry (set_typeM ZX.out.h8 (by decide) 0 _)) (set_typeM (blk_set ZX.out.h8 0 _) (by decide) 1 _), below_set (below_set ZX.out.b ZX.out.lo8) ZX.out.lo8⟩
end Go.Proofs.Ytdgjjdpeaohebaa.Mk
/- Marks: the walk of the reference's Take. Conditions: right marks of a text of at most 2^40 letters. -/
namespace Go.Proofs.Ytdgjjdpeaohebaa.Mk
open Go.RowKit Go.Proofs.YtdgjjdpeaohebaaW.PrintWords Go.Proofs.YtdgjjdpeaohebaaW.PrintLast Go.Proofs.YtdgjjdpeaohebaaW.PrintMore Go.Proofs.Ytdgjjdpeaohebaa.PMarksTake Go.Proofs.Ytdgjjdpeaohebaa.Pure
set_option linter.unusedVariables false
set_option linter.unusedSimpArgs false
attribute [local go_sem] max2_int min2_int max_two min_two
set_option maxRecDepth 1000000 in
set_option maxHeartbeats 8000000 in
theorem refTake_calls (A : Option Addr) (c : Nat) (xs : List Sp) (B : Option Addr) (d : Nat) (ys : List SY) (N a b : Nat) (m : Int) (w : World) (hr : Kd.C kSp w A xs.length xs) (hc : xs.length ≤ c) (hs : Kd.C kY w B ys.length ys) (hd : ys.length ≤ d) (hl : xs.length ≤ 1099511627776) (hly : ys.length ≤ 1099511627776)
  (hN : N ≤ 1099511627776) (hab : a ≤ b) (hbN : b ≤ N) (hok : spansOk (N : Int) none xs = true) :
  Calls Try.prog 24 #[.agg #[.slice A xs.length c, .slice B ys.length d], .int .i64 (N : Int), .int .i64 (a : Int), .int .i64 (b : Int), .int .i64 m] w (RetMk (takeL a b xs) (lastY a m (normY (ys.map (mvY (toW a b))))) w) := by
 have HR := Lib.hid hr
 have HS := Lib.hid hs
 obtain ⟨ke, hke⟩ := Go.Proofs.YtdgjjdpeaohebaaW.PrintWords.Ev.rounds (ref_each_ev N (by omega) xs ys (by omega) (fun s hs => by have := ok_each hok s hs; omega))
 obtain ⟨old, hold⟩ : ∃ l, l = (List.range N).map (fun i : Nat => colr 0 xs (i : Int)) := ⟨_, rfl⟩
 rw [← hold] at hke
 have KE := Lib.hid hke
 have LOld : Hid (old.length = N) := Lib.hid (by rw [hold]; simp)
 have PS : Hid (spansFrom [] 0 (old.take a ++ old.drop b) = takeL a b xs) := Lib.hid (by rw [hold]; exact takeL_spans hok hab hbN)
 have LT : Hid ((old.take a ++ old.drop b).length ≤ 3 * 1099511627776) := Lib.hid (by have := LOld.out; simp; omega)
 obtain ⟨ks, hks⟩ := Go.Proofs.YtdgjjdpeaohebaaW.PrintWords.Ev.rounds (ref_spans_ev (old.take a ++ old.drop b) (by have := LT.out; omega))
 rw [PS.out] at hks
 have KS := Lib.hid hks
 obtain ⟨pl, hpl⟩ : ∃ l, l = takeL (a : Int) (b : Int) xs := ⟨_, rfl⟩
 rw [← hpl] at KS ⊢
 clear hr hs hke hks hok hold PS hpl
 go_enter Try.func24, Try.ntmps24
 go_upto_region 1 with fail
 refine gen2 (φ := fun W => Code.wp _ _ _ _ W) (P := fun W => Below w.heap.size w W ∧ W.heap[w.heap.size]? = some (.cells #[.slice A xs.length c, .slice B ys.length d] 30 (0, 0)) ∧ W.heap[w.heap.size + 1]? = some (.cells #[.slice none 0 0, .slice none 0 0] 30 (0, 0))) ⟨below_alloc (below_alloc (Below.refl _ _) _) _, blk_alloc (blk_new w _) _, blk_newM (by simp)⟩ ?_
 rintro V0 ⟨hb0, h50, h100⟩
 have B0 := Lib.hid hb0
 have X5 := Lib.hid h50
 have X10 := Lib.hid h100
 have x0 := (blk_cell h50 0).trans rfl
 have x1 := (blk_cell h50 1).trans rfl
 clear hb0 h50 h100
 go_wp2_with fail
 (go_at_call 33; refine (chancelref04_each.calls ke A c xs B d ys (N : Int) old _ (Kd.C_below HR.out B0.out) hc (Kd.C_below HS.out B0.out) hd KE.out).mono ?_; rintro e w3 ⟨v3, rfl, hr3, hb3⟩)
 obtain ⟨A3, c3, e3, hc3, hC3⟩ := Kd.R_reads hr3
 subst e3
 have B3 := Lib.hid (below_step B0.out hb3)
 have Y5 := Lib.hid (blk_below X5.out hb3)
 have Y10 := Lib.hid (blk_below X10.out hb3)
 have C3 := Lib.hid hC3
 have HC3 := Lib.hid hc3
 have L1 := Lib.hid (show InL w3 (.slice none 0 0) [] w3 from ⟨Below.refl _ _, Kd.R_nil _ _ _ _ _⟩)
 clear hr3 hb3 hC3 hc3 x0 x1 X5 X10 B0 KE
 obtain ⟨i3, hi3, hsz3⟩ := infoI2
 have hcut1 := cut_to (P := Try.prog) 34 3 .i64 Try.underlying34 hi3 A3 old.length c3 (a : Int) (by omega) (by have := LOld.out; omega) HC3.out
 have hcut2 := cut_from (P := Try.prog) 34 3 .i64 Try.underlying34 hi3 1 hsz3 A3 old.length c3 (b : Int) (by omega) (by have := LOld.out; omega)
 rw [Int.toNat_natCast] at hcut1 hcut2
 have hC1 := Lib.hid (Kd.C_take (m := a) C3.out (by have := LOld.out; omega))
 have hC2 : Hid (Kd.C (Kd.int .i64) w3 (if c3 = b then A3 else A3.map (·.add (b * 1))) (old.drop b).length (old.drop b)) := Lib.hid (Kd.C_drop (c := c3) (m := b) C3.out (by have := LOld.out; omega) HC3.out)
 have e1 : (old.take a).length = a := by rw [List.length_take]; have := LOld.out; omega
 have e2 : (old.drop b).length = old.length - b := by rw [List.length_drop]
 rw [← e2] at hcut2
 generalize (if c3 = b then A3 else A3.map (·.add (b * 1))) = A4 at hcut2 hC2
 replace hcut1 : ∀ W : World, (Instr.slice 34 (.slice A3 old.length c3) none (some (.int .i64 (a : Int))) none).run Try.prog W = .ok (.slice A3 (old.take a).length c3) W := by rw [e1]; exact hcut1
 clear e1 e2 hi3 hsz3
 have LA : Hid ((old.take a).length ≤ 1099511627776 ∧ (old.drop b).length ≤ 1099511627776) := Lib.hid (by have := LOld.out; simp; omega)
 generalize hlt : old.take a = la at hcut1 hC1 KS LT LA
 generalize hld : old.drop b = ld at hcut2 hC2 KS LT LA
 clear hlt hld C3 LOld
 go_upto_region 4 with (first | ((with_reducible refine gate_builtin (b := .append) rfl ?_); at_builtin; refine Kd.R_append_rows (Kd.int .i64) w3.heap.size ?hg (.tmp 19) (.tmp 22) 34 3 (.int .i64 0) 8 rfl Try.underlying34 infoI rfl (by decide) (by decide) _ ([] : List Int) la A3 la.length _ (fun _ => True) (fun _ => False) rfl rfl L1.out.row (Kd.C_below hC1.out L1.out.b) (fun x cs h => h) (fun _ h => h.elim) (fun _ _ => trivial) L1.out.b L1.out.b.size (by have := LA.out; have := LT.out; simp at *; omega) ?_; (case hg => rfl); intro v4 w4 ho4 hb4 hg4 hat4; have L2 := Lib.hid (show InL w3 v4 (([] : List Int) ++ la) w4 from ⟨hb4, ho4⟩); clear ho4 hb4 hg4 hat4))
 clear L1 hcut1
 rw [List.nil_append] at L2
 go_upto_region 5 with (first | ((with_reducible refine gate_builtin (b := .append) rfl ?_); at_builtin; refine Kd.R_append_rows (Kd.int .i64) w3.heap.size ?hg (.tmp 24) (.tmp 27) 34 3 (.int .i64 0) 8 rfl Try.underlying34 infoI rfl (by decide) (by decide) _ la ld A4 ld.length _ (fun _ => True) (fun _ => False) rfl rfl L2.out.row (Kd.C_below hC2.out L2.out.b) (fun x cs h => h) (fun _ h => h.elim) (fun _ _ => trivial) L2.out.b L2.out.b.size (by have := LA.out; have := LT.out; simp at *; omega) ?_; (case hg => rfl); intro v5 w5 ho5 hb5 hg5 hat5; have L4 := Lib.hid (show InL w3 v5 (la ++ ld) w5 from ⟨hb5, ho5⟩); clear ho5 hb5 hg5 hat5))
 clear L2 hcut2
 generalize la ++ ld = ll at KS LT L4
 obtain ⟨A5, c5, e5, hc5, hC5⟩ := Kd.R_reads L4.out.row
 subst e5
 have C5 := Lib.hid (And.intro hC5 hc5)
 have B5 := Lib.hid L4.out.b
 clear hC5 hc5 hC1 hC2
 go_upto_region 6 with (first | (go_at_call 34; refine (chancelref04_spans.calls ks A5 c5 ll pl _ C5.out.1 C5.out.2 KS.out).mono ?_; rintro e wq ⟨vq, rfl, hrq, hbq⟩; obtain ⟨Aq, cq, eq⟩ := Kd.R_slice hrq; subst eq; have Rq := Lib.hid hrq; have HBq := Lib.hid hbq; clear hrq hbq) | ((with_reducible refine gate_dst (N := 13) rfl ?_); refine box_event ?hg (N := 13) ?hd (cs := #[.slice none 0 0, .slice none 0 0]) (t := 30) ?hr ?_; (case hd => rfl); (case hg => rfl); (case hr => first | (go_simp; done) | (go_simp; rfl)); intro gG hgG wG hxG hbG; have hgB : wq.heap.size ≤ gG := (by rw [hgG]; exact Nat.le_refl _); have GG := Lib.hid (And.intro hgB (And.intro hxG hbG)); have q0 := (blk_cell hxG 0).trans rfl; have q1 := (blk_cell hxG 1).trans rfl; have z0 := blk_frozen hxG 0; have z1 := blk_frozen hxG 1; clear hgG hxG hbG hgB))
 obtain ⟨fy, hfy⟩ : ∃ f, f = mvY (toW (a : Int) (b : Int)) := ⟨_, rfl⟩
 have HF := Lib.hid hfy
 refine gen2 (φ := fun W => Code.wp _ _ _ _ W) (P := fun W => SiZ wq gG (.slice Aq pl.length cq) (.slice none 0 0) [] W) ⟨below_set (below_set GG.out.2.2 GG.out.1) GG.out.1, GG.out.1, by simpa using blk_set (blk_set GG.out.2.1 0 (.slice Aq pl.length cq)) 1 (.slice none 0 0), Kd.R_nil _ _ _ _ _⟩ ?_
 rintro V1 hV1
 have S1 := Lib.hid hV1
 have D9 := Lib.hid (below_step B5.out HBq.out)
 have BQ := Lib.hid (below_step B3.out D9.out)
 have Q5 := Lib.hid (blk_below Y5.out D9.out)
 have Q10 := Lib.hid (blk_below Y10.out D9.out)
 have RQ := Lib.hid (Kd.R_lower (Kd.R_lower Rq.out B5.out.size) B3.out.size)
 clear hV1 GG hfy q0 q1 z0 z1 L4 C5 KS Rq B5 D9 HBq B3 Y5 Y10 LT LA HC3
 have w4_ : IntKind.i64.wrap ((b : Int) - (a : Int)) = (b : Int) - (a : Int) := IntWalk.i64_in _ (by omega)
 go_wp2
 go_loopw [14] (fun s15 wr => ∃ (kk : Nat) (vy : Value), kk ≤ ys.length ∧ s15 = .int .i64 (kk : Int) ∧ Hid (SiZ wq gG (.slice Aq pl.length cq) vy (normY ((ys.take kk).map fy)) wr)) (fun s15 _ => ys.length - cntM s15)
 case atStart => exact ⟨0, _, Nat.zero_le _, rfl, S1⟩
 case round =>
  obtain ⟨kk, vy, hkk, rfl, ZW⟩ := hrel
  have LO : Hid ((normY ((ys.take kk).map fy)).length ≤ 1099511627776) := Lib.hid (by have h := normY_len ((ys.take kk).map fy); rw [List.length_map, List.length_take] at h; omega)
  by_cases hlt : kk < ys.length
  ·have d1 : decide ((kk : Int) < (ys.length : Int)) = true := by simp; omega
   have b1 : (0 : Int) ≤ (kk : Int) := by omega
   have b2 : (kk : Int) < (ys.length : Int) := by omega
   have w1_ : IntKind.i64.wrap ((kk : Int) + 1) = (kk : Int) + 1 := IntWalk.i64_in _ (by omega)
   obtain ⟨y, hy⟩ : ∃ y, ys[kk]? = some y := ⟨_, List.getElem?_eq_getElem hlt⟩
   have SN : Hid (normY ((ys.take (kk + 1)).map fy) = siteL (normY ((ys.take kk).map fy)) (fy y)) := Lib.hid (by
    obtain ⟨hl', e'⟩ := List.getElem?_eq_some_iff.1 hy
    rw [List.take_succ_eq_append_getElem hl', e', List.map_append]
    unfold normY
    rw [List.foldl_append]
    rfl)
   obtain ⟨ad, e0, y0, y1⟩ := at_Y (Kd.C_below HS.out (below_step BQ.out ZW.out.b)) hy hlt
   subst e0
   have x51 := (blk_cell (blk_below Q5.out ZW.out.b) 1).trans rfl
   clear hy
   generalize normY ((ys.take kk).map fy) = o at ZW SN LO
   go_upto_region 10 with (first | ((with_reducible refine gate_dst (N := 15) rfl ?_); refine box_event ?hg (N := 15) ?hd (cs := #[.int .i64 0, .int .i64 0]) (t := 38) ?hr ?_; (case hd => rfl); (case hg => rfl); (case hr => first | (go_simp; done) | (go_simp; rfl)); intro gS hgS wS hxS hbS; have GS := Lib.hid (show TBm 38 wr gS #[.int .i64 0, .int .i64 0] wS from ⟨hbS, by rw [hgS]; exact Nat.le_refl _, hxS⟩); have q0 := (blk_cell hxS 0).trans rfl; have q1 := (blk_cell hxS 1).trans rfl; have z0 := blk_frozen hxS 0; have z1 := blk_frozen hxS 1; clear hgS hxS hbS))
   refine gen2 (φ := fun W => Code.wp _ _ _ _ W) (P := fun W => TBm 38 wr gS #[.int .i64 y.f0, .int .i64 y.f1] W) ((GS.out.set 0 (.int .i64 y.f0)).set 1 (.int .i64 y.f1)) ?_
   clear q0 q1 z0 z1 GS y0 y1 x51
   rintro V3 hV3
   have T3 := Lib.hid hV3
   have s1 := (blk_cell hV3.hx 1).trans rfl
   have f1 := blk_frozen hV3.hx 1
   clear hV3
   obtain ⟨z, hz⟩ : ∃ z, z = toW (a : Int) (b : Int) y.f1 := ⟨_, rfl⟩
   have FZ : Hid (fy y = ⟨y.f0, z⟩) := Lib.hid (by rw [HF.out, hz]; rfl)
   by_cases hg : y.f1 > (b : Int)
   ·have d' : decide ((b : Int) < y.f1) = true := by simpa using hg
    have ew : IntKind.i64.wrap (y.f1 - ((b : Int) - (a : Int))) = z := by rw [hz]; unfold toW; rw [if_pos hg]
    clear hz
    go_upto_region 14 with fail
    refine gen2 (φ := fun W => Code.wp _ _ _ _ W) (P := fun W => TBm 38 wr gS #[.int .i64 y.f0, .int .i64 z] W) (T3.out.set 1 (.int .i64 z)) ?_
    clear s1 f1 T3 d' hg ew
    rintro V4 hV4
    have Z4 := Lib.hid (ZW.out.next hV4.b)
    have s0 := (blk_cell hV4.hx 0).trans rfl
    have s1 := (blk_cell hV4.hx 1).trans rfl
    have t1 := (blk_cell Z4.out.hx 1).trans rfl
    have g1 := blk_frozen Z4.out.hx 1
    clear hV4 ZW
    go_wp2_with fail
    (go_at_call 35; refine (site_calls vy o ⟨y.f0, z⟩ wq _ Z4.out.b Z4.out.row (by have := LO.out; omega)).mono ?_; rintro e w5 ha5)
    obtain ⟨v5, rfl, b5, hx5, z5⟩ := Z4.out.site ha5
    obtain ⟨A6, c6, e6⟩ := Kd.R_slice z5.row
    subst e6
    have Z5 := Lib.hid z5
    have g1 := blk_frozen hx5 1
    have t1 := (blk_cell hx5 1).trans rfl
    clear ha5 b5 hx5 z5 s0 s1 Z4
    go_upto_region 8 with fail
    refine gen2 (φ := fun W => Code.wp _ _ _ _ W) (P := fun W => SiZ wq gG (.slice Aq pl.length cq) (.slice A6 (siteL o ⟨y.f0, z⟩).length c6) (siteL o ⟨y.f0, z⟩) W) Z5.out ?_
    rintro V5 hV5
    have Z6 := Lib.hid hV5
    clear hV5 Z5 g1 t1
    go_wp2
    go_roundw
    case rel => exact ⟨kk + 1, _, by omega, by go_num, by rw [SN.out, FZ.out]; exact Z6⟩
    case measure =>
     simp only [cntM]
     omega
   ·have d' : decide ((b : Int) < y.f1) = false := by simpa using hg
    by_cases hg2 : y.f1 > (a : Int)
    ·have d2 : decide ((a : Int) < y.f1) = true := by simpa using hg2
     have ew : (a : Int) = z := by rw [hz]; unfold toW; rw [if_neg hg, if_pos hg2]
     clear hz
     go_upto_region 14 with fail
     refine gen2 (φ := fun W => Code.wp _ _ _ _ W) (P := fun W => TBm 38 wr gS #[.int .i64 y.f0, .int .i64 z] W) (by rw [← ew]; exact T3.out.set 1 (.int .i64 (a : Int))) ?_
     clear s1 f1 T3 d' hg ew d2 hg2
     rintro V4 hV4
     have Z4 := Lib.hid (ZW.out.next hV4.b)
     have s0 := (blk_cell hV4.hx 0).trans rfl
     have s1 := (blk_cell hV4.hx 1).trans rfl
     have t1 := (blk_cell Z4.out.hx 1).trans rfl
     have g1 := blk_frozen Z4.out.hx 1
     clear hV4 ZW
     go_wp2_with fail
     (go_at_call 35; refine (site_calls vy o ⟨y.f0, z⟩ wq _ Z4.out.b Z4.out.row (by have := LO.out; omega)).mono ?_; rintro e w5 ha5)
     obtain ⟨v5, rfl, b5, hx5, z5⟩ := Z4.out.site ha5
     obtain ⟨A6, c6, e6⟩ := Kd.R_slice z5.row
     subst e6
     have Z5 := Lib.hid z5
     have g1 := blk_frozen hx5 1
     have t1 := (blk_cell hx5 1).trans rfl
     clear ha5 b5 hx5 z5 s0 s1 Z4
     go_upto_region 8 with fail
     refine gen2 (φ := fun W => Code.wp _ _ _ _ W) (P := fun W => SiZ wq gG (.slice Aq pl.length cq) (.slice A6 (siteL o ⟨y.f0, z⟩).length c6) (siteL o ⟨y.f0, z⟩) W) Z5.out ?_
     rintro V5 hV5
     have Z6 := Lib.hid hV5
     clear hV5 Z5 g1 t1
     go_wp2
     go_roundw
     case rel => exact ⟨kk + 1, _, by omega, by go_num, by rw [SN.out, FZ.out]; exact Z6⟩
     case measure =>
      simp only [cntM]
      omega
    ·have d2 : decide ((a : Int) < y.f1) = false := by simpa using hg2
     have ew : y.f1 = z := by rw [hz]; unfold toW; rw [if_neg hg, if_neg hg2]
     clear hz
     go_upto_region 14 with fail
     refine gen2 (φ := fun W => Code.wp _ _ _ _ W) (P := fun W => TBm 38 wr gS #[.int .i64 y.f0, .int .i64 z] W) (by rw [← ew]; exact T3.out) ?_
     clear s1 f1 T3 d' hg ew d2 hg2
     rintro V4 hV4
     have Z4 := Lib.hid (ZW.out.next hV4.b)
     have s0 := (blk_cell hV4.hx 0).trans rfl
     have s1 := (blk_cell hV4.hx 1).trans rfl
     have t1 := (blk_cell Z4.out.hx 1).trans rfl
     have g1 := blk_frozen Z4.out.hx 1
     clear hV4 ZW
     go_wp2_with fail
     (go_at_call 35; refine (site_calls vy o ⟨y.f0, z⟩ wq _ Z4.out.b Z4.out.row (by have := LO.out; omega)).mono ?_; rintro e w5 ha5)
     obtain ⟨v5, rfl, b5, hx5, z5⟩ := Z4.out.site ha5
     obtain ⟨A6, c6, e6⟩ := Kd.R_slice z5.row
     subst e6
     have Z5 := Lib.hid z5
     have g1 := blk_frozen hx5 1
     have t1 := (blk_cell hx5 1).trans rfl
     clear ha5 b5 hx5 z5 s0 s1 Z4
     go_upto_region 8 with fail
     refine gen2 (φ := fun W => Code.wp _ _ _ _ W) (P := fun W => SiZ wq gG (.slice Aq pl.length cq) (.slice A6 (siteL o ⟨y.f0, z⟩).length c6) (siteL o ⟨y.f0, z⟩) W) Z5.out ?_
     rintro V5 hV5
     have Z6 := Lib.hid hV5
     clear hV5 Z5 g1 t1
     go_wp2
     go_roundw
     case rel => exact ⟨kk + 1, _, by omega, by go_num, by rw [SN.out, FZ.out]; exact Z6⟩
     case measure =>
      simp only [cntM]
      omega
  ·have d1 : decide ((kk : Int) < (ys.length : Int)) = false := by simp; omega
   obtain rfl : kk = ys.length := by omega
   rw [List.take_length] at ZW
   rw [HF.out] at ZW
   have LN : Hid ((normY (ys.map (mvY (toW (a : Int) (b : Int))))).length ≤ 1099511627776) := Lib.hid (by have h := normY_len (ys.map (mvY (toW (a : Int) (b : Int)))); rw [List.length_map] at h; omega)
   clear LO
   generalize hnz : normY (ys.map (mvY (toW (a : Int) (b : Int)))) = nz at ZW LN ⊢
   have HNZ := Lib.hid hnz
   clear hnz
   have x51 := (blk_cell (blk_below Q5.out ZW.out.b) 1).trans rfl
   by_cases hm : m > 0
   ·have dm : decide (0 < m) = true := by simpa using hm
    have EL := Lib.hid (show lastY (a : Int) m nz = siteL nz ⟨m, (a : Int)⟩ by unfold lastY; rw [if_pos hm])
    clear hm
    have t1 := (blk_cell ZW.out.hx 1).trans rfl
    go_wp2_with fail
    (go_at_call 35; refine (site_calls vy nz ⟨m, (a : Int)⟩ wq _ ZW.out.b ZW.out.row (by have := LN.out; omega)).mono ?_; rintro e w5 ha5)
    rw [← EL.out] at ha5
    obtain ⟨v5, rfl, b5, hx5, z5⟩ := ZW.out.site ha5
    obtain ⟨A6, c6, e6⟩ := Kd.R_slice z5.row
    subst e6
    have Z5 := Lib.hid z5
    have g1 := blk_frozen hx5 1
    clear t1
    have t1 := (blk_cell hx5 1).trans rfl
    clear ha5 b5 hx5 z5 x51
    go_upto_region 17 with fail
    refine gen2 (φ := fun W => Code.wp _ _ _ _ W) (P := fun W => SiZ wq gG (.slice Aq pl.length cq) (.slice A6 (lastY (a : Int) m nz).length c6) (lastY (a : Int) m nz) W) Z5.out ?_
    rintro V5 hV5
    clear ZW g1 t1 Z5
    have ZW := Lib.hid hV5
    clear hV5
    have x51 := (blk_cell (blk_below Q5.out ZW.out.b) 1).trans rfl
    have t0 := (blk_cell ZW.out.hx 0).trans rfl
    have t1 := (blk_cell ZW.out.hx 1).trans rfl
    have HB8 := Lib.hid (blk_below Q10.out ZW.out.b)
    have r0 := (blk_cell HB8.out 0).trans rfl
    have r1 := (blk_cell HB8.out 1).trans rfl
    have z0 := blk_frozen HB8.out 0
    have z1 := blk_frozen HB8.out 1
    have BW := Lib.hid (below_step BQ.out ZW.out.b)
    have RS' := Lib.hid (Kd.R_below RQ.out ZW.out.b)
    have RY := Lib.hid (Kd.R_lower ZW.out.row BQ.out.size)
    clear ZW S1
    go_wp2
    refine bodyPost_ret (results_cell_row rfl _ _ (w.heap.size + 1) 30 #[.slice Aq pl.length cq, .slice A6 (lastY (a : Int) m nz).length c6] (0, 0) _ rfl (by simpa using blk_set (blk_set HB8.out 0 (.slice Aq pl.length cq)) 1 (.slice A6 (lastY (a : Int) m nz).length c6)) Try.underlying30 rfl (by kernel_rfl)) rfl ?_
    rw [HNZ.out]
    exact ⟨Aq, cq, A6, c6, rfl, R_moveT rfl (R_moveT rfl RS'.out (set_typeM HB8.out (by decide) 0 _)) (set_typeM (blk_set HB8.out 0 _) (by decide) 1 _), R_moveT rfl (R_moveT rfl RY.out (set_typeM HB8.out (by decide) 0 _)) (set_typeM (blk_set HB8.out 0 _) (by decide) 1 _), below_set (below_set BW.out (by omega)) (by omega)⟩
   ·have dm : decide (0 < m) = false := by simpa using hm
    have ES := Lib.hid (show lastY (a : Int) m nz = nz by unfold lastY; rw [if_neg hm])
    clear hm
    obtain ⟨A6, c6, ey⟩ := Kd.R_slice ZW.out.row
    subst ey
    have x51 := (blk_cell (blk_below Q5.out ZW.out.b) 1).trans rfl
    have t0 := (blk_cell ZW.out.hx 0).trans rfl
    have t1 := (blk_cell ZW.out.hx 1).trans rfl
    have HB8 := Lib.hid (blk_below Q10.out ZW.out.b)
    have r0 := (blk_cell HB8.out 0).trans rfl
    have r1 := (blk_cell HB8.out 1).trans rfl
    have z0 := blk_frozen HB8.out 0
    have z1 := blk_frozen HB8.out 1
    have BW := Lib.hid (below_step BQ.out ZW.out.b)
    have RS' := Lib.hid (Kd.R_below RQ.out ZW.out.b)
    have RY := Lib.hid (Kd.R_lower ZW.out.row BQ.out.size)
    clear ZW S1
    go_wp2
    refine bodyPost_ret (results_cell_row rfl _ _ (w.heap.size + 1) 30 #[.slice Aq pl.length cq, .slice A6 (nz).length c6] (0, 0) _ rfl (by simpa using blk_set (blk_set HB8.out 0 (.slice Aq pl.length cq)) 1 (.slice A6 (nz).length c6)) Try.underlying30 rfl (by kernel_rfl)) rfl ?_
    rw [HNZ.out, ES.out]
    exact ⟨Aq, cq, A6, c6, rfl, R_moveT rfl (R_moveT rfl RS'.out (set_typeM HB8.out (by decide) 0 _)) (set_typeM (blk_set HB8.out 0 _) (by decide) 1 _), R_moveT rfl (R_moveT rfl RY.out (set_typeM HB8.out (by decide) 0 _)) (set_typeM (blk_set HB8.out 0 _) (by decide) 1 _), below_set (below_set BW.out (by omega)) (by omega)⟩
end Go.Proofs.Ytdgjjdpeaohebaa.Mk
/- Marks: letters that are put and taken away again leave the marks as they were (plain law). Conditions: the bounds named. -/
namespace Go.Proofs.Ytdgjjdpeaohebaa.Mk
open Go.RowKit Go.Proofs.YtdgjjdpeaohebaaW.PrintWords Go.Proofs.YtdgjjdpeaohebaaW.PrintLast Go.Proofs.YtdgjjdpeaohebaaW.PrintMore Go.Proofs.Ytdgjjdpeaohebaa.PMarksTake Go.Proofs.Ytdgjjdpeaohebaa.Pure
set_option linter.unusedVariables false
set_option linter.unusedSimpArgs false
theorem back_spans {n a k : Nat} {m : Int} {xs : List Sp} (h : spansOk (n : Int) none xs = true) (h1 : a ≤ n) : takeL (a : Int) ((a : Int) + (k : Int)) (putL (a : Int) (k : Int) m xs) = xs := by
 obtain ⟨p1, p2⟩ := putL_ok (n := (n : Int)) (a := (a : Int)) (k := (k : Int)) (m := m) h (by omega) (by omega) (by omega)
 obtain ⟨t1, t2⟩ := takeL_ok (n := (n : Int) + (k : Int)) (a := (a : Int)) (b := (a : Int) + (k : Int)) p1 (by omega) (by omega) (by omega)
 rw [show (n : Int) + (k : Int) - ((a : Int) + (k : Int) - (a : Int)) = (n : Int) by omega] at t1 t2
 have u1 := spans_uniq (n := n) t1
 have u2 := spans_uniq (n := n) h
 rw [← u1, ← u2]
 congr 1
 refine List.map_congr_left (fun i hi => ?_)
 have hi := List.mem_range.1 hi
 rw [u2, t2 (i : Int) (by omega) (by omega)]
 by_cases c : (i : Int) < (a : Int)
 ·rw [if_pos c, p2 _ (by omega) (by omega)]
  unfold putC
  rw [if_pos c]
 ·rw [if_neg c, p2 _ (by omega) (by omega)]
  unfold putC
  rw [if_neg (by omega), if_neg (by omega)]
  congr 1
  omega
theorem back_sites {n a k : Nat} {ys : List SY} (h : sitesOk (n : Int) none ys = true) (h1 : a ≤ n) (hn : n ≤ 2000) (hk : k ≤ 300) : lastY (a : Int) 0 (normY ((normY (ys.map (mvY (toP (a : Int) (k : Int))))).map (mvY (toW (a : Int) ((a : Int) + (k : Int)))))) = ys := by
 obtain ⟨h2, h3, _⟩ := (sitesOk_iff _ none ys).1 h
 unfold lastY
 rw [if_neg (by omega)]
 have key : ∀ y ∈ ys, mvY (toW (a : Int) ((a : Int) + (k : Int))) (mvY (toP (a : Int) (k : Int)) y) = y := by
  intro y hy
  have := h2 y hy
  unfold mvY
  simp only
  have e : toW (a : Int) ((a : Int) + (k : Int)) (toP (a : Int) (k : Int) y.f1) = y.f1 := by
   rw [toP_eq (by omega) (by omega) (by omega), toW_eq (by omega) (by omega) (by split <;> omega)]
   unfold toT
   (repeat' split) <;> omega
  rw [e]
 refine (normY_uniq h3 (fun z => ?_)).symm
 rw [List.mem_map]
 constructor
 ·intro hz
  exact ⟨mvY (toP (a : Int) (k : Int)) z, ((normY_ok _).2 _).2 (List.mem_map.2 ⟨z, hz, rfl⟩), key z hz⟩
 ·rintro ⟨y, hy, rfl⟩
  obtain ⟨x, hx, rfl⟩ := List.mem_map.1 (((normY_ok _).2 y).1 hy)
  rw [key x hx]
  exact hx
/-- A mark that no span has, as the law reckons it. -/
def freshM (xs : List Sp) : Int := xs.foldl (fun m s => max m (min s.f0 1099511627776 + 1)) 1
end Go.Proofs.Ytdgjjdpeaohebaa.Mk
/- Marks: the walk of the law MarksBack. Conditions: none beside the row's. -/
namespace Go.Proofs.Ytdgjjdpeaohebaa.Mk
open Go.RowKit Go.Proofs.YtdgjjdpeaohebaaW.PrintWords Go.Proofs.YtdgjjdpeaohebaaW.PrintLast Go.Proofs.YtdgjjdpeaohebaaW.PrintMore Go.Proofs.Ytdgjjdpeaohebaa.PMarksTake Go.Proofs.Ytdgjjdpeaohebaa.Pure
set_option linter.unusedVariables false
set_option linter.unusedSimpArgs false
attribute [local go_sem] max2_int min2_int max_two min_two
theorem fd_m0 (a b : Value) (w : World) : (Instr.field 28 (.agg #[a, b]) 0).run Try.prog w = .ok a w := by kernel_rfl
attribute [local go_sem] fd_m0
set_option maxRecDepth 1000000 in
set_option maxHeartbeats 8000000 in
theorem marksBack_walk (A0 : Option Addr) (c0 : Nat) (xs : List Sp) (B0 : Option Addr) (d0 : Nat) (ys : List SY) (n a b k : Int) (w : World) (hr : Kd.C kSp w A0 xs.length xs) (hc : xs.length ≤ c0) (hs : Kd.C kY w B0 ys.length ys) (hd : ys.length ≤ d0) (hlx : xs.length ≤ 8796093022208) (hly : ys.length ≤ 8796093022208) :
  Calls Try.prog 8 #[.agg #[.slice A0 xs.length c0, .slice B0 ys.length d0, .int .i64 n, .int .i64 a, .int .i64 b], .int .i64 k] w fun e w' => e = .returned (.bool true) ∧ Below w.heap.size w w' := by
 have HR := Lib.hid hr
 have HS := Lib.hid hs
 clear hr hs
 obtain ⟨c3, hc3⟩ : ∃ c : Array Value, c = #[.slice A0 xs.length c0, .slice B0 ys.length d0, .int .i64 n, .int .i64 a, .int .i64 b] := ⟨_, rfl⟩
 have HC3 := Lib.hid hc3
 clear hc3
 go_enter Try.func8, Try.ntmps8
 go_upto_region 1 with fail
 refine gen2 (φ := fun W => Code.wp _ _ _ _ W) (P := fun W => Below w.heap.size w W ∧ W.heap[w.heap.size]? = some (.cells c3 33 (0, 0))) ⟨below_alloc (Below.refl _ _) _, by rw [HC3.out]; exact blk_new w _⟩ ?_
 rintro V0 ⟨hb0, h30⟩
 have B0_ := Lib.hid hb0
 have X3 := Lib.hid h30
 clear hb0 h30
 go_upto_region 2 with (first | (go_at_call 21; refine (put_calls none 0 [] none 0 [] 1 2 7 _ (Kd.C_nil kSp _) (Nat.le_refl _) (Kd.C_nil kY _) (Nat.le_refl _) (by decide) (by decide) (by decide) (by decide) (by simp)).mono ?_; rintro e w1 ha; obtain ⟨A1, c1, B1, d1, e1, h1, h2, hb1⟩ := ha; subst e1; have BP := Lib.hid hb1; have C1 := Lib.hid (show Kd.C kSp w1 A1 1 [(⟨7, 1, 3⟩ : Sp)] from (Kd.R_reads' h1).2.2); have D1 := Lib.hid (show Kd.C kY w1 B1 0 [] from (Kd.R_reads' h2).2.2); have E1 := Lib.hid (show 1 ≤ c1 ∧ 0 ≤ d1 from ⟨(Kd.R_reads' h1).2.1, (Kd.R_reads' h2).2.1⟩); clear h1 h2 hb1; (try dsimp only [show (putL 1 2 7 ([] : List Sp)).length = 1 from rfl])) | ((with_reducible refine gate_dst (N := 5) rfl ?_); refine box_event ?hg (N := 5) ?hd (cs := #[.slice none 0 0, .slice none 0 0]) (t := 28) ?hr ?_; (case hd => rfl); (case hg => rfl); (case hr => first | (go_simp; done) | (go_simp; rfl)); intro g5 hg5 w5 hx5 hb5; have GA := Lib.hid (show TBm 28 w1 g5 #[.slice none 0 0, .slice none 0 0] w5 from ⟨hb5, by rw [hg5]; exact Nat.le_refl _, hx5⟩); have q0 := (blk_cell hx5 0).trans rfl; have q1 := (blk_cell hx5 1).trans rfl; have z0 := blk_frozen hx5 0; have z1 := blk_frozen hx5 1; clear hg5 hx5 hb5))
 refine gen2 (φ := fun W => Code.wp _ _ _ _ W) (P := fun W => TBm 28 w1 g5 #[.slice A1 1 c1, .slice B1 0 d1] W) ((GA.out.set 0 (.slice A1 1 c1)).set 1 (.slice B1 0 d1)) ?_
 clear q0 q1 z0 z1 GA
 rintro V1 hV1
 have BV := Lib.hid (below_step (below_step B0_.out BP.out) hV1.b)
 have Y3 := Lib.hid (blk_below (blk_below X3.out BP.out) hV1.b)
 have x0 := (blk_cell hV1.hx 0).trans rfl
 have x1 := (blk_cell hV1.hx 1).trans rfl
 have CS := Lib.hid (Kd.C_below C1.out hV1.b)
 have CY := Lib.hid (Kd.C_below D1.out hV1.b)
 clear hV1 X3 B0_ C1 D1 BP
 go_upto_region 4 with (go_at_call 23; refine (take_calls A1 c1 [⟨7, 1, 3⟩] B1 d1 [] 1 3 0 _ CS.out E1.out.1 CY.out E1.out.2 (by decide) (by decide) (by decide)).mono ?_; rintro e wT ha; obtain ⟨AT, cT, BT, dT, eT, h1, h2, hbT⟩ := ha; subst eT; have HBT := Lib.hid hbT; clear h1 h2 hbT; (try dsimp only [show (takeW 1 3 ([⟨7, 1, 3⟩] : List Sp)).length = 0 from rfl]))
 clear x0 x1 CS CY
 have Z3 := Lib.hid (blk_below Y3.out HBT.out)
 have BZ := Lib.hid (below_step BV.out HBT.out)
 clear Y3 BV HBT
 have Y3 := Lib.hid Z3.out
 have BV := Lib.hid BZ.out
 clear Z3 BZ
 have Y3' := Y3.out
 rw [HC3.out] at Y3'
 have f0 := (blk_cell Y3' 0).trans rfl
 have f1 := (blk_cell Y3' 1).trans rfl
 have f2 := (blk_cell Y3' 2).trans rfl
 have f3 := (blk_cell Y3' 3).trans rfl
 have f4 := (blk_cell Y3' 4).trans rfl
 clear Y3'
 obtain ⟨cb, hcb⟩ : ∃ cb, cb = caseB xs ys n a b := ⟨_, rfl⟩
 have HCB := Lib.hid hcb
 clear hcb
 go_upto_region 5 with (first | (go_at_call 12; refine (right_calls A0 c0 xs B0 d0 ys n a b _ (Kd.C_below HR.out BV.out) hc (Kd.C_below HS.out BV.out) hd hlx hly).mono ?_; rintro e w2 ⟨v1, v2, rfl, m1, m2, hb2⟩; rw [← HCB.out]; obtain ⟨A1, c1, B1, d1, e1, m1⟩ := m1; obtain ⟨A2, c2, B2, d2, e2, m2⟩ := m2; subst e1; subst e2; have M1 := Lib.hid m1; have M2 := Lib.hid m2; clear m1 m2; have HB2 := Lib.hid hb2; clear hb2) | ((with_reducible refine gate_dst (N := 6) rfl ?_); refine box_event ?hg (N := 6) ?hd (cs := #[.slice none 0 0, .slice none 0 0]) (t := 28) ?hr ?_; (case hd => rfl); (case hg => rfl); (case hr => first | (go_simp; done) | (go_simp; rfl)); intro g8 hg8 w8 hx8 hb8; have G8 := Lib.hid (show TBm 28 w2 g8 #[.slice none 0 0, .slice none 0 0] w8 from ⟨hb8, by rw [hg8]; exact Nat.le_refl _, hx8⟩); have q80 := (blk_cell hx8 0).trans rfl; have z80 := blk_frozen hx8 0; have q81 := (blk_cell hx8 1).trans rfl; have z81 := blk_frozen hx8 1; clear hg8 hx8 hb8) | ((with_reducible refine gate_dst (N := 7) rfl ?_); refine box_event ?hg (N := 7) ?hd (cs := #[.slice none 0 0, .slice none 0 0]) (t := 30) ?hr ?_; (case hd => rfl); (case hg => rfl); (case hr => first | (go_simp; done) | (go_simp; rfl)); intro g9 hg9 w9 hx9 hb9; have G9 := Lib.hid (show TBm 30 w8 g9 #[.slice none 0 0, .slice none 0 0] w9 from ⟨hb9, by rw [hg9]; exact Nat.le_refl _, hx9⟩); have q90 := (blk_cell hx9 0).trans rfl; have z90 := blk_frozen hx9 0; have q91 := (blk_cell hx9 1).trans rfl; have z91 := blk_frozen hx9 1; have n89 : g8 ≠ g9 := Nat.ne_of_lt (Nat.lt_of_lt_of_le (blk_lt G8.out.hx) G9.out.lo); have n98 : g9 ≠ g8 := n89.symm; clear q80 q81 z80 z81; have q80 := (blk_cell (blk_below G8.out.hx G9.out.b) 0).trans rfl; have q81 := (blk_cell (blk_below G8.out.hx G9.out.b) 1).trans rfl; have z80 := blk_frozen (blk_below G8.out.hx G9.out.b) 0; have z81 := blk_frozen (blk_below G8.out.hx G9.out.b) 1; clear hg9 hx9 hb9))
 refine gen2 (φ := fun W => Code.wp _ _ _ _ W) (P := fun W => L3 w w.heap.size g8 g9 c3 #[.slice A1 xs.length c1, .slice B1 ys.length d1] #[.slice A2 xs.length c2, .slice B2 ys.length d2] W ∧ Below w2.heap.size w2 W) (by
  obtain ⟨t8, t9⟩ := two_set (blk_below G8.out.hx G9.out.b) G9.out.hx (.slice A1 xs.length c1) (.slice B1 ys.length d1) (.slice A2 xs.length c2) (.slice B2 ys.length d2)
  have l8 := G8.out.lo
  have l9 := G9.out.lo
  have b2 := below_set (below_set (below_set (below_set (below_step G8.out.b G9.out.b) l8 (j := 0) (v := .slice A1 xs.length c1)) l8 (j := 1) (v := .slice B1 ys.length d1)) (Nat.le_trans G8.out.b.size l9) (j := 0) (v := .slice A2 xs.length c2)) (Nat.le_trans G8.out.b.size l9) (j := 1) (v := .slice B2 ys.length d2)
  exact ⟨⟨below_step (below_step BV.out HB2.out) b2, blk_below (blk_below Y3.out HB2.out) b2, t8, t9⟩, b2⟩) ?_
 rintro W ⟨hW, hb⟩
 have HW := Lib.hid hW
 have HBW := Lib.hid (below_step HB2.out hb)
 have MX := Lib.hid (M1.out.below hb)
 have MW := Lib.hid (M2.out.below hb)
 clear hW hb f0 f1 f2 f3 f4 BV Y3 G8 G9 M1 M2 HB2 q80 q81 q90 q91 z80 z81 z90 z91 n89 n98
 cases cb with
 | false =>
  go_wp2
  go_ret
  exact ⟨rfl, HW.out.b⟩
 | true =>
  by_cases hk0 : k < 0
  ·have dk : decide (k < 0) = true := by simpa using hk0
   go_wp2
   go_ret
   exact ⟨rfl, HW.out.b⟩
  have dk : decide (k < 0) = false := by simpa using hk0
  by_cases hk3 : 300 < k
  ·have dk3 : decide (300 < k) = true := by simpa using hk3
   go_wp2
   go_ret
   exact ⟨rfl, HW.out.b⟩
  have dk3 : decide (300 < k) = false := by simpa using hk3
  obtain ⟨i1, i2, i3, i4, i5, i6, i7, i8⟩ := case_iff.1 HCB.out.symm
  obtain ⟨N, rfl⟩ := Int.eq_ofNat_of_zero_le i1
  obtain ⟨P, rfl⟩ := Int.eq_ofNat_of_zero_le i3
  obtain ⟨K, rfl⟩ := Int.eq_ofNat_of_zero_le (show 0 ≤ k by omega)
  obtain ⟨j1, j2⟩ := right_iff.1 i8
  have HX := Lib.hid (ok_each j1)
  have HJ1 := Lib.hid j1
  have HJ2 := Lib.hid j2
  have HI := Lib.hid (show N ≤ 2000 ∧ P ≤ N ∧ K ≤ 300 ∧ xs.length ≤ 2000 ∧ ys.length ≤ 300 by omega)
  have BY : Hid (lastY (P : Int) 0 (normY ((normY (ys.map (mvY (toP (P : Int) (K : Int))))).map (mvY (toW (P : Int) ((P : Int) + (K : Int)))))) = ys) := Lib.hid (back_sites j2 (by omega) (by omega) (by omega))
  have wK : IntKind.i64.wrap ((P : Int) + (K : Int)) = (P : Int) + (K : Int) := IntWalk.i64_in _ (by omega)
  clear i1 i2 i3 i4 i5 i6 i7 i8 j1 j2 HCB hk0 hk3
  have Y3' := HW.out.h3
  rw [HC3.out] at Y3'
  have C3_ := Lib.hid Y3'
  have f0 := (blk_cell Y3' 0).trans rfl
  clear Y3'
  go_wp2
  clear f0
  go_loopw [46, 9] (fun s46 s9 wr => ∃ (kk : Nat) (v : Int), kk ≤ xs.length ∧ s46 = .int .i64 (kk : Int) ∧ s9 = .int .i64 v ∧ Hid (Below W.heap.size W wr)) (fun s46 _ _ => xs.length - cntM s46)
  case atStart => exact ⟨0, _, Nat.zero_le _, rfl, rfl, Lib.hid (Below.refl _ _)⟩
  case round =>
   obtain ⟨kk, v, hkk, rfl, rfl, ZW⟩ := hrel
   by_cases hlt : kk < xs.length
   ·have d1 : decide ((kk : Int) < (xs.length : Int)) = true := by simp; omega
    have b1 : (0 : Int) ≤ (kk : Int) := by omega
    have b2 : (kk : Int) < (xs.length : Int) := by omega
    have w1_ : IntKind.i64.wrap ((kk : Int) + 1) = (kk : Int) + 1 := IntWalk.i64_in _ (by omega)
    obtain ⟨x, hx⟩ : ∃ x, xs[kk]? = some x := ⟨_, List.getElem?_eq_getElem hlt⟩
    obtain ⟨ad, e0, y0, y1, y2⟩ := at_S (Kd.C_below HR.out (below_step HW.out.b ZW.out)) hx hlt
    subst e0
    clear hx
    go_upto_region 11 with (first | ((with_reducible refine gate_dst (N := 11) rfl ?_); refine box_event ?hg (N := 11) ?hd (cs := #[.int .i64 0, .int .i64 0, .int .i64 0]) (t := 26) ?hr ?_; (case hd => rfl); (case hg => rfl); (case hr => first | (go_simp; done) | (go_simp; rfl)); intro gB hgB wB hxB hbB; have GB := Lib.hid (show TBm 26 wr gB #[.int .i64 0, .int .i64 0, .int .i64 0] wB from ⟨hbB, by rw [hgB]; exact Nat.le_refl _, hxB⟩); have q0 := (blk_cell hxB 0).trans rfl; have q1 := (blk_cell hxB 1).trans rfl; have q2 := (blk_cell hxB 2).trans rfl; have z0 := blk_frozen hxB 0; have z1 := blk_frozen hxB 1; have z2 := blk_frozen hxB 2; clear hgB hxB hbB))
    refine gen2 (φ := fun W => Code.wp _ _ _ _ W) (P := fun W => TBm 26 wr gB #[.int .i64 x.f0, .int .i64 x.f1, .int .i64 x.f2] W) (((GB.out.set 0 (.int .i64 x.f0)).set 1 (.int .i64 x.f1)).set 2 (.int .i64 x.f2)) ?_
    clear q0 q1 q2 z0 z1 z2 GB y0 y1 y2
    rintro V3 hV3
    have B3 := Lib.hid (below_step ZW.out hV3.b)
    have t0 := (blk_cell hV3.hx 0).trans rfl
    clear hV3 ZW
    go_wp2
    go_roundw
    case rel => exact ⟨kk + 1, _, by omega, by go_num, rfl, B3⟩
    case measure =>
     simp only [cntM]
     omega
   ·have d1 : decide ((kk : Int) < (xs.length : Int)) = false := by simp; omega
    have f0 := (blk_cell (blk_below C3_.out ZW.out) 0).trans rfl
    go_wp2
    clear f0 d1 hlt hkk
    have Z0 := Lib.hid ZW.out
    clear ZW
    go_loopw [60] (fun s60 wr => ∃ (kk : Nat), kk ≤ xs.length ∧ s60 = .int .i64 (kk : Int) ∧ Hid (Below W.heap.size W wr)) (fun s60 _ => xs.length - cntM s60)
    case atStart => exact ⟨0, Nat.zero_le _, rfl, Z0⟩
    case round =>
     obtain ⟨kk, hkk, rfl, ZW⟩ := hrel
     clear Z0
     by_cases hlt : kk < xs.length
     ·have d1 : decide ((kk : Int) < (xs.length : Int)) = true := by simp; omega
      have b1 : (0 : Int) ≤ (kk : Int) := by omega
      have b2 : (kk : Int) < (xs.length : Int) := by omega
      have w1_ : IntKind.i64.wrap ((kk : Int) + 1) = (kk : Int) + 1 := IntWalk.i64_in _ (by omega)
      obtain ⟨x, hx⟩ : ∃ x, xs[kk]? = some x := ⟨_, List.getElem?_eq_getElem hlt⟩
      obtain ⟨ad, e0, y0, y1, y2⟩ := at_S (Kd.C_below HR.out (below_step HW.out.b ZW.out)) hx hlt
      subst e0
      clear hx
      go_upto_region 16 with (first | ((with_reducible refine gate_dst (N := 13) rfl ?_); refine box_event ?hg (N := 13) ?hd (cs := #[.int .i64 0, .int .i64 0, .int .i64 0]) (t := 26) ?hr ?_; (case hd => rfl); (case hg => rfl); (case hr => first | (go_simp; done) | (go_simp; rfl)); intro gB hgB wB hxB hbB; have GB := Lib.hid (show TBm 26 wr gB #[.int .i64 0, .int .i64 0, .int .i64 0] wB from ⟨hbB, by rw [hgB]; exact Nat.le_refl _, hxB⟩); have q0 := (blk_cell hxB 0).trans rfl; have q1 := (blk_cell hxB 1).trans rfl; have q2 := (blk_cell hxB 2).trans rfl; have z0 := blk_frozen hxB 0; have z1 := blk_frozen hxB 1; have z2 := blk_frozen hxB 2; clear hgB hxB hbB))
      refine gen2 (φ := fun W => Code.wp _ _ _ _ W) (P := fun W => TBm 26 wr gB #[.int .i64 x.f0, .int .i64 x.f1, .int .i64 x.f2] W) (((GB.out.set 0 (.int .i64 x.f0)).set 1 (.int .i64 x.f1)).set 2 (.int .i64 x.f2)) ?_
      clear q0 q1 q2 z0 z1 z2 GB y0 y1 y2
      rintro V3 hV3
      have B3 := Lib.hid (below_step ZW.out hV3.b)
      have t0 := (blk_cell hV3.hx 0).trans rfl
      clear hV3 ZW
      by_cases hg : 1099511627776 ≤ x.f0
      ·have dg : decide (1099511627776 ≤ x.f0) = true := by simpa using hg
       go_wp2
       go_ret
       exact ⟨rfl, below_step HW.out.b B3.out⟩
      ·have dg : decide (1099511627776 ≤ x.f0) = false := by simpa using hg
       go_wp2
       go_roundw
       case rel => exact ⟨kk + 1, by omega, by go_num, B3⟩
       case measure =>
        simp only [cntM]
        omega
     ·have dq : decide ((kk : Int) < (xs.length : Int)) = false := by simp; omega
      obtain ⟨pl, hpl⟩ : ∃ l, l = putL (P : Int) (K : Int) v xs := ⟨_, rfl⟩
      obtain ⟨nz, hnz⟩ : ∃ l, l = normY (ys.map (mvY (toP (P : Int) (K : Int)))) := ⟨_, rfl⟩
      have HPL := Lib.hid hpl
      have HNZ := Lib.hid hnz
      have LP : Hid (pl.length ≤ 8000) := Lib.hid (by
       have h := putGo_len (P : Int) (K : Int) v xs [] false
       have h2 := addL_length (putGo (P : Int) (K : Int) v xs [] false).1 (freshS (P : Int) (K : Int) v)
       rw [hpl]
       unfold putL
       simp only [List.length_nil] at h
       have := HI.out
       split <;> omega)
      have LN : Hid (nz.length ≤ 8000) := Lib.hid (by
       have h := normY_len (ys.map (mvY (toP (P : Int) (K : Int))))
       rw [hnz]
       rw [List.length_map] at h
       have := HI.out
       omega)
      have BX : Hid (takeW (P : Int) ((P : Int) + (K : Int)) pl = xs) := Lib.hid (by
       have h0 := HI.out
       have h1 := (putL_ok (m := v) HJ1.out (show 0 ≤ (P : Int) by omega) (by omega) (show 0 ≤ (K : Int) by omega)).1
       rw [takeW_eq (by omega) (by omega) (fun x hx => by have := ok_each h1 x (by rw [hpl] at hx; exact hx); omega), hpl]
       exact back_spans HJ1.out h0.2.1)
      have BY' : Hid (lastY (P : Int) 0 (normY (nz.map (mvY (toW (P : Int) ((P : Int) + (K : Int)))))) = ys) := Lib.hid (by rw [hnz]; exact BY.out)
      clear hpl hnz BY hkk
      go_upto_region 19 with fail
      have h3 := blk_below C3_.out ZW.out
      have QS := Lib.hid (show SL wr w.heap.size g8 g9 (N : Int) (P : Int) b (.slice A1 xs.length c1) (.slice B1 ys.length d1) (.slice A2 xs.length c2) (.slice B2 ys.length d2) wr from
       ⟨(blk_cell h3 2).trans rfl, (blk_cell h3 3).trans rfl, (blk_cell h3 4).trans rfl, (blk_cell (blk_below HW.out.h8 ZW.out) 0).trans rfl, (blk_cell (blk_below HW.out.h8 ZW.out) 1).trans rfl, (blk_cell (blk_below HW.out.h9 ZW.out) 0).trans rfl, (blk_cell (blk_below HW.out.h9 ZW.out) 1).trans rfl, Below.refl _ _⟩)
      have MX' := Lib.hid (MX.out.below ZW.out)
      have MW' := Lib.hid (MW.out.below ZW.out)
      have BL := Lib.hid (below_step HW.out.b ZW.out)
      clear h3 ZW MX MW HW HBW HR HS C3_ dq
      go_region_held3 (fun w' => SL wr w.heap.size g8 g9 (N : Int) (P : Int) b (.slice A1 xs.length c1) (.slice B1 ys.length d1) (.slice A2 xs.length c2) (.slice B2 ys.length d2) w')
       (first | (with_reducible assumption) | (with_reducible exact HS3.out) | (with_reducible exact HS2.out) | (with_reducible exact HS1.out) | exact QS.out.next (by (with_reducible repeat (first | exact Below.refl _ _ | apply pw_below_drewN | apply Below.drew | apply below_alloc))))
       (first
       | (go_at_call 21; (refine (put_calls A1 c1 xs B1 d1 ys (P : Int) (K : Int) v _ ?pa MX'.out.1 ?pb MX'.out.2.1 ?pc ?pd ?pe ?pf ?pg).mono ?_); (case pa => exact (MX'.out.below (SL.b (‹SL wr w.heap.size g8 g9 (N : Int) (P : Int) b (.slice A1 xs.length c1) (.slice B1 ys.length d1) (.slice A2 xs.length c2) (.slice B2 ys.length d2) _›))).2.2.1); (case pb => exact (MX'.out.below (SL.b (‹SL wr w.heap.size g8 g9 (N : Int) (P : Int) b (.slice A1 xs.length c1) (.slice B1 ys.length d1) (.slice A2 xs.length c2) (.slice B2 ys.length d2) _›))).2.2.2); (case pc => have := HI.out; omega); (case pd => have := HI.out; omega); (case pe => have := HI.out; omega); (case pf => have := HI.out; omega); (case pg => exact fun x hx => by have := HX.out x hx; have := HI.out; omega); rintro e w4 ha4; rw [← HPL.out, ← HNZ.out] at ha4; obtain ⟨A4, c4, B4, d4, e4, m4, hb4⟩ := ha4.is; subst e4; have M4 := Lib.hid m4; have HS1 := Lib.hid (SL.next (‹SL wr w.heap.size g8 g9 (N : Int) (P : Int) b (.slice A1 xs.length c1) (.slice B1 ys.length d1) (.slice A2 xs.length c2) (.slice B2 ys.length d2) _›) hb4); clear ha4 m4 hb4)
       | (go_at_call 23; (refine (take_calls A4 c4 pl B4 d4 nz (P : Int) ((P : Int) + (K : Int)) 0 _ ?ta M4.out.1 ?tb M4.out.2.1 ?tc ?td ?te).mono ?_); (case ta => first | exact M4.out.2.2.1 | exact (M4.out.below (by repeat (first | exact Below.refl _ _ | apply pw_below_drewN | apply Below.drew))).2.2.1); (case tb => first | exact M4.out.2.2.2 | exact (M4.out.below (by repeat (first | exact Below.refl _ _ | apply pw_below_drewN | apply Below.drew))).2.2.2); (case tc => have := LP.out; omega); (case td => have := LN.out; omega); (case te => have := HI.out; omega); rintro e w5 ha5; rw [BX.out, BY'.out] at ha5; obtain ⟨A5, c5, B5, d5, e5, m5, hb5⟩ := ha5.is; subst e5; have M5 := Lib.hid m5; have HS2 := Lib.hid (SL.next (‹SL wr w.heap.size g8 g9 (N : Int) (P : Int) b (.slice A1 xs.length c1) (.slice B1 ys.length d1) (.slice A2 xs.length c2) (.slice B2 ys.length d2) _›) hb5); clear ha5 m5 hb5)
       | (go_at_call 17; (refine (same_calls A5 c5 B5 d5 A2 c2 B2 d2 xs ys _ ?da M5.out.1 ?db M5.out.2.1 ?dc MW'.out.1 ?dd MW'.out.2.1 ?de ?df).mono ?_); (case da => first | exact M5.out.2.2.1 | exact (M5.out.below (by repeat (first | exact Below.refl _ _ | apply pw_below_drewN | apply Below.drew))).2.2.1); (case db => first | exact M5.out.2.2.2 | exact (M5.out.below (by repeat (first | exact Below.refl _ _ | apply pw_below_drewN | apply Below.drew))).2.2.2); (case dc => exact (MW'.out.below (SL.b (‹SL wr w.heap.size g8 g9 (N : Int) (P : Int) b (.slice A1 xs.length c1) (.slice B1 ys.length d1) (.slice A2 xs.length c2) (.slice B2 ys.length d2) _›))).2.2.1); (case dd => exact (MW'.out.below (SL.b (‹SL wr w.heap.size g8 g9 (N : Int) (P : Int) b (.slice A1 xs.length c1) (.slice B1 ys.length d1) (.slice A2 xs.length c2) (.slice B2 ys.length d2) _›))).2.2.2); (case de => have := HI.out; omega); (case df => have := HI.out; omega); rintro e w6 ⟨rfl, hb6⟩; have HS3 := Lib.hid (SL.next (‹SL wr w.heap.size g8 g9 (N : Int) (P : Int) b (.slice A1 xs.length c1) (.slice B1 ys.length d1) (.slice A2 xs.length c2) (.slice B2 ys.length d2) _›) hb6); clear hb6))
      all_goals
       go_wp2
       go_ret
       exact ⟨rfl, below_step BL.out (SL.b (by assumption))⟩
end Go.Proofs.Ytdgjjdpeaohebaa.Mk
