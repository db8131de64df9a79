-- Written by a program of this session around the given print (and over contracts of this session): not checked by anybody but Lean.
import Derived.Test.YtdgjjdpeaohebaaPMarksPartx0
import Derived.Test.YtdgjjdpeaohebaaPMarksPartx7
namespace Go.Proofs.Ytdgjjdpeaohebaa.PMarksPart
open Go.RowKit Go.Proofs.YtdgjjdpeaohebaaW.PrintWords Go.Proofs.YtdgjjdpeaohebaaW.PrintLast Go.Proofs.YtdgjjdpeaohebaaW.PrintMore
attribute [local go_sem] max2_int min2_int max_two min_two max_three min_three max_four min_four   -- for this text's walks alone
set_option linter.unusedVariables false
set_option linter.unusedSimpArgs false

/-! ### marks_Part: function 19 -/
mutual
def marks_Part.l0 : Nat → Int → List (S26) → Int → Int → List (S26) → List (S38) → List (S26) → List (S26) → Option ((List (S26)) × (List (S38)) × (List (S26)) × (List (S38)))
 | 0, _, _, _, _, _, _, _, _ => none
 | k + 1, x1, x13, x14, x15, x158000, x158001, x161000, x162000 => if x15 < x14 then (if 0 ≤ x15 then (if x15 < (x13.length : Int) then ((marks_add.f x161000 ((rd_T26 x13 x15).f0) ((rd_T26 x13 x15).f1) (mn ((rd_T26 x13 x15).f2) x1)).bind fun t164 => ((marks_add.f x162000 ((rd_T26 x13 x15).f0) (mx (wrap64 (((rd_T26 x13 x15).f1) - x1)) 0) (wrap64 (((rd_T26 x13 x15).f2) - x1))).bind fun t167 => (marks_Part.l0 k x1 x13 x14 (wrap64 (x15 + 1)) x158000 x158001 t164 t167))) else (none)) else (none)) else (marks_Part.l1 k x1 x158001 (x158001.length : Int) 0 x161000 ([] : List (S38)) x162000 ([] : List (S38)))
def marks_Part.l1 : Nat → Int → List (S38) → Int → Int → List (S26) → List (S38) → List (S26) → List (S38) → Option ((List (S26)) × (List (S38)) × (List (S26)) × (List (S38)))
 | 0, _, _, _, _, _, _, _, _ => none
 | k + 1, x1, x50, x51, x52, x161000, x161001, x162000, x162001 => if x52 < x51 then (if 0 ≤ x52 then (if x52 < (x50.length : Int) then (if ((rd_T38 x50 x52).f1) ≤ x1 then (if x161001.length < 8796093022208 then (marks_Part.l1 k x1 x50 x51 (wrap64 (x52 + 1)) x161000 (x161001 ++ [(⟨(rd_T38 x50 x52).f0, (rd_T38 x50 x52).f1⟩ : S38)]) x162000 x162001) else (none)) else (if x162001.length < 8796093022208 then (marks_Part.l1 k x1 x50 x51 (wrap64 (x52 + 1)) x161000 x161001 x162000 (x162001 ++ [(⟨(rd_T38 x50 x52).f0, wrap64 (((rd_T38 x50 x52).f1) - x1)⟩ : S38)])) else (none))) else (none)) else (none)) else (some (x161000, x161001, x162000, x162001))
end
def marks_Part.f (k : Nat) (l0_0 : List (S26)) (l0_1 : List (S38)) (a1 : Int) : Option ((List (S26)) × (List (S38)) × (List (S26)) × (List (S38))) := marks_Part.l0 k a1 l0_0 (l0_0.length : Int) 0 l0_0 l0_1 ([] : List (S26)) ([] : List (S26))
theorem marks_Part.mono_l : ∀ k, (∀ y0 y1 y2 y3 y4 y5 y6 y7, LeO (marks_Part.l0 k y0 y1 y2 y3 y4 y5 y6 y7) (marks_Part.l0 (k + 1) y0 y1 y2 y3 y4 y5 y6 y7)) ∧ (∀ y0 y1 y2 y3 y4 y5 y6 y7, LeO (marks_Part.l1 k y0 y1 y2 y3 y4 y5 y6 y7) (marks_Part.l1 (k + 1) y0 y1 y2 y3 y4 y5 y6 y7))
 | 0 => ⟨fun _ _ _ _ _ _ _ _ r h => by simp [marks_Part.l0] at h, fun _ _ _ _ _ _ _ _ r h => by simp [marks_Part.l1] at h⟩
 | k + 1 => by
  obtain ⟨ih0, ih1⟩ := marks_Part.mono_l k
  refine ⟨?_, ?_⟩
  ·intro y0 y1 y2 y3 y4 y5 y6 y7
   unfold marks_Part.l0
   repeat' first
   | (with_reducible exact ih0 _ _ _ _ _ _ _ _)
   | (with_reducible exact ih1 _ _ _ _ _ _ _ _)
   | (with_reducible exact LeO.refl _)
   | (with_reducible exact LeO.none _)
   | (with_reducible refine LeO.ite ?_ ?_)
   | (with_reducible refine LeO.bind ?_ (fun _ => ?_))
   | exact ih0 _ _ _ _ _ _ _ _
   | exact ih1 _ _ _ _ _ _ _ _
   | exact LeO.none _
   | refine LeO.ite ?_ ?_
   | refine LeO.bind ?_ (fun _ => ?_)
  ·intro y0 y1 y2 y3 y4 y5 y6 y7
   unfold marks_Part.l1
   repeat' first
   | (with_reducible exact ih0 _ _ _ _ _ _ _ _)
   | (with_reducible exact ih1 _ _ _ _ _ _ _ _)
   | (with_reducible exact LeO.refl _)
   | (with_reducible exact LeO.none _)
   | (with_reducible refine LeO.ite ?_ ?_)
   | (with_reducible refine LeO.bind ?_ (fun _ => ?_))
   | exact ih0 _ _ _ _ _ _ _ _
   | exact ih1 _ _ _ _ _ _ _ _
   | exact LeO.none _
   | refine LeO.ite ?_ ?_
   | refine LeO.bind ?_ (fun _ => ?_)
theorem marks_Part.mono : ∀ a0 a1 a2 k, LeO (marks_Part.f k a0 a1 a2) (marks_Part.f (k + 1) a0 a1 a2) := by
 intro a0 a1 a2 k
 obtain ⟨ih0, ih1⟩ := marks_Part.mono_l k
 unfold marks_Part.f
 repeat' first
   | (with_reducible exact ih0 _ _ _ _ _ _ _ _)
   | (with_reducible exact ih1 _ _ _ _ _ _ _ _)
   | (with_reducible exact LeO.refl _)
   | (with_reducible exact LeO.none _)
   | (with_reducible refine LeO.ite ?_ ?_)
   | (with_reducible refine LeO.bind ?_ (fun _ => ?_))
   | exact ih0 _ _ _ _ _ _ _ _
   | exact ih1 _ _ _ _ _ _ _ _
   | exact LeO.none _
   | refine LeO.ite ?_ ?_
   | refine LeO.bind ?_ (fun _ => ?_)
set_option maxHeartbeats 8000000 in
set_option maxRecDepth 100000 in
theorem marks_Part.calls (k : Nat) (A0_0 : Option Addr) (c0_0 : Nat) (l0_0 : List (S26)) (A0_1 : Option Addr) (c0_1 : Nat) (l0_1 : List (S38)) (a1 : Int) (r1 : List (S26)) (r2 : List (S38)) (r3 : List (S26)) (r4 : List (S38)) (w : World) (hr0_0 : Kd.C k26 w A0_0 l0_0.length l0_0) (hc0_0 : l0_0.length ≤ c0_0) (hr0_1 : Kd.C k38 w A0_1 l0_1.length l0_1) (hc0_1 : l0_1.length ≤ c0_1) (h : marks_Part.f k l0_0 l0_1 a1 = some (r1, r2, r3, r4)) :
  Calls Try.prog 19 #[.agg #[.slice A0_0 l0_0.length c0_0, .slice A0_1 l0_1.length c0_1], .int .i64 a1] w fun e w' => ∃ v0_ v1_ v2_ v3_ : Value, e = .returned (.tuple #[.agg #[v0_, v1_], .agg #[v2_, v3_]]) ∧ Kd.R k26 26 w' w.heap.size (fun k_ => some k_ ≠ (v2_ : Value).ownBlock) v0_ r1 ∧ Kd.R k38 38 w' w.heap.size (fun k_ => some k_ ≠ (v3_ : Value).ownBlock) v1_ r2 ∧ Kd.R k26 26 w' w.heap.size (fun k_ => some k_ ≠ (v0_ : Value).ownBlock) v2_ r3 ∧ Kd.R k38 38 w' w.heap.size (fun k_ => some k_ ≠ (v1_ : Value).ownBlock) v3_ r4 ∧ Below w.heap.size w w' := by
 have hu28 := Try.underlying28
 have hu26 := Try.underlying26
 have hu38 := Try.underlying38
 have HR0_0 := Aside0.mk hr0_0
 have HC0_0 := Aside0.mk hc0_0
 clear hr0_0 hc0_0
 have HR0_1 := Aside0.mk hr0_1
 have HC0_1 := Aside0.mk hc0_1
 clear hr0_1 hc0_1
 have HB := Aside0.mk (Below.refl w.heap.size w)
 have H : (marks_Part.l0 k a1 l0_0 (l0_0.length : Int) 0 l0_0 l0_1 ([] : List (S26)) ([] : List (S26))) = some (r1, r2, r3, r4) := h
 clear h
 have H' := Aside0.mk H
 clear H
 go_enter Try.func19, Try.ntmps19
 go_wp2_with (first|((with_reducible refine gate_dst (N:=2) rfl ?_);refine box_event ?hg (N:=2) ?hd (cs:=#[.slice A0_0 l0_0.length c0_0, .slice A0_1 l0_1.length c0_1]) (t:=28) ?hr ?_;(case hd => rfl);(case hg => rfl);(case hr => first|(go_simp;done)|(go_simp;rfl));intro gb157 hg w3 hbox hb;have n0_:=Aside0.mk (below_step (by repeat (first|(with_reducible first|exact HB.out|apply below_alloc|apply pw_below_drewN|apply below_drew1)|exact HB.out)) hb);have n1_:=Aside0.mk (hbox);have n2_:=Aside0.mk ((by rw [hg];exact (below_size (by repeat (first|(with_reducible first|exact HB.out|apply below_alloc|apply pw_below_drewN|apply below_drew1)|exact HB.out))) : w.heap.size ≤ gb157));have n3_:=Aside0.mk ((by rw [hg];exact (below_size (by repeat (first|(with_reducible first|exact HB.out|apply below_alloc|apply pw_below_drewN|apply below_drew1)|exact HB.out))) : w.heap.size ≤ gb157));clear HB;have HB:=n0_;have BK157:=n1_;have GW157:=n2_;have GE157:=n3_;clear n0_ n1_ n2_ n3_;clear hb hbox hg)|((with_reducible refine gate_dst (N:=4) rfl ?_);refine box_event ?hg (N:=4) ?hd (cs:=#[.slice none 0 0, .slice none 0 0]) (t:=28) ?hr ?_;(case hd => rfl);(case hg => rfl);(case hr => first|(go_simp;done)|(go_simp;rfl));intro gb158 hg w4 hbox hb;have n0_:=Aside0.mk (blk_below (g:=gb157) (o:=.cells #[.slice A0_0 l0_0.length c0_0, .slice A0_1 l0_1.length c0_1] 28 (0, 0)) (by (with_reducible repeat (first|refine blk_drewN ?_ _|refine blk_drew ?_|refine blk_alloc ?_ _));exact BK157.out) hb);have n1_:=Aside0.mk (below_step (by repeat (first|(with_reducible first|exact HB.out|apply below_alloc|apply pw_below_drewN|apply below_drew1|refine below_set ?_ GE157.out)|exact HB.out)) hb);have n2_:=Aside0.mk (hbox);have n3_:=Aside0.mk ((by rw [hg];exact (below_size (by repeat (first|(with_reducible first|exact HB.out|apply below_alloc|apply pw_below_drewN|apply below_drew1|refine below_set ?_ GE157.out)|exact HB.out))) : w.heap.size ≤ gb158));have n4_:=Aside0.mk ((by rw [hg];exact (below_size (by repeat (first|(with_reducible first|exact HB.out|apply below_alloc|apply pw_below_drewN|apply below_drew1|refine below_set ?_ GE157.out)|exact HB.out))) : w.heap.size ≤ gb158));have n5_:=Aside0.mk ((by rw [hg];exact Nat.ne_of_lt (blk_lt (g:=gb157) (o:=.cells #[.slice A0_0 l0_0.length c0_0, .slice A0_1 l0_1.length c0_1] 28 (0, 0)) (by (with_reducible repeat (first|refine blk_drewN ?_ _|refine blk_drew ?_|refine blk_alloc ?_ _));exact BK157.out)) : gb157 ≠ gb158));have n6_:=Aside0.mk ((by rw [hg];exact Nat.ne_of_gt (blk_lt (g:=gb157) (o:=.cells #[.slice A0_0 l0_0.length c0_0, .slice A0_1 l0_1.length c0_1] 28 (0, 0)) (by (with_reducible repeat (first|refine blk_drewN ?_ _|refine blk_drew ?_|refine blk_alloc ?_ _));exact BK157.out)) : gb158 ≠ gb157));clear BK157;clear HB;have BK157:=n0_;have HB:=n1_;have BK158:=n2_;have GW158:=n3_;have GE158:=n4_;have NB157_158:=n5_;have NB158_157:=n6_;clear n0_ n1_ n2_ n3_ n4_ n5_ n6_;clear hb hbox hg)|((with_reducible refine gate_dst (N:=5) rfl ?_);refine box_event ?hg (N:=5) ?hd (cs:=#[.slice none 0 0, .slice none 0 0]) (t:=28) ?hr ?_;(case hd => rfl);(case hg => rfl);(case hr => first|(go_simp;done)|(go_simp;rfl));intro gb159 hg w5 hbox hb;have n0_:=Aside0.mk (blk_below (g:=gb157) (o:=.cells #[.slice A0_0 l0_0.length c0_0, .slice A0_1 l0_1.length c0_1] 28 (0, 0)) (by (with_reducible repeat (first|refine blk_drewN ?_ _|refine blk_drew ?_|refine blk_alloc ?_ _));exact BK157.out) hb);have n1_:=Aside0.mk (blk_below (g:=gb158) (o:=.cells #[.slice none 0 0, .slice none 0 0] 28 (0, 0)) (by (with_reducible repeat (first|refine blk_drewN ?_ _|refine blk_drew ?_|refine blk_alloc ?_ _));exact BK158.out) hb);have n2_:=Aside0.mk (below_step (by repeat (first|(with_reducible first|exact HB.out|apply below_alloc|apply pw_below_drewN|apply below_drew1|refine below_set ?_ GE157.out|refine below_set ?_ GE158.out)|exact HB.out)) hb);have n3_:=Aside0.mk (hbox);have n4_:=Aside0.mk ((by rw [hg];exact (below_size (by repeat (first|(with_reducible first|exact HB.out|apply below_alloc|apply pw_below_drewN|apply below_drew1|refine below_set ?_ GE157.out|refine below_set ?_ GE158.out)|exact HB.out))) : w.heap.size ≤ gb159));have n5_:=Aside0.mk ((by rw [hg];exact (below_size (by repeat (first|(with_reducible first|exact HB.out|apply below_alloc|apply pw_below_drewN|apply below_drew1|refine below_set ?_ GE157.out|refine below_set ?_ GE158.out)|exact HB.out))) : w.heap.size ≤ gb159));have n6_:=Aside0.mk ((by rw [hg];exact Nat.ne_of_lt (blk_lt (g:=gb157) (o:=.cells #[.slice A0_0 l0_0.length c0_0, .slice A0_1 l0_1.length c0_1] 28 (0, 0)) (by (with_reducible repeat (first|refine blk_drewN ?_ _|refine blk_drew ?_|refine blk_alloc ?_ _));exact BK157.out)) : gb157 ≠ gb159));have n7_:=Aside0.mk ((by rw [hg];exact Nat.ne_of_gt (blk_lt (g:=gb157) (o:=.cells #[.slice A0_0 l0_0.length c0_0, .slice A0_1 l0_1.length c0_1] 28 (0, 0)) (by (with_reducible repeat (first|refine blk_drewN ?_ _|refine blk_drew ?_|refine blk_alloc ?_ _));exact BK157.out)) : gb159 ≠ gb157));have n8_:=Aside0.mk ((by rw [hg];exact Nat.ne_of_lt (blk_lt (g:=gb158) (o:=.cells #[.slice none 0 0, .slice none 0 0] 28 (0, 0)) (by (with_reducible repeat (first|refine blk_drewN ?_ _|refine blk_drew ?_|refine blk_alloc ?_ _));exact BK158.out)) : gb158 ≠ gb159));have n9_:=Aside0.mk ((by rw [hg];exact Nat.ne_of_gt (blk_lt (g:=gb158) (o:=.cells #[.slice none 0 0, .slice none 0 0] 28 (0, 0)) (by (with_reducible repeat (first|refine blk_drewN ?_ _|refine blk_drew ?_|refine blk_alloc ?_ _));exact BK158.out)) : gb159 ≠ gb158));clear BK157;clear BK158;clear HB;have BK157:=n0_;have BK158:=n1_;have HB:=n2_;have BK159:=n3_;have GW159:=n4_;have GE159:=n5_;have NB157_159:=n6_;have NB159_157:=n7_;have NB158_159:=n8_;have NB159_158:=n9_;clear n0_ n1_ n2_ n3_ n4_ n5_ n6_ n7_ n8_ n9_;clear hb hbox hg)|((with_reducible refine gate_dst (N:=6) rfl ?_);refine box_event ?hg (N:=6) ?hd (cs:=#[.slice none 0 0, .slice none 0 0]) (t:=28) ?hr ?_;(case hd => rfl);(case hg => rfl);(case hr => first|(go_simp;done)|(go_simp;rfl));intro gb160 hg w6 hbox hb;have n0_:=Aside0.mk (blk_below (g:=gb157) (o:=.cells #[.slice A0_0 l0_0.length c0_0, .slice A0_1 l0_1.length c0_1] 28 (0, 0)) (by (with_reducible repeat (first|refine blk_drewN ?_ _|refine blk_drew ?_|refine blk_alloc ?_ _));exact BK157.out) hb);have n1_:=Aside0.mk (blk_below (g:=gb158) (o:=.cells #[.slice none 0 0, .slice none 0 0] 28 (0, 0)) (by (with_reducible repeat (first|refine blk_drewN ?_ _|refine blk_drew ?_|refine blk_alloc ?_ _));exact BK158.out) hb);have n2_:=Aside0.mk (blk_below (g:=gb159) (o:=.cells #[.slice none 0 0, .slice none 0 0] 28 (0, 0)) (by (with_reducible repeat (first|refine blk_drewN ?_ _|refine blk_drew ?_|refine blk_alloc ?_ _));exact BK159.out) hb);have n3_:=Aside0.mk (below_step (by repeat (first|(with_reducible first|exact HB.out|apply below_alloc|apply pw_below_drewN|apply below_drew1|refine below_set ?_ GE157.out|refine below_set ?_ GE158.out|refine below_set ?_ GE159.out)|exact HB.out)) hb);have n4_:=Aside0.mk (hbox);have n5_:=Aside0.mk ((by rw [hg];exact (below_size (by repeat (first|(with_reducible first|exact HB.out|apply below_alloc|apply pw_below_drewN|apply below_drew1|refine below_set ?_ GE157.out|refine below_set ?_ GE158.out|refine below_set ?_ GE159.out)|exact HB.out))) : w.heap.size ≤ gb160));have n6_:=Aside0.mk ((by rw [hg];exact (below_size (by repeat (first|(with_reducible first|exact HB.out|apply below_alloc|apply pw_below_drewN|apply below_drew1|refine below_set ?_ GE157.out|refine below_set ?_ GE158.out|refine below_set ?_ GE159.out)|exact HB.out))) : w.heap.size ≤ gb160));have n7_:=Aside0.mk ((by rw [hg];exact Nat.ne_of_lt (blk_lt (g:=gb157) (o:=.cells #[.slice A0_0 l0_0.length c0_0, .slice A0_1 l0_1.length c0_1] 28 (0, 0)) (by (with_reducible repeat (first|refine blk_drewN ?_ _|refine blk_drew ?_|refine blk_alloc ?_ _));exact BK157.out)) : gb157 ≠ gb160));have n8_:=Aside0.mk ((by rw [hg];exact Nat.ne_of_gt (blk_lt (g:=gb157) (o:=.cells #[.slice A0_0 l0_0.length c0_0, .slice A0_1 l0_1.length c0_1] 28 (0, 0)) (by (with_reducible repeat (first|refine blk_drewN ?_ _|refine blk_drew ?_|refine blk_alloc ?_ _));exact BK157.out)) : gb160 ≠ gb157));have n9_:=Aside0.mk ((by rw [hg];exact Nat.ne_of_lt (blk_lt (g:=gb158) (o:=.cells #[.slice none 0 0, .slice none 0 0] 28 (0, 0)) (by (with_reducible repeat (first|refine blk_drewN ?_ _|refine blk_drew ?_|refine blk_alloc ?_ _));exact BK158.out)) : gb158 ≠ gb160));have n10_:=Aside0.mk ((by rw [hg];exact Nat.ne_of_gt (blk_lt (g:=gb158) (o:=.cells #[.slice none 0 0, .slice none 0 0] 28 (0, 0)) (by (with_reducible repeat (first|refine blk_drewN ?_ _|refine blk_drew ?_|refine blk_alloc ?_ _));exact BK158.out)) : gb160 ≠ gb158));have n11_:=Aside0.mk ((by rw [hg];exact Nat.ne_of_lt (blk_lt (g:=gb159) (o:=.cells #[.slice none 0 0, .slice none 0 0] 28 (0, 0)) (by (with_reducible repeat (first|refine blk_drewN ?_ _|refine blk_drew ?_|refine blk_alloc ?_ _));exact BK159.out)) : gb159 ≠ gb160));have n12_:=Aside0.mk ((by rw [hg];exact Nat.ne_of_gt (blk_lt (g:=gb159) (o:=.cells #[.slice none 0 0, .slice none 0 0] 28 (0, 0)) (by (with_reducible repeat (first|refine blk_drewN ?_ _|refine blk_drew ?_|refine blk_alloc ?_ _));exact BK159.out)) : gb160 ≠ gb159));clear BK157;clear BK158;clear BK159;clear HB;have BK157:=n0_;have BK158:=n1_;have BK159:=n2_;have HB:=n3_;have BK160:=n4_;have GW160:=n5_;have GE160:=n6_;have NB157_160:=n7_;have NB160_157:=n8_;have NB158_160:=n9_;have NB160_158:=n10_;have NB159_160:=n11_;have NB160_159:=n12_;clear n0_ n1_ n2_ n3_ n4_ n5_ n6_ n7_ n8_ n9_ n10_ n11_ n12_;clear hb hbox hg)|((with_reducible refine gate_dst (N:=7) rfl ?_);refine box_event ?hg (N:=7) ?hd (cs:=#[.slice none 0 0, .slice none 0 0]) (t:=28) ?hr ?_;(case hd => rfl);(case hg => rfl);(case hr => first|(go_simp;done)|(go_simp;rfl));intro gb161 hg w7 hbox hb;have n0_:=Aside0.mk (blk_below (g:=gb157) (o:=.cells #[.slice A0_0 l0_0.length c0_0, .slice A0_1 l0_1.length c0_1] 28 (0, 0)) (by (with_reducible repeat (first|refine blk_drewN ?_ _|refine blk_drew ?_|refine blk_alloc ?_ _));exact BK157.out) hb);have n1_:=Aside0.mk (blk_below (g:=gb158) (o:=.cells #[.slice none 0 0, .slice none 0 0] 28 (0, 0)) (by (with_reducible repeat (first|refine blk_drewN ?_ _|refine blk_drew ?_|refine blk_alloc ?_ _));exact BK158.out) hb);have n2_:=Aside0.mk (blk_below (g:=gb159) (o:=.cells #[.slice none 0 0, .slice none 0 0] 28 (0, 0)) (by (with_reducible repeat (first|refine blk_drewN ?_ _|refine blk_drew ?_|refine blk_alloc ?_ _));exact BK159.out) hb);have n3_:=Aside0.mk (blk_below (g:=gb160) (o:=.cells #[.slice none 0 0, .slice none 0 0] 28 (0, 0)) (by (with_reducible repeat (first|refine blk_drewN ?_ _|refine blk_drew ?_|refine blk_alloc ?_ _));exact BK160.out) hb);have n4_:=Aside0.mk (below_step (by repeat (first|(with_reducible first|exact HB.out|apply below_alloc|apply pw_below_drewN|apply below_drew1|refine below_set ?_ GE157.out|refine below_set ?_ GE158.out|refine below_set ?_ GE159.out|refine below_set ?_ GE160.out)|exact HB.out)) hb);have n5_:=Aside0.mk (hbox);have n6_:=Aside0.mk ((by rw [hg];exact (below_size (by repeat (first|(with_reducible first|exact HB.out|apply below_alloc|apply pw_below_drewN|apply below_drew1|refine below_set ?_ GE157.out|refine below_set ?_ GE158.out|refine below_set ?_ GE159.out|refine below_set ?_ GE160.out)|exact HB.out))) : w.heap.size ≤ gb161));have n7_:=Aside0.mk ((by rw [hg];exact (below_size (by repeat (first|(with_reducible first|exact HB.out|apply below_alloc|apply pw_below_drewN|apply below_drew1|refine below_set ?_ GE157.out|refine below_set ?_ GE158.out|refine below_set ?_ GE159.out|refine below_set ?_ GE160.out)|exact HB.out))) : w.heap.size ≤ gb161));have n8_:=Aside0.mk ((by rw [hg];exact Nat.ne_of_lt (blk_lt (g:=gb157) (o:=.cells #[.slice A0_0 l0_0.length c0_0, .slice A0_1 l0_1.length c0_1] 28 (0, 0)) (by (with_reducible repeat (first|refine blk_drewN ?_ _|refine blk_drew ?_|refine blk_alloc ?_ _));exact BK157.out)) : gb157 ≠ gb161));have n9_:=Aside0.mk ((by rw [hg];exact Nat.ne_of_gt (blk_lt (g:=gb157) (o:=.cells #[.slice A0_0 l0_0.length c0_0, .slice A0_1 l0_1.length c0_1] 28 (0, 0)) (by (with_reducible repeat (first|refine blk_drewN ?_ _|refine blk_drew ?_|refine blk_alloc ?_ _));exact BK157.out)) : gb161 ≠ gb157));have n10_:=Aside0.mk ((by rw [hg];exact Nat.ne_of_lt (blk_lt (g:=gb158) (o:=.cells #[.slice none 0 0, .slice none 0 0] 28 (0, 0)) (by (with_reducible repeat (first|refine blk_drewN ?_ _|refine blk_drew ?_|refine blk_alloc ?_ _));exact BK158.out)) : gb158 ≠ gb161));have n11_:=Aside0.mk ((by rw [hg];exact Nat.ne_of_gt (blk_lt (g:=gb158) (o:=.cells #[.slice none 0 0, .slice none 0 0] 28 (0, 0)) (by (with_reducible repeat (first|refine blk_drewN ?_ _|refine blk_drew ?_|refine blk_alloc ?_ _));exact BK158.out)) : gb161 ≠ gb158));have n12_:=Aside0.mk ((by rw [hg];exact Nat.ne_of_lt (blk_lt (g:=gb159) (o:=.cells #[.slice none 0 0, .slice none 0 0] 28 (0, 0)) (by (with_reducible repeat (first|refine blk_drewN ?_ _|refine blk_drew ?_|refine blk_alloc ?_ _));exact BK159.out)) : gb159 ≠ gb161));have n13_:=Aside0.mk ((by rw [hg];exact Nat.ne_of_gt (blk_lt (g:=gb159) (o:=.cells #[.slice none 0 0, .slice none 0 0] 28 (0, 0)) (by (with_reducible repeat (first|refine blk_drewN ?_ _|refine blk_drew ?_|refine blk_alloc ?_ _));exact BK159.out)) : gb161 ≠ gb159));have n14_:=Aside0.mk ((by rw [hg];exact Nat.ne_of_lt (blk_lt (g:=gb160) (o:=.cells #[.slice none 0 0, .slice none 0 0] 28 (0, 0)) (by (with_reducible repeat (first|refine blk_drewN ?_ _|refine blk_drew ?_|refine blk_alloc ?_ _));exact BK160.out)) : gb160 ≠ gb161));have n15_:=Aside0.mk ((by rw [hg];exact Nat.ne_of_gt (blk_lt (g:=gb160) (o:=.cells #[.slice none 0 0, .slice none 0 0] 28 (0, 0)) (by (with_reducible repeat (first|refine blk_drewN ?_ _|refine blk_drew ?_|refine blk_alloc ?_ _));exact BK160.out)) : gb161 ≠ gb160));clear BK157;clear BK158;clear BK159;clear BK160;clear HB;have BK157:=n0_;have BK158:=n1_;have BK159:=n2_;have BK160:=n3_;have HB:=n4_;have BK161:=n5_;have GW161:=n6_;have GE161:=n7_;have NB157_161:=n8_;have NB161_157:=n9_;have NB158_161:=n10_;have NB161_158:=n11_;have NB159_161:=n12_;have NB161_159:=n13_;have NB160_161:=n14_;have NB161_160:=n15_;clear n0_ n1_ n2_ n3_ n4_ n5_ n6_ n7_ n8_ n9_ n10_ n11_ n12_ n13_ n14_ n15_;clear hb hbox hg;have hnb8:=NB157_158.out;have hnc8:=NB158_157.out;have hnb9:=NB157_159.out;have hnc9:=NB159_157.out;have hnb10:=NB157_160.out;have hnc10:=NB160_157.out;have hnb11:=NB157_161.out;have hnc11:=NB161_157.out;have hcz12_0 : w7.cell? ⟨gb157, 0, none⟩ = some (.slice A0_0 l0_0.length c0_0):=(blk_cell BK157.out 0).trans rfl;have hcz12_1 : w7.cell? ⟨gb157, 1, none⟩ = some (.slice A0_1 l0_1.length c0_1):=(blk_cell BK157.out 1).trans rfl;have hfz12_0:=blk_frozen BK157.out 0;have hfz12_1:=blk_frozen BK157.out 1))
 go_loopg [15] k (fun kq v15 w' => ∃ (x15_1 : Int) (x161000_1 : List (S26)) (x162000_1 : List (S26)) (u161000 : Value) (u162000 : Value), v15 = .int .i64 x15_1 ∧ Aside0 (marks_Part.l0 kq a1 l0_0 (l0_0.length : Int) x15_1 l0_0 l0_1 x161000_1 x162000_1 = some (r1, r2, r3, r4)) ∧ Aside0 (kq ≤ k) ∧ Aside0 (Kd.R k26 26 w' w.heap.size (fun k_ => some k_ ≠ (u162000 : Value).ownBlock) u161000 x161000_1) ∧ Aside0 (Kd.R k26 26 w' w.heap.size (fun k_ => some k_ ≠ (u161000 : Value).ownBlock) u162000 x162000_1) ∧ Aside0 (w'.heap[gb157]? = some (.cells #[(.slice A0_0 l0_0.length c0_0), (.slice A0_1 l0_1.length c0_1)] 28 (0, 0))) ∧ Aside0 (w'.heap[gb158]? = some (.cells #[(.slice none 0 0), (.slice none 0 0)] 28 (0, 0))) ∧ Aside0 (w'.heap[gb159]? = some (.cells #[(.slice none 0 0), (.slice none 0 0)] 28 (0, 0))) ∧ Aside0 (w'.heap[gb160]? = some (.cells #[u161000, (.slice none 0 0)] 28 (0, 0))) ∧ Aside0 (w'.heap[gb161]? = some (.cells #[u162000, (.slice none 0 0)] 28 (0, 0))) ∧ Aside0 (Below w.heap.size w w'))
 case atStart => exact ⟨(0), (([] : List (S26))), (([] : List (S26))), (.slice none 0 0), (.slice none 0 0), (by first|rfl|(simp;done)|(simp [*];done)), H', ⟨Nat.le_refl _⟩, ⟨by first|exact Kd.R_nil _ _ _ _ _|exact Kd.N_nil _ _ _ _ _|exact Kd.V_nil _ _ _ _ _|exact Kd.Q_nil _ _ _ _ _|exact Kd.S_nil _ _ _ _ _⟩, ⟨by first|exact Kd.R_nil _ _ _ _ _|exact Kd.N_nil _ _ _ _ _|exact Kd.V_nil _ _ _ _ _|exact Kd.Q_nil _ _ _ _ _|exact Kd.S_nil _ _ _ _ _⟩, ⟨by (with_reducible repeat (first|refine blk_drewN ?_ _|refine blk_drew ?_|refine blk_alloc ?_ _));exact BK157.out⟩, ⟨by (with_reducible repeat (first|refine blk_drewN ?_ _|refine blk_drew ?_|refine blk_alloc ?_ _));exact BK158.out⟩, ⟨by (with_reducible repeat (first|refine blk_drewN ?_ _|refine blk_drew ?_|refine blk_alloc ?_ _));exact BK159.out⟩, ⟨by (with_reducible repeat (first|refine blk_drewN ?_ _|refine blk_drew ?_|refine blk_alloc ?_ _));exact BK160.out⟩, ⟨by (with_reducible repeat (first|refine blk_drewN ?_ _|refine blk_drew ?_|refine blk_alloc ?_ _));exact BK161.out⟩, ⟨by repeat (first|(with_reducible first|exact HB.out|apply below_alloc|apply pw_below_drewN|apply below_drew1|refine below_set ?_ GE157.out|refine below_set ?_ GE158.out|refine below_set ?_ GE159.out|refine below_set ?_ GE160.out|refine below_set ?_ GE161.out)|exact HB.out)⟩⟩
 case round =>
  clear H'
  try clear c1
  try clear p2
  try clear c8
  try clear c9
  try clear c10
  try clear c11
  try clear hcz12_0
  try clear hcz12_1
  try clear hfz12_0
  try clear hfz12_1
  obtain ⟨x15_1, x161000_1, x162000_1, u161000, u162000, rfl, HA, HK1, HO_161000, HO_162000, BK157, BK158, BK159, BK160, BK161, HB⟩ := hrel
  cases gk with
  | zero => exact absurd HA.out (by simp [marks_Part.l0])
  | succ k1 =>
   have H := HA.out
   clear HA
   simp only [marks_Part.l0] at H
   by_cases c13 : x15_1 < (l0_0.length : Int)
   ·rw [if_pos c13] at H
    have c13b0 : decide (x15_1 < (l0_0.length : Int)) = true := decide_eq_true c13
    clear c13
    by_cases c14 : 0 ≤ x15_1
    ·rw [if_pos c14] at H
     have c14b0 : decide (0 ≤ x15_1) = true := decide_eq_true c14
     clear c14
     by_cases c15 : x15_1 < (l0_0.length : Int)
     ·rw [if_pos c15] at H
      have c15b0 : decide (x15_1 < (l0_0.length : Int)) = true := decide_eq_true c15
      clear c15
      obtain ⟨ji16, hji16⟩ : ∃ j_ : Int, (mn ((rd_T26 l0_0 x15_1).f2) a1) = j_ := ⟨_, rfl⟩
      replace H : ((marks_add.f x161000_1 ((rd_T26 l0_0 x15_1).f0) ((rd_T26 l0_0 x15_1).f1) (ji16)).bind fun t164 => ((marks_add.f x162000_1 ((rd_T26 l0_0 x15_1).f0) (mx (wrap64 (((rd_T26 l0_0 x15_1).f1) - a1)) 0) (wrap64 (((rd_T26 l0_0 x15_1).f2) - a1))).bind fun t167 => (marks_Part.l0 k1 a1 l0_0 (l0_0.length : Int) (wrap64 (x15_1 + 1)) l0_0 l0_1 t164 t167))) = some (r1, r2, r3, r4) := by first | (rw [hji16] at H; exact H) | (simp only [hji16] at H ⊢; exact H)
      have hji16_ : (if a1 < ((rd_T26 l0_0 x15_1).f2) then a1 else ((rd_T26 l0_0 x15_1).f2)) = ji16 := hji16
      replace H := Option.bind_eq_some_iff.mp H
      obtain ⟨t164, A170, H⟩ := H
      replace H : ((marks_add.f x162000_1 ((rd_T26 l0_0 x15_1).f0) (mx (wrap64 (((rd_T26 l0_0 x15_1).f1) - a1)) 0) (wrap64 (((rd_T26 l0_0 x15_1).f2) - a1))).bind fun t167 => (marks_Part.l0 k1 a1 l0_0 (l0_0.length : Int) (wrap64 (x15_1 + 1)) l0_0 l0_1 t164 t167)) = some (r1, r2, r3, r4) := H
      have A17 := Aside0.mk A170
      clear A170
      obtain ⟨ji18, hji18⟩ : ∃ j_ : Int, (mx (wrap64 (((rd_T26 l0_0 x15_1).f1) - a1)) 0) = j_ := ⟨_, rfl⟩
      replace H : ((marks_add.f x162000_1 ((rd_T26 l0_0 x15_1).f0) (ji18) (wrap64 (((rd_T26 l0_0 x15_1).f2) - a1))).bind fun t167 => (marks_Part.l0 k1 a1 l0_0 (l0_0.length : Int) (wrap64 (x15_1 + 1)) l0_0 l0_1 t164 t167)) = some (r1, r2, r3, r4) := by first | (rw [hji18] at H; exact H) | (simp only [hji18] at H ⊢; exact H)
      (try rw [hji18] at A17)
      have hji18_ : (if (wrap64 (((rd_T26 l0_0 x15_1).f1) - a1)) < 0 then 0 else (wrap64 (((rd_T26 l0_0 x15_1).f1) - a1))) = ji18 := hji18
      replace H := Option.bind_eq_some_iff.mp H
      obtain ⟨t167, A190, H⟩ := H
      replace H : (marks_Part.l0 k1 a1 l0_0 (l0_0.length : Int) (wrap64 (x15_1 + 1)) l0_0 l0_1 t164 t167) = some (r1, r2, r3, r4) := H
      have A19 := Aside0.mk A190
      clear A190
      have H' := Aside0.mk H
      clear H
      have p162 : 0 ≤ (x15_1 : Int):=of_decide_eq_true (by first|(with_reducible assumption)|assumption)
      have q162 : x15_1 < (l0_0.length : Int):=of_decide_eq_true (by first|(with_reducible assumption)|assumption)
      obtain ⟨ad162, e162, hx162_0, hx162_1, hx162_2⟩ := at_T26 HR0_0.out x15_1 p162 q162
      cases e162
      replace hx162_0 := (HB.out.cell (World.block_lt_of_cell? w _ hx162_0)).trans hx162_0
      replace hx162_1 := (HB.out.cell (World.block_lt_of_cell? w _ hx162_1)).trans hx162_1
      replace hx162_2 := (HB.out.cell (World.block_lt_of_cell? w _ hx162_2)).trans hx162_2
      replace p162 := eq_true p162
      replace q162 := eq_true q162
      go_wp2_with (first|((with_reducible refine gate_dst (N:=9) rfl ?_);refine box_event ?hg (N:=9) ?hd (cs:=#[.int .i64 0, .int .i64 0, .int .i64 0]) (t:=26) ?hr ?_;(case hd => rfl);(case hg => rfl);(case hr => first|(go_simp;done)|(go_simp;rfl));intro gb163 hg w20 hbox hb;have n0_:=Aside0.mk (Kd.R_below (Kd.R_elderB (by (with_reducible repeat (first|apply Kd.R_alloc|apply Kd.R_drewN|apply Kd.R_drew));exact HO_161000.out) gb163 (Nat.le_of_eq hg.symm)) hb);have n1_:=Aside0.mk (Kd.R_below (Kd.R_elderB (by (with_reducible repeat (first|apply Kd.R_alloc|apply Kd.R_drewN|apply Kd.R_drew));exact HO_162000.out) gb163 (Nat.le_of_eq hg.symm)) hb);have n2_:=Aside0.mk (blk_below (g:=gb157) (o:=.cells #[.slice (some ad162) l0_0.length c0_0, .slice A0_1 l0_1.length c0_1] 28 (0, 0)) (by (with_reducible repeat (first|refine blk_drewN ?_ _|refine blk_drew ?_|refine blk_alloc ?_ _));exact BK157.out) hb);have n3_:=Aside0.mk (blk_below (g:=gb158) (o:=.cells #[.slice none 0 0, .slice none 0 0] 28 (0, 0)) (by (with_reducible repeat (first|refine blk_drewN ?_ _|refine blk_drew ?_|refine blk_alloc ?_ _));exact BK158.out) hb);have n4_:=Aside0.mk (blk_below (g:=gb159) (o:=.cells #[.slice none 0 0, .slice none 0 0] 28 (0, 0)) (by (with_reducible repeat (first|refine blk_drewN ?_ _|refine blk_drew ?_|refine blk_alloc ?_ _));exact BK159.out) hb);have n5_:=Aside0.mk (blk_below (g:=gb160) (o:=.cells #[u161000, .slice none 0 0] 28 (0, 0)) (by (with_reducible repeat (first|refine blk_drewN ?_ _|refine blk_drew ?_|refine blk_alloc ?_ _));exact BK160.out) hb);have n6_:=Aside0.mk (blk_below (g:=gb161) (o:=.cells #[u162000, .slice none 0 0] 28 (0, 0)) (by (with_reducible repeat (first|refine blk_drewN ?_ _|refine blk_drew ?_|refine blk_alloc ?_ _));exact BK161.out) hb);have n7_:=Aside0.mk (below_step (by repeat (first|(with_reducible first|exact HB.out|apply below_alloc|apply pw_below_drewN|apply below_drew1|refine below_set ?_ GE157.out|refine below_set ?_ GE158.out|refine below_set ?_ GE159.out|refine below_set ?_ GE160.out|refine below_set ?_ GE161.out)|exact HB.out)) hb);have n8_:=Aside0.mk (hbox);have n9_:=Aside0.mk ((by rw [hg];exact (below_size (by repeat (first|(with_reducible first|exact HB.out|apply below_alloc|apply pw_below_drewN|apply below_drew1|refine below_set ?_ GE157.out|refine below_set ?_ GE158.out|refine below_set ?_ GE159.out|refine below_set ?_ GE160.out|refine below_set ?_ GE161.out)|exact HB.out))) : w.heap.size ≤ gb163));have n10_:=Aside0.mk ((by rw [hg];exact (below_size (by repeat (first|(with_reducible first|exact HB.out|apply below_alloc|apply pw_below_drewN|apply below_drew1|refine below_set ?_ GE157.out|refine below_set ?_ GE158.out|refine below_set ?_ GE159.out|refine below_set ?_ GE160.out|refine below_set ?_ GE161.out)|exact HB.out))) : w.heap.size ≤ gb163));have n11_:=Aside0.mk ((by rw [hg];exact Nat.ne_of_lt (blk_lt (g:=gb157) (o:=.cells #[.slice (some ad162) l0_0.length c0_0, .slice A0_1 l0_1.length c0_1] 28 (0, 0)) (by (with_reducible repeat (first|refine blk_drewN ?_ _|refine blk_drew ?_|refine blk_alloc ?_ _));exact BK157.out)) : gb157 ≠ gb163));have n12_:=Aside0.mk ((by rw [hg];exact Nat.ne_of_gt (blk_lt (g:=gb157) (o:=.cells #[.slice (some ad162) l0_0.length c0_0, .slice A0_1 l0_1.length c0_1] 28 (0, 0)) (by (with_reducible repeat (first|refine blk_drewN ?_ _|refine blk_drew ?_|refine blk_alloc ?_ _));exact BK157.out)) : gb163 ≠ gb157));have n13_:=Aside0.mk ((by rw [hg];exact Nat.ne_of_lt (blk_lt (g:=gb158) (o:=.cells #[.slice none 0 0, .slice none 0 0] 28 (0, 0)) (by (with_reducible repeat (first|refine blk_drewN ?_ _|refine blk_drew ?_|refine blk_alloc ?_ _));exact BK158.out)) : gb158 ≠ gb163));have n14_:=Aside0.mk ((by rw [hg];exact Nat.ne_of_gt (blk_lt (g:=gb158) (o:=.cells #[.slice none 0 0, .slice none 0 0] 28 (0, 0)) (by (with_reducible repeat (first|refine blk_drewN ?_ _|refine blk_drew ?_|refine blk_alloc ?_ _));exact BK158.out)) : gb163 ≠ gb158));have n15_:=Aside0.mk ((by rw [hg];exact Nat.ne_of_lt (blk_lt (g:=gb159) (o:=.cells #[.slice none 0 0, .slice none 0 0] 28 (0, 0)) (by (with_reducible repeat (first|refine blk_drewN ?_ _|refine blk_drew ?_|refine blk_alloc ?_ _));exact BK159.out)) : gb159 ≠ gb163));have n16_:=Aside0.mk ((by rw [hg];exact Nat.ne_of_gt (blk_lt (g:=gb159) (o:=.cells #[.slice none 0 0, .slice none 0 0] 28 (0, 0)) (by (with_reducible repeat (first|refine blk_drewN ?_ _|refine blk_drew ?_|refine blk_alloc ?_ _));exact BK159.out)) : gb163 ≠ gb159));have n17_:=Aside0.mk ((by rw [hg];exact Nat.ne_of_lt (blk_lt (g:=gb160) (o:=.cells #[u161000, .slice none 0 0] 28 (0, 0)) (by (with_reducible repeat (first|refine blk_drewN ?_ _|refine blk_drew ?_|refine blk_alloc ?_ _));exact BK160.out)) : gb160 ≠ gb163));have n18_:=Aside0.mk ((by rw [hg];exact Nat.ne_of_gt (blk_lt (g:=gb160) (o:=.cells #[u161000, .slice none 0 0] 28 (0, 0)) (by (with_reducible repeat (first|refine blk_drewN ?_ _|refine blk_drew ?_|refine blk_alloc ?_ _));exact BK160.out)) : gb163 ≠ gb160));have n19_:=Aside0.mk ((by rw [hg];exact Nat.ne_of_lt (blk_lt (g:=gb161) (o:=.cells #[u162000, .slice none 0 0] 28 (0, 0)) (by (with_reducible repeat (first|refine blk_drewN ?_ _|refine blk_drew ?_|refine blk_alloc ?_ _));exact BK161.out)) : gb161 ≠ gb163));have n20_:=Aside0.mk ((by rw [hg];exact Nat.ne_of_gt (blk_lt (g:=gb161) (o:=.cells #[u162000, .slice none 0 0] 28 (0, 0)) (by (with_reducible repeat (first|refine blk_drewN ?_ _|refine blk_drew ?_|refine blk_alloc ?_ _));exact BK161.out)) : gb163 ≠ gb161));clear HO_161000;clear HO_162000;clear BK157;clear BK158;clear BK159;clear BK160;clear BK161;clear HB;have HO_161000:=n0_;have HO_162000:=n1_;have BK157:=n2_;have BK158:=n3_;have BK159:=n4_;have BK160:=n5_;have BK161:=n6_;have HB:=n7_;have BK163:=n8_;have GW163:=n9_;have GE163:=n10_;have NB157_163:=n11_;have NB163_157:=n12_;have NB158_163:=n13_;have NB163_158:=n14_;have NB159_163:=n15_;have NB163_159:=n16_;have NB160_163:=n17_;have NB163_160:=n18_;have NB161_163:=n19_;have NB163_161:=n20_;clear n0_ n1_ n2_ n3_ n4_ n5_ n6_ n7_ n8_ n9_ n10_ n11_ n12_ n13_ n14_ n15_ n16_ n17_ n18_ n19_ n20_;clear hb hbox hg;have hnb21:=NB163_157.out;have hnc21:=NB157_163.out;have hnb22:=NB163_158.out;have hnc22:=NB158_163.out;have hnb23:=NB163_159.out;have hnc23:=NB159_163.out;have hnb24:=NB163_160.out;have hnc24:=NB160_163.out;have hnb25:=NB163_161.out;have hnc25:=NB161_163.out;have hcz26_0 : w20.cell? ⟨gb163, 0, none⟩ = some (.int .i64 0):=(blk_cell BK163.out 0).trans rfl;have hcz26_1 : w20.cell? ⟨gb163, 1, none⟩ = some (.int .i64 0):=(blk_cell BK163.out 1).trans rfl;have hcz26_2 : w20.cell? ⟨gb163, 2, none⟩ = some (.int .i64 0):=(blk_cell BK163.out 2).trans rfl;have hfz26_0:=blk_frozen BK163.out 0;have hfz26_1:=blk_frozen BK163.out 1;have hfz26_2:=blk_frozen BK163.out 2)|((with_reducible refine gate_store (t:=26) (p:=9) rfl ?_);refine store_event (t:=26) (p:=9) (v:=?vo_w27) (w1:=(((w20.setCell ⟨gb163, 0, none⟩ (.int .i64 ((rd_T26 l0_0 x15_1).f0))).setCell ⟨gb163, 1, none⟩ (.int .i64 ((rd_T26 l0_0 x15_1).f1))).setCell ⟨gb163, 2, none⟩ (.int .i64 ((rd_T26 l0_0 x15_1).f2)))) ?hg ?ho ?hn ?hr ?_;(case ho => rfl);(case hg => rfl);(case hn => rfl);(case hr => first|(go_simp;done)|(go_simp;rfl));intro w27 hw;have n0_ : Aside0 (Kd.R k26 26 w27 w.heap.size (fun k_ => some k_ ≠ (u162000 : Value).ownBlock ∧ k_ ≠ gb163) u161000 x161000_1):=⟨(by rw [hw];exact (by (with_reducible repeat (first|apply Kd.R_alloc|apply Kd.R_drewN|apply Kd.R_drew));exact Kd.R_mono (Kd.R_far (p:=⟨gb163, 2, none⟩) (Kd.R_far (p:=⟨gb163, 1, none⟩) (Kd.R_far (p:=⟨gb163, 0, none⟩) (Kd.R_mono HO_161000.out (fun k_ hk => (⟨hk, hk.2⟩ : _ ∧ k_ ≠ gb163))) (fun _ hk => hk.2) (.int .i64 ((rd_T26 l0_0 x15_1).f0))) (fun _ hk => hk.2) (.int .i64 ((rd_T26 l0_0 x15_1).f1))) (fun _ hk => hk.2) (.int .i64 ((rd_T26 l0_0 x15_1).f2))) (fun _ hk => ⟨hk.1.1, hk.1.2⟩)))⟩;have n1_ : Aside0 (Kd.R k26 26 w27 w.heap.size (fun k_ => some k_ ≠ (u161000 : Value).ownBlock ∧ k_ ≠ gb163) u162000 x162000_1):=⟨(by rw [hw];exact (by (with_reducible repeat (first|apply Kd.R_alloc|apply Kd.R_drewN|apply Kd.R_drew));exact Kd.R_mono (Kd.R_far (p:=⟨gb163, 2, none⟩) (Kd.R_far (p:=⟨gb163, 1, none⟩) (Kd.R_far (p:=⟨gb163, 0, none⟩) (Kd.R_mono HO_162000.out (fun k_ hk => (⟨hk, hk.2⟩ : _ ∧ k_ ≠ gb163))) (fun _ hk => hk.2) (.int .i64 ((rd_T26 l0_0 x15_1).f0))) (fun _ hk => hk.2) (.int .i64 ((rd_T26 l0_0 x15_1).f1))) (fun _ hk => hk.2) (.int .i64 ((rd_T26 l0_0 x15_1).f2))) (fun _ hk => ⟨hk.1.1, hk.1.2⟩)))⟩;have n2_ : Aside0 (w27.heap[gb157]? = some (.cells #[.slice (some ad162) l0_0.length c0_0, .slice A0_1 l0_1.length c0_1] 28 (0, 0))):=⟨(by rw [hw];exact (by (with_reducible repeat (first|refine blk_drewN ?_ _|refine blk_drew ?_|refine blk_alloc ?_ _));refine blk_far ?_ NB157_163.out _;(with_reducible repeat (first|refine blk_drewN ?_ _|refine blk_drew ?_|refine blk_alloc ?_ _));refine blk_far ?_ NB157_163.out _;(with_reducible repeat (first|refine blk_drewN ?_ _|refine blk_drew ?_|refine blk_alloc ?_ _));refine blk_far ?_ NB157_163.out _;(with_reducible repeat (first|refine blk_drewN ?_ _|refine blk_drew ?_|refine blk_alloc ?_ _));exact BK157.out))⟩;have n3_ : Aside0 (w27.heap[gb158]? = some (.cells #[.slice none 0 0, .slice none 0 0] 28 (0, 0))):=⟨(by rw [hw];exact (by (with_reducible repeat (first|refine blk_drewN ?_ _|refine blk_drew ?_|refine blk_alloc ?_ _));refine blk_far ?_ NB158_163.out _;(with_reducible repeat (first|refine blk_drewN ?_ _|refine blk_drew ?_|refine blk_alloc ?_ _));refine blk_far ?_ NB158_163.out _;(with_reducible repeat (first|refine blk_drewN ?_ _|refine blk_drew ?_|refine blk_alloc ?_ _));refine blk_far ?_ NB158_163.out _;(with_reducible repeat (first|refine blk_drewN ?_ _|refine blk_drew ?_|refine blk_alloc ?_ _));exact BK158.out))⟩;have n4_ : Aside0 (w27.heap[gb159]? = some (.cells #[.slice none 0 0, .slice none 0 0] 28 (0, 0))):=⟨(by rw [hw];exact (by (with_reducible repeat (first|refine blk_drewN ?_ _|refine blk_drew ?_|refine blk_alloc ?_ _));refine blk_far ?_ NB159_163.out _;(with_reducible repeat (first|refine blk_drewN ?_ _|refine blk_drew ?_|refine blk_alloc ?_ _));refine blk_far ?_ NB159_163.out _;(with_reducible repeat (first|refine blk_drewN ?_ _|refine blk_drew ?_|refine blk_alloc ?_ _));refine blk_far ?_ NB159_163.out _;(with_reducible repeat (first|refine blk_drewN ?_ _|refine blk_drew ?_|refine blk_alloc ?_ _));exact BK159.out))⟩;have n5_ : Aside0 (w27.heap[gb160]? = some (.cells #[u161000, .slice none 0 0] 28 (0, 0))):=⟨(by rw [hw];exact (by (with_reducible repeat (first|refine blk_drewN ?_ _|refine blk_drew ?_|refine blk_alloc ?_ _));refine blk_far ?_ NB160_163.out _;(with_reducible repeat (first|refine blk_drewN ?_ _|refine blk_drew ?_|refine blk_alloc ?_ _));refine blk_far ?_ NB160_163.out _;(with_reducible repeat (first|refine blk_drewN ?_ _|refine blk_drew ?_|refine blk_alloc ?_ _));refine blk_far ?_ NB160_163.out _;(with_reducible repeat (first|refine blk_drewN ?_ _|refine blk_drew ?_|refine blk_alloc ?_ _));exact BK160.out))⟩;have n6_ : Aside0 (w27.heap[gb161]? = some (.cells #[u162000, .slice none 0 0] 28 (0, 0))):=⟨(by rw [hw];exact (by (with_reducible repeat (first|refine blk_drewN ?_ _|refine blk_drew ?_|refine blk_alloc ?_ _));refine blk_far ?_ NB161_163.out _;(with_reducible repeat (first|refine blk_drewN ?_ _|refine blk_drew ?_|refine blk_alloc ?_ _));refine blk_far ?_ NB161_163.out _;(with_reducible repeat (first|refine blk_drewN ?_ _|refine blk_drew ?_|refine blk_alloc ?_ _));refine blk_far ?_ NB161_163.out _;(with_reducible repeat (first|refine blk_drewN ?_ _|refine blk_drew ?_|refine blk_alloc ?_ _));exact BK161.out))⟩;have n7_ : Aside0 (w27.heap[gb163]? = some (.cells #[.int .i64 ((rd_T26 l0_0 x15_1).f0), .int .i64 ((rd_T26 l0_0 x15_1).f1), .int .i64 ((rd_T26 l0_0 x15_1).f2)] 26 (0, 0))):=⟨(by rw [hw];exact (by (with_reducible repeat (first|refine blk_drewN ?_ _|refine blk_drew ?_|refine blk_alloc ?_ _));refine blk_put (cs:=#[.int .i64 ((rd_T26 l0_0 x15_1).f0), .int .i64 ((rd_T26 l0_0 x15_1).f1), .int .i64 0]) ?_ 2 _ rfl;(with_reducible repeat (first|refine blk_drewN ?_ _|refine blk_drew ?_|refine blk_alloc ?_ _));refine blk_put (cs:=#[.int .i64 ((rd_T26 l0_0 x15_1).f0), .int .i64 0, .int .i64 0]) ?_ 1 _ rfl;(with_reducible repeat (first|refine blk_drewN ?_ _|refine blk_drew ?_|refine blk_alloc ?_ _));refine blk_put (cs:=#[.int .i64 0, .int .i64 0, .int .i64 0]) ?_ 0 _ rfl;(with_reducible repeat (first|refine blk_drewN ?_ _|refine blk_drew ?_|refine blk_alloc ?_ _));exact BK163.out))⟩;have n8_ : Aside0 (Below w.heap.size w w27):=⟨(by rw [hw];exact (by repeat (first|(with_reducible first|exact HB.out|apply below_alloc|apply pw_below_drewN|apply below_drew1|refine below_set ?_ GE157.out|refine below_set ?_ GE158.out|refine below_set ?_ GE159.out|refine below_set ?_ GE160.out|refine below_set ?_ GE161.out|refine below_set ?_ GE163.out)|exact HB.out)))⟩;clear hw;clear HO_161000;clear HO_162000;clear BK157;clear BK158;clear BK159;clear BK160;clear BK161;clear BK163;clear HB;have HO_161000:=n0_;have HO_162000:=n1_;have BK157:=n2_;have BK158:=n3_;have BK159:=n4_;have BK160:=n5_;have BK161:=n6_;have BK163:=n7_;have HB:=n8_;clear n0_ n1_ n2_ n3_ n4_ n5_ n6_ n7_ n8_;have hnb28:=NB160_157.out;have hnc28:=NB157_160.out;have hnb29:=NB160_158.out;have hnc29:=NB158_160.out;have hnb30:=NB160_159.out;have hnc30:=NB159_160.out;have hnb31:=NB160_161.out;have hnc31:=NB161_160.out;have hcz32_0 : w27.cell? ⟨gb160, 0, none⟩ = some (u161000):=(blk_cell BK160.out 0).trans rfl;have hcz32_1 : w27.cell? ⟨gb160, 1, none⟩ = some (.slice none 0 0):=(blk_cell BK160.out 1).trans rfl;have hfz32_0:=blk_frozen BK160.out 0;have hfz32_1:=blk_frozen BK160.out 1;have hcz33_0 : w27.cell? ⟨gb163, 0, none⟩ = some (.int .i64 ((rd_T26 l0_0 x15_1).f0)):=(blk_cell BK163.out 0).trans rfl;have hcz33_1 : w27.cell? ⟨gb163, 1, none⟩ = some (.int .i64 ((rd_T26 l0_0 x15_1).f1)):=(blk_cell BK163.out 1).trans rfl;have hcz33_2 : w27.cell? ⟨gb163, 2, none⟩ = some (.int .i64 ((rd_T26 l0_0 x15_1).f2)):=(blk_cell BK163.out 2).trans rfl;have hfz33_0:=blk_frozen BK163.out 0;have hfz33_1:=blk_frozen BK163.out 1;have hfz33_2:=blk_frozen BK163.out 2;obtain ⟨Ao34, co34, eo34⟩:=Kd.R_slice HO_161000.out;subst eo34)|((with_reducible refine gate_callee (f:=32) rfl ?_);refine goesL_ (some 30) rfl rfl Try.func32 (by kernel_rfl) rfl #[.slice Ao34 x161000_1.length co34, .agg #[.int .i64 ((rd_T26 l0_0 x15_1).f0), .int .i64 ((rd_T26 l0_0 x15_1).f1), .int .i64 ji16]] rfl (by (try simp only [List.map_toArray, List.map_cons, List.map_nil]);first|done|(simp only [hji16];rfl)|rfl|(simp only [List.length_drop, List.length_take];rfl)) ?_;(with_reducible refine (marks_add.calls (fun k_ => some k_ = (.slice Ao34 x161000_1.length co34 : Value).ownBlock) (.slice Ao34 x161000_1.length co34) x161000_1 ((rd_T26 l0_0 x15_1).f0) ((rd_T26 l0_0 x15_1).f1) ji16 t164 w _ ?side1 ?side2 A17.out).mono ?_);(case side1 => repeat (first|(with_reducible first|exact HB.out|apply below_alloc|apply pw_below_drewN|apply below_drew1|refine below_set ?_ GE157.out|refine below_set ?_ GE158.out|refine below_set ?_ GE159.out|refine below_set ?_ GE160.out|refine below_set ?_ GE161.out|refine below_set ?_ GE163.out)|exact HB.out));(case side2 => exact Kd.R_tight rfl HO_161000.out);rintro e w35 ⟨v165, rfl, ho0, hb, hkp⟩;refine ⟨_, rfl, ?_⟩;have n0_:=Aside0.mk (Kd.R_mono (ok':=fun k_ => k_ ≠ gb163 ∧ some k_ ≠ (v165 : Value).ownBlock) (Kd.R_keptB (HO_162000.out) hkp (fun k_ hk_ hs_ => (hk_.1) hs_)) (fun k_ hk_ => ⟨hk_.1.2, fun e_ => Or.elim (ho0.1 k_ e_.symm) (fun hs_ => hk_.2.1 hs_) (fun hn_ => Nat.not_le.2 hk_.2.2 hn_)⟩));have n1_:=Aside0.mk (blk_kept (by (with_reducible repeat (first|refine blk_drewN ?_ _|refine blk_drew ?_|refine blk_alloc ?_ _));exact BK157.out) hkp (fun hs_ => (fun e_ => (Kd.R_ne HO_161000.out BK157.out (by decide)) e_) hs_));have n2_:=Aside0.mk (blk_kept (by (with_reducible repeat (first|refine blk_drewN ?_ _|refine blk_drew ?_|refine blk_alloc ?_ _));exact BK158.out) hkp (fun hs_ => (fun e_ => (Kd.R_ne HO_161000.out BK158.out (by decide)) e_) hs_));have n3_:=Aside0.mk (blk_kept (by (with_reducible repeat (first|refine blk_drewN ?_ _|refine blk_drew ?_|refine blk_alloc ?_ _));exact BK159.out) hkp (fun hs_ => (fun e_ => (Kd.R_ne HO_161000.out BK159.out (by decide)) e_) hs_));have n4_:=Aside0.mk (blk_kept (by (with_reducible repeat (first|refine blk_drewN ?_ _|refine blk_drew ?_|refine blk_alloc ?_ _));exact BK160.out) hkp (fun hs_ => (fun e_ => (Kd.R_ne HO_161000.out BK160.out (by decide)) e_) hs_));have n5_:=Aside0.mk (blk_kept (by (with_reducible repeat (first|refine blk_drewN ?_ _|refine blk_drew ?_|refine blk_alloc ?_ _));exact BK161.out) hkp (fun hs_ => (fun e_ => (Kd.R_ne HO_161000.out BK161.out (by decide)) e_) hs_));have n6_:=Aside0.mk (blk_kept (by (with_reducible repeat (first|refine blk_drewN ?_ _|refine blk_drew ?_|refine blk_alloc ?_ _));exact BK163.out) hkp (fun hs_ => (fun e_ => (Kd.R_away HO_161000.out (fun _ hk => hk.2)) e_) hs_));have n7_:=Aside0.mk (Kd.R_mono (ok':=fun k_ => some k_ ≠ (u162000 : Value).ownBlock ∧ k_ ≠ gb163) ho0 (fun k_ hk_ => ⟨Or.elim hk_ (fun hs_ => fun e_ => (((HO_162000.out).1 k_ e_.symm).1) hs_) (fun hn_ => (Kd.fresh' (Kd.R_lt (by (with_reducible repeat (first|apply Kd.R_alloc|apply Kd.R_drewN|apply Kd.R_drew));exact HO_162000.out)) k_ hn_)), Or.elim hk_ (fun hs_ => fun e_ => (Kd.R_away HO_161000.out (fun _ hk => hk.2)) (by rw [← e_];exact hs_)) (fun hn_ => (Kd.freshB (g:=gb163) (o:=.cells #[.int .i64 ((rd_T26 l0_0 x15_1).f0), .int .i64 ((rd_T26 l0_0 x15_1).f1), .int .i64 ((rd_T26 l0_0 x15_1).f2)] 26 (0, 0)) (by (with_reducible repeat (first|refine blk_drewN ?_ _|refine blk_drew ?_|refine blk_alloc ?_ _));exact BK163.out) k_ hn_))⟩));have n8_:=Aside0.mk (hb);clear HO_162000;clear BK157;clear BK158;clear BK159;clear BK160;clear BK161;clear BK163;clear HB;clear HO_161000;have HO_162000:=n0_;have BK157:=n1_;have BK158:=n2_;have BK159:=n3_;have BK160:=n4_;have BK161:=n5_;have BK163:=n6_;have HO166:=n7_;have HB:=n8_;clear n0_ n1_ n2_ n3_ n4_ n5_ n6_ n7_ n8_;(try clear hb);(try clear hkp);(try clear ho0);obtain ⟨Ao36, co36, eo36⟩:=Kd.R_slice HO166.out;subst eo36;have hcz37_0 : w35.cell? ⟨gb160, 0, none⟩ = some (.slice Ao34 x161000_1.length co34):=(blk_cell BK160.out 0).trans rfl;have hcz37_1 : w35.cell? ⟨gb160, 1, none⟩ = some (.slice none 0 0):=(blk_cell BK160.out 1).trans rfl;have hfz37_0:=blk_frozen BK160.out 0;have hfz37_1:=blk_frozen BK160.out 1)|((with_reducible refine gate_store (t:=22) (p:=31) rfl ?_);refine store_event (t:=22) (p:=31) (v:=?vo_w38) (w1:=(w35.setCell ⟨gb160, 0, none⟩ (.slice Ao36 t164.length co36))) ?hg ?ho ?hn ?hr ?_;(case ho => rfl);(case hg => rfl);(case hn => rfl);(case hr => first|(go_simp;done)|(go_simp;rfl));intro w38 hw;have n0_ : Aside0 (Kd.R k26 26 w38 w.heap.size (fun k_ => some k_ ≠ (.slice Ao36 t164.length co36 : Value).ownBlock ∧ k_ ≠ gb163) u162000 x162000_1):=⟨(by rw [hw];exact (by (with_reducible repeat (first|apply Kd.R_alloc|apply Kd.R_drewN|apply Kd.R_drew));exact Kd.R_mono (Kd.R_far (p:=⟨gb160, 0, none⟩) (Kd.R_types HO_162000.out BK160.out (by decide)) (fun _ hk => hk.2) (.slice Ao36 t164.length co36)) (fun _ hk => ⟨hk.1.2, hk.1.1⟩)))⟩;have n1_ : Aside0 (Kd.R k26 26 w38 w.heap.size (fun k_ => some k_ ≠ (u162000 : Value).ownBlock ∧ k_ ≠ gb163) (.slice Ao36 t164.length co36) t164):=⟨(by rw [hw];exact (by (with_reducible repeat (first|apply Kd.R_alloc|apply Kd.R_drewN|apply Kd.R_drew));exact Kd.R_mono (Kd.R_far (p:=⟨gb160, 0, none⟩) (Kd.R_types HO166.out BK160.out (by decide)) (fun _ hk => hk.2) (.slice Ao36 t164.length co36)) (fun _ hk => ⟨hk.1.1, hk.1.2⟩)))⟩;have n2_ : Aside0 (w38.heap[gb157]? = some (.cells #[.slice (some ad162) l0_0.length c0_0, .slice A0_1 l0_1.length c0_1] 28 (0, 0))):=⟨(by rw [hw];exact (by (with_reducible repeat (first|refine blk_drewN ?_ _|refine blk_drew ?_|refine blk_alloc ?_ _));refine blk_far ?_ NB157_160.out _;(with_reducible repeat (first|refine blk_drewN ?_ _|refine blk_drew ?_|refine blk_alloc ?_ _));exact BK157.out))⟩;have n3_ : Aside0 (w38.heap[gb158]? = some (.cells #[.slice none 0 0, .slice none 0 0] 28 (0, 0))):=⟨(by rw [hw];exact (by (with_reducible repeat (first|refine blk_drewN ?_ _|refine blk_drew ?_|refine blk_alloc ?_ _));refine blk_far ?_ NB158_160.out _;(with_reducible repeat (first|refine blk_drewN ?_ _|refine blk_drew ?_|refine blk_alloc ?_ _));exact BK158.out))⟩;have n4_ : Aside0 (w38.heap[gb159]? = some (.cells #[.slice none 0 0, .slice none 0 0] 28 (0, 0))):=⟨(by rw [hw];exact (by (with_reducible repeat (first|refine blk_drewN ?_ _|refine blk_drew ?_|refine blk_alloc ?_ _));refine blk_far ?_ NB159_160.out _;(with_reducible repeat (first|refine blk_drewN ?_ _|refine blk_drew ?_|refine blk_alloc ?_ _));exact BK159.out))⟩;have n5_ : Aside0 (w38.heap[gb160]? = some (.cells #[.slice Ao36 t164.length co36, .slice none 0 0] 28 (0, 0))):=⟨(by rw [hw];exact (by (with_reducible repeat (first|refine blk_drewN ?_ _|refine blk_drew ?_|refine blk_alloc ?_ _));refine blk_put (cs:=#[.slice Ao34 x161000_1.length co34, .slice none 0 0]) ?_ 0 _ rfl;(with_reducible repeat (first|refine blk_drewN ?_ _|refine blk_drew ?_|refine blk_alloc ?_ _));exact BK160.out))⟩;have n6_ : Aside0 (w38.heap[gb161]? = some (.cells #[u162000, .slice none 0 0] 28 (0, 0))):=⟨(by rw [hw];exact (by (with_reducible repeat (first|refine blk_drewN ?_ _|refine blk_drew ?_|refine blk_alloc ?_ _));refine blk_far ?_ NB161_160.out _;(with_reducible repeat (first|refine blk_drewN ?_ _|refine blk_drew ?_|refine blk_alloc ?_ _));exact BK161.out))⟩;have n7_ : Aside0 (w38.heap[gb163]? = some (.cells #[.int .i64 ((rd_T26 l0_0 x15_1).f0), .int .i64 ((rd_T26 l0_0 x15_1).f1), .int .i64 ((rd_T26 l0_0 x15_1).f2)] 26 (0, 0))):=⟨(by rw [hw];exact (by (with_reducible repeat (first|refine blk_drewN ?_ _|refine blk_drew ?_|refine blk_alloc ?_ _));refine blk_far ?_ NB163_160.out _;(with_reducible repeat (first|refine blk_drewN ?_ _|refine blk_drew ?_|refine blk_alloc ?_ _));exact BK163.out))⟩;have n8_ : Aside0 (Below w.heap.size w w38):=⟨(by rw [hw];exact (by repeat (first|(with_reducible first|exact HB.out|apply below_alloc|apply pw_below_drewN|apply below_drew1|refine below_set ?_ GE157.out|refine below_set ?_ GE158.out|refine below_set ?_ GE159.out|refine below_set ?_ GE160.out|refine below_set ?_ GE161.out|refine below_set ?_ GE163.out)|exact HB.out)))⟩;clear hw;clear HO_162000;clear HO166;clear BK157;clear BK158;clear BK159;clear BK160;clear BK161;clear BK163;clear HB;have HO_162000:=n0_;have HO166:=n1_;have BK157:=n2_;have BK158:=n3_;have BK159:=n4_;have BK160:=n5_;have BK161:=n6_;have BK163:=n7_;have HB:=n8_;clear n0_ n1_ n2_ n3_ n4_ n5_ n6_ n7_ n8_;have hnb39:=NB161_157.out;have hnc39:=NB157_161.out;have hnb40:=NB161_158.out;have hnc40:=NB158_161.out;have hnb41:=NB161_159.out;have hnc41:=NB159_161.out;have hcz42_0 : w38.cell? ⟨gb161, 0, none⟩ = some (u162000):=(blk_cell BK161.out 0).trans rfl;have hcz42_1 : w38.cell? ⟨gb161, 1, none⟩ = some (.slice none 0 0):=(blk_cell BK161.out 1).trans rfl;have hfz42_0:=blk_frozen BK161.out 0;have hfz42_1:=blk_frozen BK161.out 1;have hcz43_0 : w38.cell? ⟨gb163, 0, none⟩ = some (.int .i64 ((rd_T26 l0_0 x15_1).f0)):=(blk_cell BK163.out 0).trans rfl;have hcz43_1 : w38.cell? ⟨gb163, 1, none⟩ = some (.int .i64 ((rd_T26 l0_0 x15_1).f1)):=(blk_cell BK163.out 1).trans rfl;have hcz43_2 : w38.cell? ⟨gb163, 2, none⟩ = some (.int .i64 ((rd_T26 l0_0 x15_1).f2)):=(blk_cell BK163.out 2).trans rfl;have hfz43_0:=blk_frozen BK163.out 0;have hfz43_1:=blk_frozen BK163.out 1;have hfz43_2:=blk_frozen BK163.out 2;obtain ⟨Ao44, co44, eo44⟩:=Kd.R_slice HO_162000.out;subst eo44)|((with_reducible refine gate_callee (f:=32) rfl ?_);refine goesL_ (some 46) rfl rfl Try.func32 (by kernel_rfl) rfl #[.slice Ao44 x162000_1.length co44, .agg #[.int .i64 ((rd_T26 l0_0 x15_1).f0), .int .i64 ji18, .int .i64 (wrap64 (((rd_T26 l0_0 x15_1).f2) - a1))]] rfl (by (try simp only [List.map_toArray, List.map_cons, List.map_nil]);first|done|(simp only [hji18];rfl)|rfl|(simp only [List.length_drop, List.length_take];rfl)) ?_;(with_reducible refine (marks_add.calls (fun k_ => some k_ = (.slice Ao44 x162000_1.length co44 : Value).ownBlock) (.slice Ao44 x162000_1.length co44) x162000_1 ((rd_T26 l0_0 x15_1).f0) ji18 (wrap64 (((rd_T26 l0_0 x15_1).f2) - a1)) t167 w _ ?side1 ?side2 A19.out).mono ?_);(case side1 => repeat (first|(with_reducible first|exact HB.out|apply below_alloc|apply pw_below_drewN|apply below_drew1|refine below_set ?_ GE157.out|refine below_set ?_ GE158.out|refine below_set ?_ GE159.out|refine below_set ?_ GE160.out|refine below_set ?_ GE161.out|refine below_set ?_ GE163.out)|exact HB.out));(case side2 => exact Kd.R_tight rfl HO_162000.out);rintro e w45 ⟨v168, rfl, ho0, hb, hkp⟩;refine ⟨_, rfl, ?_⟩;have n0_:=Aside0.mk (blk_kept (by (with_reducible repeat (first|refine blk_drewN ?_ _|refine blk_drew ?_|refine blk_alloc ?_ _));exact BK157.out) hkp (fun hs_ => (fun e_ => (Kd.R_ne HO_162000.out BK157.out (by decide)) e_) hs_));have n1_:=Aside0.mk (blk_kept (by (with_reducible repeat (first|refine blk_drewN ?_ _|refine blk_drew ?_|refine blk_alloc ?_ _));exact BK158.out) hkp (fun hs_ => (fun e_ => (Kd.R_ne HO_162000.out BK158.out (by decide)) e_) hs_));have n2_:=Aside0.mk (blk_kept (by (with_reducible repeat (first|refine blk_drewN ?_ _|refine blk_drew ?_|refine blk_alloc ?_ _));exact BK159.out) hkp (fun hs_ => (fun e_ => (Kd.R_ne HO_162000.out BK159.out (by decide)) e_) hs_));have n3_:=Aside0.mk (blk_kept (by (with_reducible repeat (first|refine blk_drewN ?_ _|refine blk_drew ?_|refine blk_alloc ?_ _));exact BK160.out) hkp (fun hs_ => (fun e_ => (Kd.R_ne HO_162000.out BK160.out (by decide)) e_) hs_));have n4_:=Aside0.mk (blk_kept (by (with_reducible repeat (first|refine blk_drewN ?_ _|refine blk_drew ?_|refine blk_alloc ?_ _));exact BK161.out) hkp (fun hs_ => (fun e_ => (Kd.R_ne HO_162000.out BK161.out (by decide)) e_) hs_));have n5_:=Aside0.mk (blk_kept (by (with_reducible repeat (first|refine blk_drewN ?_ _|refine blk_drew ?_|refine blk_alloc ?_ _));exact BK163.out) hkp (fun hs_ => (fun e_ => (Kd.R_away HO_162000.out (fun _ hk => hk.2)) e_) hs_));have n6_:=Aside0.mk (Kd.R_mono (ok':=fun k_ => k_ ≠ gb163 ∧ some k_ ≠ (v168 : Value).ownBlock) (Kd.R_keptB (HO166.out) hkp (fun k_ hk_ hs_ => (hk_.1) hs_)) (fun k_ hk_ => ⟨hk_.1.2, fun e_ => Or.elim (ho0.1 k_ e_.symm) (fun hs_ => hk_.2.1 hs_) (fun hn_ => Nat.not_le.2 hk_.2.2 hn_)⟩));have n7_:=Aside0.mk (Kd.R_mono (ok':=fun k_ => some k_ ≠ (.slice Ao36 t164.length co36 : Value).ownBlock ∧ k_ ≠ gb163) ho0 (fun k_ hk_ => ⟨Or.elim hk_ (fun hs_ => fun e_ => (((HO166.out).1 k_ e_.symm).1) hs_) (fun hn_ => (Kd.fresh' (Kd.R_lt (by (with_reducible repeat (first|apply Kd.R_alloc|apply Kd.R_drewN|apply Kd.R_drew));exact HO166.out)) k_ hn_)), Or.elim hk_ (fun hs_ => fun e_ => (Kd.R_away HO_162000.out (fun _ hk => hk.2)) (by rw [← e_];exact hs_)) (fun hn_ => (Kd.freshB (g:=gb163) (o:=.cells #[.int .i64 ((rd_T26 l0_0 x15_1).f0), .int .i64 ((rd_T26 l0_0 x15_1).f1), .int .i64 ((rd_T26 l0_0 x15_1).f2)] 26 (0, 0)) (by (with_reducible repeat (first|refine blk_drewN ?_ _|refine blk_drew ?_|refine blk_alloc ?_ _));exact BK163.out) k_ hn_))⟩));have n8_:=Aside0.mk (hb);clear BK157;clear BK158;clear BK159;clear BK160;clear BK161;clear BK163;clear HO166;clear HB;clear HO_162000;have BK157:=n0_;have BK158:=n1_;have BK159:=n2_;have BK160:=n3_;have BK161:=n4_;have BK163:=n5_;have HO166:=n6_;have HO169:=n7_;have HB:=n8_;clear n0_ n1_ n2_ n3_ n4_ n5_ n6_ n7_ n8_;(try clear hb);(try clear hkp);(try clear ho0);obtain ⟨Ao46, co46, eo46⟩:=Kd.R_slice HO169.out;subst eo46;have hcz47_0 : w45.cell? ⟨gb161, 0, none⟩ = some (.slice Ao44 x162000_1.length co44):=(blk_cell BK161.out 0).trans rfl;have hcz47_1 : w45.cell? ⟨gb161, 1, none⟩ = some (.slice none 0 0):=(blk_cell BK161.out 1).trans rfl;have hfz47_0:=blk_frozen BK161.out 0;have hfz47_1:=blk_frozen BK161.out 1))
      go_roundg k1
      case measure => have := HK1.out; omega
      case rel => exact ⟨(wrap64 (x15_1 + 1)), (t164), (t167), (.slice Ao36 t164.length co36), (.slice Ao46 t167.length co46), (by first|rfl|(simp;done)|(simp [*];done)), H', ⟨by have:=HK1.out;omega⟩, ⟨by (with_reducible repeat (first|apply Kd.R_alloc|apply Kd.R_drewN|apply Kd.R_drew));exact Kd.R_mono (Kd.R_far (p:=⟨gb161, 0, none⟩) (Kd.R_types HO166.out BK161.out (by decide)) (fun _ hk => hk.2) (.slice Ao46 t167.length co46)) (fun _ hk => hk.1.2)⟩, ⟨by (with_reducible repeat (first|apply Kd.R_alloc|apply Kd.R_drewN|apply Kd.R_drew));exact Kd.R_mono (Kd.R_far (p:=⟨gb161, 0, none⟩) (Kd.R_types HO169.out BK161.out (by decide)) (fun _ hk => hk.2) (.slice Ao46 t167.length co46)) (fun _ hk => hk.1.1)⟩, ⟨by (with_reducible repeat (first|refine blk_drewN ?_ _|refine blk_drew ?_|refine blk_alloc ?_ _));refine blk_far ?_ NB157_161.out _;(with_reducible repeat (first|refine blk_drewN ?_ _|refine blk_drew ?_|refine blk_alloc ?_ _));exact BK157.out⟩, ⟨by (with_reducible repeat (first|refine blk_drewN ?_ _|refine blk_drew ?_|refine blk_alloc ?_ _));refine blk_far ?_ NB158_161.out _;(with_reducible repeat (first|refine blk_drewN ?_ _|refine blk_drew ?_|refine blk_alloc ?_ _));exact BK158.out⟩, ⟨by (with_reducible repeat (first|refine blk_drewN ?_ _|refine blk_drew ?_|refine blk_alloc ?_ _));refine blk_far ?_ NB159_161.out _;(with_reducible repeat (first|refine blk_drewN ?_ _|refine blk_drew ?_|refine blk_alloc ?_ _));exact BK159.out⟩, ⟨by (with_reducible repeat (first|refine blk_drewN ?_ _|refine blk_drew ?_|refine blk_alloc ?_ _));refine blk_far ?_ NB160_161.out _;(with_reducible repeat (first|refine blk_drewN ?_ _|refine blk_drew ?_|refine blk_alloc ?_ _));exact BK160.out⟩, ⟨by (with_reducible repeat (first|refine blk_drewN ?_ _|refine blk_drew ?_|refine blk_alloc ?_ _));refine blk_put (cs:=#[.slice Ao44 x162000_1.length co44, .slice none 0 0]) ?_ 0 _ rfl;(with_reducible repeat (first|refine blk_drewN ?_ _|refine blk_drew ?_|refine blk_alloc ?_ _));exact BK161.out⟩, ⟨by repeat (first|(with_reducible first|exact HB.out|apply below_alloc|apply pw_below_drewN|apply below_drew1|refine below_set ?_ GE157.out|refine below_set ?_ GE158.out|refine below_set ?_ GE159.out|refine below_set ?_ GE160.out|refine below_set ?_ GE161.out|refine below_set ?_ GE163.out)|exact HB.out)⟩⟩
     ·rw [if_neg c15] at H
      exact absurd H (by simp)
    ·rw [if_neg c14] at H
     exact absurd H (by simp)
   ·rw [if_neg c13] at H
    have c13b0 : decide (x15_1 < (l0_0.length : Int)) = false := decide_eq_false c13
    clear c13
    have H' := Aside0.mk H
    clear H
    have hnb48 := NB157_158.out
    have hnc48 := NB158_157.out
    have hnb49 := NB157_159.out
    have hnc49 := NB159_157.out
    have hnb50 := NB157_160.out
    have hnc50 := NB160_157.out
    have hnb51 := NB157_161.out
    have hnc51 := NB161_157.out
    have hcz52_0 : wr.cell? ⟨gb157, 0, none⟩ = some (.slice A0_0 l0_0.length c0_0) := (blk_cell BK157.out 0).trans rfl
    have hcz52_1 : wr.cell? ⟨gb157, 1, none⟩ = some (.slice A0_1 l0_1.length c0_1) := (blk_cell BK157.out 1).trans rfl
    have hfz52_0 := blk_frozen BK157.out 0
    have hfz52_1 := blk_frozen BK157.out 1
    go_wp2
    go_loopg [52] k1 (fun kq v52 w' => ∃ (x52_2 : Int) (x161001_2 : List (S38)) (x162001_2 : List (S38)) (u161001 : Value) (u162001 : Value), v52 = .int .i64 x52_2 ∧ Aside0 (marks_Part.l1 kq a1 l0_1 (l0_1.length : Int) x52_2 x161000_1 x161001_2 x162000_1 x162001_2 = some (r1, r2, r3, r4)) ∧ Aside0 (kq ≤ k1) ∧ Aside0 (Kd.R k26 26 w' w.heap.size (fun k_ => some k_ ≠ (u162000 : Value).ownBlock) u161000 x161000_1) ∧ Aside0 (Kd.R k38 38 w' w.heap.size (fun k_ => some k_ ≠ (u162001 : Value).ownBlock) u161001 x161001_2) ∧ Aside0 (Kd.R k26 26 w' w.heap.size (fun k_ => some k_ ≠ (u161000 : Value).ownBlock) u162000 x162000_1) ∧ Aside0 (Kd.R k38 38 w' w.heap.size (fun k_ => some k_ ≠ (u161001 : Value).ownBlock) u162001 x162001_2) ∧ Aside0 (w'.heap[gb157]? = some (.cells #[(.slice A0_0 l0_0.length c0_0), (.slice A0_1 l0_1.length c0_1)] 28 (0, 0))) ∧ Aside0 (w'.heap[gb158]? = some (.cells #[(.slice none 0 0), (.slice none 0 0)] 28 (0, 0))) ∧ Aside0 (w'.heap[gb159]? = some (.cells #[(.slice none 0 0), (.slice none 0 0)] 28 (0, 0))) ∧ Aside0 (w'.heap[gb160]? = some (.cells #[u161000, u161001] 28 (0, 0))) ∧ Aside0 (w'.heap[gb161]? = some (.cells #[u162000, u162001] 28 (0, 0))) ∧ Aside0 (Below w.heap.size w w'))
    case atStart => exact ⟨(0), (([] : List (S38))), (([] : List (S38))), (.slice none 0 0), (.slice none 0 0), (by first|rfl|(simp;done)|(simp [*];done)), H', ⟨Nat.le_refl _⟩, ⟨by (with_reducible repeat (first|apply Kd.R_alloc|apply Kd.R_drewN|apply Kd.R_drew));exact HO_161000.out⟩, ⟨by first|exact Kd.R_nil _ _ _ _ _|exact Kd.N_nil _ _ _ _ _|exact Kd.V_nil _ _ _ _ _|exact Kd.Q_nil _ _ _ _ _|exact Kd.S_nil _ _ _ _ _⟩, ⟨by (with_reducible repeat (first|apply Kd.R_alloc|apply Kd.R_drewN|apply Kd.R_drew));exact HO_162000.out⟩, ⟨by first|exact Kd.R_nil _ _ _ _ _|exact Kd.N_nil _ _ _ _ _|exact Kd.V_nil _ _ _ _ _|exact Kd.Q_nil _ _ _ _ _|exact Kd.S_nil _ _ _ _ _⟩, ⟨by (with_reducible repeat (first|refine blk_drewN ?_ _|refine blk_drew ?_|refine blk_alloc ?_ _));exact BK157.out⟩, ⟨by (with_reducible repeat (first|refine blk_drewN ?_ _|refine blk_drew ?_|refine blk_alloc ?_ _));exact BK158.out⟩, ⟨by (with_reducible repeat (first|refine blk_drewN ?_ _|refine blk_drew ?_|refine blk_alloc ?_ _));exact BK159.out⟩, ⟨by (with_reducible repeat (first|refine blk_drewN ?_ _|refine blk_drew ?_|refine blk_alloc ?_ _));exact BK160.out⟩, ⟨by (with_reducible repeat (first|refine blk_drewN ?_ _|refine blk_drew ?_|refine blk_alloc ?_ _));exact BK161.out⟩, ⟨by repeat (first|(with_reducible first|exact HB.out|apply below_alloc|apply pw_below_drewN|apply below_drew1|refine below_set ?_ GE157.out|refine below_set ?_ GE158.out|refine below_set ?_ GE159.out|refine below_set ?_ GE160.out|refine below_set ?_ GE161.out)|exact HB.out)⟩⟩
    case round =>
     clear H'
     try clear c1
     try clear p1
     try clear q1
     try clear hx1
     try clear c2
     try clear p2
     try clear c3
     try clear c4
     try clear c5
     try clear p6
     try clear c8
     try clear c9
     try clear c10
     try clear c11
     try clear c13
     try clear c13b0
     try clear c14
     try clear c14b0
     try clear c15
     try clear c15b0
     try clear p16
     try clear q16
     try clear hx16
     try clear c19
     try clear c21
     try clear c22
     try clear c23
     try clear c24
     try clear c25
     try clear c28
     try clear c29
     try clear c30
     try clear c31
     try clear c32
     try clear c39
     try clear c40
     try clear c41
     try clear c48
     try clear c49
     try clear c50
     try clear c51
     try clear hcz12_0
     try clear hcz12_1
     try clear hcz26_0
     try clear hcz26_1
     try clear hcz26_2
     try clear hcz32_0
     try clear hcz32_1
     try clear hcz33_0
     try clear hcz33_1
     try clear hcz33_2
     try clear hcz37_0
     try clear hcz37_1
     try clear hcz42_0
     try clear hcz42_1
     try clear hcz43_0
     try clear hcz43_1
     try clear hcz43_2
     try clear hcz47_0
     try clear hcz47_1
     try clear hcz52_0
     try clear hcz52_1
     try clear hfz12_0
     try clear hfz12_1
     try clear hfz26_0
     try clear hfz26_1
     try clear hfz26_2
     try clear hfz32_0
     try clear hfz32_1
     try clear hfz33_0
     try clear hfz33_1
     try clear hfz33_2
     try clear hfz37_0
     try clear hfz37_1
     try clear hfz42_0
     try clear hfz42_1
     try clear hfz43_0
     try clear hfz43_1
     try clear hfz43_2
     try clear hfz47_0
     try clear hfz47_1
     try clear hfz52_0
     try clear hfz52_1
     try clear hx162_0
     try clear hx162_1
     try clear hx162_2
     try clear p162
     try clear p2
     try clear q162
     obtain ⟨x52_2, x161001_2, x162001_2, u161001, u162001, rfl, HA, HK2, HO_161000, HO_161001, HO_162000, HO_162001, BK157, BK158, BK159, BK160, BK161, HB⟩ := hrel
     cases gk with
     | zero => exact absurd HA.out (by simp [marks_Part.l1])
     | succ k2 =>
      have H := HA.out
      clear HA
      simp only [marks_Part.l1] at H
      by_cases c53 : x52_2 < (l0_1.length : Int)
      ·rw [if_pos c53] at H
       have c53b0 : decide (x52_2 < (l0_1.length : Int)) = true := decide_eq_true c53
       clear c53
       by_cases c54 : 0 ≤ x52_2
       ·rw [if_pos c54] at H
        have c54b0 : decide (0 ≤ x52_2) = true := decide_eq_true c54
        clear c54
        by_cases c55 : x52_2 < (l0_1.length : Int)
        ·rw [if_pos c55] at H
         have c55b0 : decide (x52_2 < (l0_1.length : Int)) = true := decide_eq_true c55
         clear c55
         by_cases c56 : ((rd_T38 l0_1 x52_2).f1) ≤ a1
         ·rw [if_pos c56] at H
          have c56b0 : decide (((rd_T38 l0_1 x52_2).f1) ≤ a1) = true := decide_eq_true c56
          clear c56
          by_cases c57 : x161001_2.length < 8796093022208
          ·rw [if_pos c57] at H
           have LMc57 := Aside0.mk c57
           clear c57
           obtain ⟨y172, hy172⟩ : ∃ y_ : List (S38), y_ = (x161001_2 ++ [(⟨(rd_T38 l0_1 x52_2).f0, (rd_T38 l0_1 x52_2).f1⟩ : S38)]) := ⟨_, rfl⟩
           replace H : (marks_Part.l1 k2 a1 l0_1 (l0_1.length : Int) (wrap64 (x52_2 + 1)) x161000_1 y172 x162000_1 x162001_2) = some (r1, r2, r3, r4):=by first|(rw [hy172];with_reducible exact H)|(have H2_:=(Option.bind_some _ _).symm.trans H;rw [hy172];with_reducible exact H2_)|(have H2_:=(Option.bind_some _ _).symm.trans H;with_reducible exact H2_)|with_reducible exact H|(rw [hy172];exact H)|exact H
           have Ny172 := Aside0.mk hy172
           clear hy172
           have H' := Aside0.mk H
           clear H
           have p170 : 0 ≤ (x52_2 : Int):=of_decide_eq_true (by first|(with_reducible assumption)|assumption)
           have q170 : x52_2 < (l0_1.length : Int):=of_decide_eq_true (by first|(with_reducible assumption)|assumption)
           obtain ⟨ad170, e170, hx170_0, hx170_1⟩ := at_T38 HR0_1.out x52_2 p170 q170
           cases e170
           replace hx170_0 := (HB.out.cell (World.block_lt_of_cell? w _ hx170_0)).trans hx170_0
           replace hx170_1 := (HB.out.cell (World.block_lt_of_cell? w _ hx170_1)).trans hx170_1
           replace p170 := eq_true p170
           replace q170 := eq_true q170
           go_wp2_with (first|((with_reducible refine gate_dst (N:=11) rfl ?_);refine box_event ?hg (N:=11) ?hd (cs:=#[.int .i64 0, .int .i64 0]) (t:=38) ?hr ?_;(case hd => rfl);(case hg => rfl);(case hr => first|(go_simp;done)|(go_simp;rfl));intro gb171 hg w58 hbox hb;have n0_:=Aside0.mk (Kd.R_below (by (with_reducible repeat (first|apply Kd.R_alloc|apply Kd.R_drewN|apply Kd.R_drew));exact HO_161000.out) hb);have n1_:=Aside0.mk (Kd.R_below (Kd.R_elderB (by (with_reducible repeat (first|apply Kd.R_alloc|apply Kd.R_drewN|apply Kd.R_drew));exact HO_161001.out) gb171 (Nat.le_of_eq hg.symm)) hb);have n2_:=Aside0.mk (Kd.R_below (by (with_reducible repeat (first|apply Kd.R_alloc|apply Kd.R_drewN|apply Kd.R_drew));exact HO_162000.out) hb);have n3_:=Aside0.mk (Kd.R_below (Kd.R_elderB (by (with_reducible repeat (first|apply Kd.R_alloc|apply Kd.R_drewN|apply Kd.R_drew));exact HO_162001.out) gb171 (Nat.le_of_eq hg.symm)) hb);have n4_:=Aside0.mk (blk_below (g:=gb157) (o:=.cells #[.slice A0_0 l0_0.length c0_0, .slice (some ad170) l0_1.length c0_1] 28 (0, 0)) (by (with_reducible repeat (first|refine blk_drewN ?_ _|refine blk_drew ?_|refine blk_alloc ?_ _));exact BK157.out) hb);have n5_:=Aside0.mk (blk_below (g:=gb158) (o:=.cells #[.slice none 0 0, .slice none 0 0] 28 (0, 0)) (by (with_reducible repeat (first|refine blk_drewN ?_ _|refine blk_drew ?_|refine blk_alloc ?_ _));exact BK158.out) hb);have n6_:=Aside0.mk (blk_below (g:=gb159) (o:=.cells #[.slice none 0 0, .slice none 0 0] 28 (0, 0)) (by (with_reducible repeat (first|refine blk_drewN ?_ _|refine blk_drew ?_|refine blk_alloc ?_ _));exact BK159.out) hb);have n7_:=Aside0.mk (blk_below (g:=gb160) (o:=.cells #[u161000, u161001] 28 (0, 0)) (by (with_reducible repeat (first|refine blk_drewN ?_ _|refine blk_drew ?_|refine blk_alloc ?_ _));exact BK160.out) hb);have n8_:=Aside0.mk (blk_below (g:=gb161) (o:=.cells #[u162000, u162001] 28 (0, 0)) (by (with_reducible repeat (first|refine blk_drewN ?_ _|refine blk_drew ?_|refine blk_alloc ?_ _));exact BK161.out) hb);have n9_:=Aside0.mk (below_step (by repeat (first|(with_reducible first|exact HB.out|apply below_alloc|apply pw_below_drewN|apply below_drew1|refine below_set ?_ GE157.out|refine below_set ?_ GE158.out|refine below_set ?_ GE159.out|refine below_set ?_ GE160.out|refine below_set ?_ GE161.out)|exact HB.out)) hb);have n10_:=Aside0.mk (hbox);have n11_:=Aside0.mk ((by rw [hg];exact (below_size (by repeat (first|(with_reducible first|exact HB.out|apply below_alloc|apply pw_below_drewN|apply below_drew1|refine below_set ?_ GE157.out|refine below_set ?_ GE158.out|refine below_set ?_ GE159.out|refine below_set ?_ GE160.out|refine below_set ?_ GE161.out)|exact HB.out))) : w.heap.size ≤ gb171));have n12_:=Aside0.mk ((by rw [hg];exact (below_size (by repeat (first|(with_reducible first|exact HB.out|apply below_alloc|apply pw_below_drewN|apply below_drew1|refine below_set ?_ GE157.out|refine below_set ?_ GE158.out|refine below_set ?_ GE159.out|refine below_set ?_ GE160.out|refine below_set ?_ GE161.out)|exact HB.out))) : w.heap.size ≤ gb171));have n13_:=Aside0.mk ((by rw [hg];exact Nat.ne_of_lt (blk_lt (g:=gb157) (o:=.cells #[.slice A0_0 l0_0.length c0_0, .slice (some ad170) l0_1.length c0_1] 28 (0, 0)) (by (with_reducible repeat (first|refine blk_drewN ?_ _|refine blk_drew ?_|refine blk_alloc ?_ _));exact BK157.out)) : gb157 ≠ gb171));have n14_:=Aside0.mk ((by rw [hg];exact Nat.ne_of_gt (blk_lt (g:=gb157) (o:=.cells #[.slice A0_0 l0_0.length c0_0, .slice (some ad170) l0_1.length c0_1] 28 (0, 0)) (by (with_reducible repeat (first|refine blk_drewN ?_ _|refine blk_drew ?_|refine blk_alloc ?_ _));exact BK157.out)) : gb171 ≠ gb157));have n15_:=Aside0.mk ((by rw [hg];exact Nat.ne_of_lt (blk_lt (g:=gb158) (o:=.cells #[.slice none 0 0, .slice none 0 0] 28 (0, 0)) (by (with_reducible repeat (first|refine blk_drewN ?_ _|refine blk_drew ?_|refine blk_alloc ?_ _));exact BK158.out)) : gb158 ≠ gb171));have n16_:=Aside0.mk ((by rw [hg];exact Nat.ne_of_gt (blk_lt (g:=gb158) (o:=.cells #[.slice none 0 0, .slice none 0 0] 28 (0, 0)) (by (with_reducible repeat (first|refine blk_drewN ?_ _|refine blk_drew ?_|refine blk_alloc ?_ _));exact BK158.out)) : gb171 ≠ gb158));have n17_:=Aside0.mk ((by rw [hg];exact Nat.ne_of_lt (blk_lt (g:=gb159) (o:=.cells #[.slice none 0 0, .slice none 0 0] 28 (0, 0)) (by (with_reducible repeat (first|refine blk_drewN ?_ _|refine blk_drew ?_|refine blk_alloc ?_ _));exact BK159.out)) : gb159 ≠ gb171));have n18_:=Aside0.mk ((by rw [hg];exact Nat.ne_of_gt (blk_lt (g:=gb159) (o:=.cells #[.slice none 0 0, .slice none 0 0] 28 (0, 0)) (by (with_reducible repeat (first|refine blk_drewN ?_ _|refine blk_drew ?_|refine blk_alloc ?_ _));exact BK159.out)) : gb171 ≠ gb159));have n19_:=Aside0.mk ((by rw [hg];exact Nat.ne_of_lt (blk_lt (g:=gb160) (o:=.cells #[u161000, u161001] 28 (0, 0)) (by (with_reducible repeat (first|refine blk_drewN ?_ _|refine blk_drew ?_|refine blk_alloc ?_ _));exact BK160.out)) : gb160 ≠ gb171));have n20_:=Aside0.mk ((by rw [hg];exact Nat.ne_of_gt (blk_lt (g:=gb160) (o:=.cells #[u161000, u161001] 28 (0, 0)) (by (with_reducible repeat (first|refine blk_drewN ?_ _|refine blk_drew ?_|refine blk_alloc ?_ _));exact BK160.out)) : gb171 ≠ gb160));have n21_:=Aside0.mk ((by rw [hg];exact Nat.ne_of_lt (blk_lt (g:=gb161) (o:=.cells #[u162000, u162001] 28 (0, 0)) (by (with_reducible repeat (first|refine blk_drewN ?_ _|refine blk_drew ?_|refine blk_alloc ?_ _));exact BK161.out)) : gb161 ≠ gb171));have n22_:=Aside0.mk ((by rw [hg];exact Nat.ne_of_gt (blk_lt (g:=gb161) (o:=.cells #[u162000, u162001] 28 (0, 0)) (by (with_reducible repeat (first|refine blk_drewN ?_ _|refine blk_drew ?_|refine blk_alloc ?_ _));exact BK161.out)) : gb171 ≠ gb161));clear HO_161000;clear HO_161001;clear HO_162000;clear HO_162001;clear BK157;clear BK158;clear BK159;clear BK160;clear BK161;clear HB;have HO_161000:=n0_;have HO_161001:=n1_;have HO_162000:=n2_;have HO_162001:=n3_;have BK157:=n4_;have BK158:=n5_;have BK159:=n6_;have BK160:=n7_;have BK161:=n8_;have HB:=n9_;have BK171:=n10_;have GW171:=n11_;have GE171:=n12_;have NB157_171:=n13_;have NB171_157:=n14_;have NB158_171:=n15_;have NB171_158:=n16_;have NB159_171:=n17_;have NB171_159:=n18_;have NB160_171:=n19_;have NB171_160:=n20_;have NB161_171:=n21_;have NB171_161:=n22_;clear n0_ n1_ n2_ n3_ n4_ n5_ n6_ n7_ n8_ n9_ n10_ n11_ n12_ n13_ n14_ n15_ n16_ n17_ n18_ n19_ n20_ n21_ n22_;clear hb hbox hg;have hnb59:=NB171_157.out;have hnc59:=NB157_171.out;have hnb60:=NB171_158.out;have hnc60:=NB158_171.out;have hnb61:=NB171_159.out;have hnc61:=NB159_171.out;have hnb62:=NB171_160.out;have hnc62:=NB160_171.out;have hnb63:=NB171_161.out;have hnc63:=NB161_171.out;have hcz64_0 : w58.cell? ⟨gb171, 0, none⟩ = some (.int .i64 0):=(blk_cell BK171.out 0).trans rfl;have hcz64_1 : w58.cell? ⟨gb171, 1, none⟩ = some (.int .i64 0):=(blk_cell BK171.out 1).trans rfl;have hfz64_0:=blk_frozen BK171.out 0;have hfz64_1:=blk_frozen BK171.out 1;have hnb65:=NB160_157.out;have hnc65:=NB157_160.out;have hnb66:=NB160_158.out;have hnc66:=NB158_160.out;have hnb67:=NB160_159.out;have hnc67:=NB159_160.out;have hnb68:=NB160_161.out;have hnc68:=NB161_160.out;have hcz69_0 : w58.cell? ⟨gb160, 0, none⟩ = some (u161000):=(blk_cell BK160.out 0).trans rfl;have hcz69_1 : w58.cell? ⟨gb160, 1, none⟩ = some (u161001):=(blk_cell BK160.out 1).trans rfl;have hfz69_0:=blk_frozen BK160.out 0;have hfz69_1:=blk_frozen BK160.out 1)|((with_reducible refine gate_builtin (b:=.append) (xs:=#[.tmp 61, .tmp 63]) rfl ?_);at_builtin;refine Kd.R_append k38 (w0:=w) w.heap.size rfl (.tmp 61) (.tmp 63) 23 38 (.agg #[(.int .i64 0), (.int .i64 0)]) 16 rfl Try.underlying23 info38 rfl (by decide) (by omega) u161001 x161001_2 (⟨(rd_T38 l0_1 x52_2).f0, (rd_T38 l0_1 x52_2).f1⟩ : S38) [.int .i64 ((rd_T38 l0_1 x52_2).f0), .int .i64 ((rd_T38 l0_1 x52_2).f1)] (fun k_ => some k_ ≠ (u162001 : Value).ownBlock ∧ k_ ≠ gb171) (fun _ => False) rfl (by first|(go_simp;done)|(go_simp;rfl)) ?aP (fun _ hk => hk.elim) ?aF ?aO ?aB ?aS ?aL ?_;(case aP => exact k38_mkM _ _ _ (⟨(rd_T38 l0_1 x52_2).f0, (rd_T38 l0_1 x52_2).f1⟩ : S38));(case aB => exact (by repeat (first|(with_reducible first|exact HB.out|apply below_alloc|apply pw_below_drewN|apply below_drew1|refine below_set ?_ GE157.out|refine below_set ?_ GE158.out|refine below_set ?_ GE159.out|refine below_set ?_ GE160.out|refine below_set ?_ GE161.out|refine below_set ?_ GE171.out)|exact HB.out)));(case aF => exact (fun k_ hk => ⟨Kd.fresh' (Kd.R_lt (by (with_reducible repeat (first|apply Kd.R_alloc|apply Kd.R_drewN|apply Kd.R_drew));exact (Kd.R_mono (Kd.R_far (p:=⟨gb171, 1, none⟩) (Kd.R_far (p:=⟨gb171, 0, none⟩) (Kd.R_mono HO_162001.out (fun k_ hk => (⟨hk, hk.2⟩ : _ ∧ k_ ≠ gb171))) (fun _ hk => hk.2) (.int .i64 ((rd_T38 l0_1 x52_2).f0))) (fun _ hk => hk.2) (.int .i64 ((rd_T38 l0_1 x52_2).f1))) (fun _ h_ => h_.1)))) k_ hk, Kd.freshB (g:=gb171) (o:=.cells #[.int .i64 ((rd_T38 l0_1 x52_2).f0), .int .i64 ((rd_T38 l0_1 x52_2).f1)] 38 (0, 0)) (by (with_reducible repeat (first|refine blk_drewN ?_ _|refine blk_drew ?_|refine blk_alloc ?_ _));refine blk_put (cs:=#[.int .i64 ((rd_T38 l0_1 x52_2).f0), .int .i64 0]) ?_ 1 _ rfl;(with_reducible repeat (first|refine blk_drewN ?_ _|refine blk_drew ?_|refine blk_alloc ?_ _));refine blk_put (cs:=#[.int .i64 0, .int .i64 0]) ?_ 0 _ rfl;(with_reducible repeat (first|refine blk_drewN ?_ _|refine blk_drew ?_|refine blk_alloc ?_ _));exact BK171.out) k_ hk⟩));(case aO => exact (by (with_reducible repeat (first|apply Kd.R_alloc|apply Kd.R_drewN|apply Kd.R_drew));exact Kd.R_mono (Kd.R_far (p:=⟨gb171, 1, none⟩) (Kd.R_far (p:=⟨gb171, 0, none⟩) (Kd.R_mono HO_161001.out (fun k_ hk => (⟨hk, hk.2⟩ : _ ∧ k_ ≠ gb171))) (fun _ hk => hk.2) (.int .i64 ((rd_T38 l0_1 x52_2).f0))) (fun _ hk => hk.2) (.int .i64 ((rd_T38 l0_1 x52_2).f1))) (fun _ hk => ⟨hk.1.1, hk.1.2⟩)));(case aS => exact (below_size (by repeat (first|(with_reducible first|exact HB.out|apply below_alloc|apply pw_below_drewN|apply below_drew1|refine below_set ?_ GE157.out|refine below_set ?_ GE158.out|refine below_set ?_ GE159.out|refine below_set ?_ GE160.out|refine below_set ?_ GE161.out|refine below_set ?_ GE171.out)|exact HB.out))));(case aL => have:=LMc57.out;omega);intro v173 w70 ho hb hg hat;rw [← Ny172.out] at ho;have n0_:=Aside0.mk (Kd.R_over' (by (with_reducible repeat (first|apply Kd.R_alloc|apply Kd.R_drewN|apply Kd.R_drew));exact (Kd.R_mono (Kd.R_far (p:=⟨gb171, 1, none⟩) (Kd.R_far (p:=⟨gb171, 0, none⟩) (Kd.R_types HO_161000.out BK171.out (by decide)) (fun _ hk => hk.2) (.int .i64 ((rd_T38 l0_1 x52_2).f0))) (fun _ hk => hk.2) (.int .i64 ((rd_T38 l0_1 x52_2).f1))) (fun _ h_ => h_.1))) (Kd.R_typed (by (with_reducible repeat (first|apply Kd.R_alloc|apply Kd.R_drewN|apply Kd.R_drew));exact (Kd.R_mono (Kd.R_far (p:=⟨gb171, 1, none⟩) (Kd.R_far (p:=⟨gb171, 0, none⟩) (Kd.R_mono HO_161001.out (fun k_ hk => (⟨hk, hk.2⟩ : _ ∧ k_ ≠ gb171))) (fun _ hk => hk.2) (.int .i64 ((rd_T38 l0_1 x52_2).f0))) (fun _ hk => hk.2) (.int .i64 ((rd_T38 l0_1 x52_2).f1))) (fun _ h_ => h_.1)))) (by decide) hg);have n1_:=Aside0.mk (Kd.R_over' (by (with_reducible repeat (first|apply Kd.R_alloc|apply Kd.R_drewN|apply Kd.R_drew));exact (Kd.R_mono (Kd.R_far (p:=⟨gb171, 1, none⟩) (Kd.R_far (p:=⟨gb171, 0, none⟩) (Kd.R_types HO_162000.out BK171.out (by decide)) (fun _ hk => hk.2) (.int .i64 ((rd_T38 l0_1 x52_2).f0))) (fun _ hk => hk.2) (.int .i64 ((rd_T38 l0_1 x52_2).f1))) (fun _ h_ => h_.1))) (Kd.R_typed (by (with_reducible repeat (first|apply Kd.R_alloc|apply Kd.R_drewN|apply Kd.R_drew));exact (Kd.R_mono (Kd.R_far (p:=⟨gb171, 1, none⟩) (Kd.R_far (p:=⟨gb171, 0, none⟩) (Kd.R_mono HO_161001.out (fun k_ hk => (⟨hk, hk.2⟩ : _ ∧ k_ ≠ gb171))) (fun _ hk => hk.2) (.int .i64 ((rd_T38 l0_1 x52_2).f0))) (fun _ hk => hk.2) (.int .i64 ((rd_T38 l0_1 x52_2).f1))) (fun _ h_ => h_.1)))) (by decide) hg);have n2_:=Aside0.mk (Kd.R_after (ok:=(fun k_ => k_ ≠ gb171)) (by (with_reducible repeat (first|apply Kd.R_alloc|apply Kd.R_drewN|apply Kd.R_drew));exact Kd.R_mono (Kd.R_far (p:=⟨gb171, 1, none⟩) (Kd.R_far (p:=⟨gb171, 0, none⟩) (Kd.R_mono HO_162001.out (fun k_ hk => (⟨hk, hk.2⟩ : _ ∧ k_ ≠ gb171))) (fun _ hk => hk.2) (.int .i64 ((rd_T38 l0_1 x52_2).f0))) (fun _ hk => hk.2) (.int .i64 ((rd_T38 l0_1 x52_2).f1))) (fun _ hk => ⟨hk.1.2, hk.1.1⟩)) hg hat);have n3_:=Aside0.mk (blk_grown (g:=gb157) (o:=.cells #[.slice A0_0 l0_0.length c0_0, .slice (some ad170) l0_1.length c0_1] 28 (0, 0)) (by (with_reducible repeat (first|refine blk_drewN ?_ _|refine blk_drew ?_|refine blk_alloc ?_ _));refine blk_far ?_ NB157_171.out _;(with_reducible repeat (first|refine blk_drewN ?_ _|refine blk_drew ?_|refine blk_alloc ?_ _));refine blk_far ?_ NB157_171.out _;(with_reducible repeat (first|refine blk_drewN ?_ _|refine blk_drew ?_|refine blk_alloc ?_ _));exact BK157.out) hg (Kd.R_ne HO_161001.out BK157.out (by decide)));have n4_:=Aside0.mk (blk_grown (g:=gb158) (o:=.cells #[.slice none 0 0, .slice none 0 0] 28 (0, 0)) (by (with_reducible repeat (first|refine blk_drewN ?_ _|refine blk_drew ?_|refine blk_alloc ?_ _));refine blk_far ?_ NB158_171.out _;(with_reducible repeat (first|refine blk_drewN ?_ _|refine blk_drew ?_|refine blk_alloc ?_ _));refine blk_far ?_ NB158_171.out _;(with_reducible repeat (first|refine blk_drewN ?_ _|refine blk_drew ?_|refine blk_alloc ?_ _));exact BK158.out) hg (Kd.R_ne HO_161001.out BK158.out (by decide)));have n5_:=Aside0.mk (blk_grown (g:=gb159) (o:=.cells #[.slice none 0 0, .slice none 0 0] 28 (0, 0)) (by (with_reducible repeat (first|refine blk_drewN ?_ _|refine blk_drew ?_|refine blk_alloc ?_ _));refine blk_far ?_ NB159_171.out _;(with_reducible repeat (first|refine blk_drewN ?_ _|refine blk_drew ?_|refine blk_alloc ?_ _));refine blk_far ?_ NB159_171.out _;(with_reducible repeat (first|refine blk_drewN ?_ _|refine blk_drew ?_|refine blk_alloc ?_ _));exact BK159.out) hg (Kd.R_ne HO_161001.out BK159.out (by decide)));have n6_:=Aside0.mk (blk_grown (g:=gb160) (o:=.cells #[u161000, u161001] 28 (0, 0)) (by (with_reducible repeat (first|refine blk_drewN ?_ _|refine blk_drew ?_|refine blk_alloc ?_ _));refine blk_far ?_ NB160_171.out _;(with_reducible repeat (first|refine blk_drewN ?_ _|refine blk_drew ?_|refine blk_alloc ?_ _));refine blk_far ?_ NB160_171.out _;(with_reducible repeat (first|refine blk_drewN ?_ _|refine blk_drew ?_|refine blk_alloc ?_ _));exact BK160.out) hg (Kd.R_ne HO_161001.out BK160.out (by decide)));have n7_:=Aside0.mk (blk_grown (g:=gb161) (o:=.cells #[u162000, u162001] 28 (0, 0)) (by (with_reducible repeat (first|refine blk_drewN ?_ _|refine blk_drew ?_|refine blk_alloc ?_ _));refine blk_far ?_ NB161_171.out _;(with_reducible repeat (first|refine blk_drewN ?_ _|refine blk_drew ?_|refine blk_alloc ?_ _));refine blk_far ?_ NB161_171.out _;(with_reducible repeat (first|refine blk_drewN ?_ _|refine blk_drew ?_|refine blk_alloc ?_ _));exact BK161.out) hg (Kd.R_ne HO_161001.out BK161.out (by decide)));have n8_:=Aside0.mk (blk_grown (g:=gb171) (o:=.cells #[.int .i64 ((rd_T38 l0_1 x52_2).f0), .int .i64 ((rd_T38 l0_1 x52_2).f1)] 38 (0, 0)) (by (with_reducible repeat (first|refine blk_drewN ?_ _|refine blk_drew ?_|refine blk_alloc ?_ _));refine blk_put (cs:=#[.int .i64 ((rd_T38 l0_1 x52_2).f0), .int .i64 0]) ?_ 1 _ rfl;(with_reducible repeat (first|refine blk_drewN ?_ _|refine blk_drew ?_|refine blk_alloc ?_ _));refine blk_put (cs:=#[.int .i64 0, .int .i64 0]) ?_ 0 _ rfl;(with_reducible repeat (first|refine blk_drewN ?_ _|refine blk_drew ?_|refine blk_alloc ?_ _));exact BK171.out) hg (Kd.R_away HO_161001.out (fun _ hk => hk.2)));have n9_:=Aside0.mk (hb);have n10_:=Aside0.mk (ho);clear HO_161000;clear HO_162000;clear HO_162001;clear BK157;clear BK158;clear BK159;clear BK160;clear BK161;clear BK171;clear HB;clear HO_161001;have HO_161000:=n0_;have HO_162000:=n1_;have HO_162001:=n2_;have BK157:=n3_;have BK158:=n4_;have BK159:=n5_;have BK160:=n6_;have BK161:=n7_;have BK171:=n8_;have HB:=n9_;have HO174:=n10_;clear n0_ n1_ n2_ n3_ n4_ n5_ n6_ n7_ n8_ n9_ n10_;clear ho hb hg hat;obtain ⟨Ao71, co71, eo71⟩:=Kd.R_slice HO174.out;subst eo71;have hcz72_0 : w70.cell? ⟨gb160, 0, none⟩ = some (u161000):=(blk_cell BK160.out 0).trans rfl;have hcz72_1 : w70.cell? ⟨gb160, 1, none⟩ = some (u161001):=(blk_cell BK160.out 1).trans rfl;have hfz72_0:=blk_frozen BK160.out 0;have hfz72_1:=blk_frozen BK160.out 1))
           go_roundg k2
           case measure => have := HK1.out; have := HK2.out; omega
           case rel => exact ⟨(wrap64 (x52_2 + 1)), (y172), (x162001_2), (.slice Ao71 y172.length co71), (u162001), (by first|rfl|(simp;done)|(simp [*];done)), H', ⟨by have:=HK1.out;have:=HK2.out;omega⟩, ⟨by (with_reducible repeat (first|apply Kd.R_alloc|apply Kd.R_drewN|apply Kd.R_drew));exact Kd.R_mono (Kd.R_far (p:=⟨gb160, 1, none⟩) (Kd.R_types HO_161000.out BK160.out (by decide)) (fun _ hk => hk.2) (.slice Ao71 y172.length co71)) (fun _ hk => hk.1)⟩, ⟨by (with_reducible repeat (first|apply Kd.R_alloc|apply Kd.R_drewN|apply Kd.R_drew));exact Kd.R_mono (Kd.R_far (p:=⟨gb160, 1, none⟩) (Kd.R_types HO174.out BK160.out (by decide)) (fun _ hk => hk.2) (.slice Ao71 y172.length co71)) (fun _ hk => hk.1.1)⟩, ⟨by (with_reducible repeat (first|apply Kd.R_alloc|apply Kd.R_drewN|apply Kd.R_drew));exact Kd.R_mono (Kd.R_far (p:=⟨gb160, 1, none⟩) (Kd.R_types HO_162000.out BK160.out (by decide)) (fun _ hk => hk.2) (.slice Ao71 y172.length co71)) (fun _ hk => hk.1)⟩, ⟨by (with_reducible repeat (first|apply Kd.R_alloc|apply Kd.R_drewN|apply Kd.R_drew));exact Kd.R_mono (Kd.R_far (p:=⟨gb160, 1, none⟩) (Kd.R_types HO_162001.out BK160.out (by decide)) (fun _ hk => hk.2) (.slice Ao71 y172.length co71)) (fun _ hk => hk.1.2)⟩, ⟨by (with_reducible repeat (first|refine blk_drewN ?_ _|refine blk_drew ?_|refine blk_alloc ?_ _));refine blk_far ?_ NB157_160.out _;(with_reducible repeat (first|refine blk_drewN ?_ _|refine blk_drew ?_|refine blk_alloc ?_ _));exact BK157.out⟩, ⟨by (with_reducible repeat (first|refine blk_drewN ?_ _|refine blk_drew ?_|refine blk_alloc ?_ _));refine blk_far ?_ NB158_160.out _;(with_reducible repeat (first|refine blk_drewN ?_ _|refine blk_drew ?_|refine blk_alloc ?_ _));exact BK158.out⟩, ⟨by (with_reducible repeat (first|refine blk_drewN ?_ _|refine blk_drew ?_|refine blk_alloc ?_ _));refine blk_far ?_ NB159_160.out _;(with_reducible repeat (first|refine blk_drewN ?_ _|refine blk_drew ?_|refine blk_alloc ?_ _));exact BK159.out⟩, ⟨by (with_reducible repeat (first|refine blk_drewN ?_ _|refine blk_drew ?_|refine blk_alloc ?_ _));refine blk_put (cs:=#[u161000, u161001]) ?_ 1 _ rfl;(with_reducible repeat (first|refine blk_drewN ?_ _|refine blk_drew ?_|refine blk_alloc ?_ _));exact BK160.out⟩, ⟨by (with_reducible repeat (first|refine blk_drewN ?_ _|refine blk_drew ?_|refine blk_alloc ?_ _));refine blk_far ?_ NB161_160.out _;(with_reducible repeat (first|refine blk_drewN ?_ _|refine blk_drew ?_|refine blk_alloc ?_ _));exact BK161.out⟩, ⟨by repeat (first|(with_reducible first|exact HB.out|apply below_alloc|apply pw_below_drewN|apply below_drew1|refine below_set ?_ GE157.out|refine below_set ?_ GE158.out|refine below_set ?_ GE159.out|refine below_set ?_ GE160.out|refine below_set ?_ GE161.out|refine below_set ?_ GE171.out)|exact HB.out)⟩⟩
          ·rw [if_neg c57] at H
           exact absurd H (by simp)
         ·rw [if_neg c56] at H
          have c56b0 : decide (((rd_T38 l0_1 x52_2).f1) ≤ a1) = false := decide_eq_false c56
          clear c56
          by_cases c73 : x162001_2.length < 8796093022208
          ·rw [if_pos c73] at H
           have LMc73 := Aside0.mk c73
           clear c73
           obtain ⟨y175, hy175⟩ : ∃ y_ : List (S38), y_ = (x162001_2 ++ [(⟨(rd_T38 l0_1 x52_2).f0, wrap64 (((rd_T38 l0_1 x52_2).f1) - a1)⟩ : S38)]) := ⟨_, rfl⟩
           replace H : (marks_Part.l1 k2 a1 l0_1 (l0_1.length : Int) (wrap64 (x52_2 + 1)) x161000_1 x161001_2 x162000_1 y175) = some (r1, r2, r3, r4):=by first|(rw [hy175];with_reducible exact H)|(have H2_:=(Option.bind_some _ _).symm.trans H;rw [hy175];with_reducible exact H2_)|(have H2_:=(Option.bind_some _ _).symm.trans H;with_reducible exact H2_)|with_reducible exact H|(rw [hy175];exact H)|exact H
           have Ny175 := Aside0.mk hy175
           clear hy175
           have H' := Aside0.mk H
           clear H
           have p170 : 0 ≤ (x52_2 : Int):=of_decide_eq_true (by first|(with_reducible assumption)|assumption)
           have q170 : x52_2 < (l0_1.length : Int):=of_decide_eq_true (by first|(with_reducible assumption)|assumption)
           obtain ⟨ad170, e170, hx170_0, hx170_1⟩ := at_T38 HR0_1.out x52_2 p170 q170
           cases e170
           replace hx170_0 := (HB.out.cell (World.block_lt_of_cell? w _ hx170_0)).trans hx170_0
           replace hx170_1 := (HB.out.cell (World.block_lt_of_cell? w _ hx170_1)).trans hx170_1
           replace p170 := eq_true p170
           replace q170 := eq_true q170
           go_wp2_with (first|((with_reducible refine gate_dst (N:=11) rfl ?_);refine box_event ?hg (N:=11) ?hd (cs:=#[.int .i64 0, .int .i64 0]) (t:=38) ?hr ?_;(case hd => rfl);(case hg => rfl);(case hr => first|(go_simp;done)|(go_simp;rfl));intro gb171 hg w74 hbox hb;have n0_:=Aside0.mk (Kd.R_below (by (with_reducible repeat (first|apply Kd.R_alloc|apply Kd.R_drewN|apply Kd.R_drew));exact HO_161000.out) hb);have n1_:=Aside0.mk (Kd.R_below (Kd.R_elderB (by (with_reducible repeat (first|apply Kd.R_alloc|apply Kd.R_drewN|apply Kd.R_drew));exact HO_161001.out) gb171 (Nat.le_of_eq hg.symm)) hb);have n2_:=Aside0.mk (Kd.R_below (by (with_reducible repeat (first|apply Kd.R_alloc|apply Kd.R_drewN|apply Kd.R_drew));exact HO_162000.out) hb);have n3_:=Aside0.mk (Kd.R_below (Kd.R_elderB (by (with_reducible repeat (first|apply Kd.R_alloc|apply Kd.R_drewN|apply Kd.R_drew));exact HO_162001.out) gb171 (Nat.le_of_eq hg.symm)) hb);have n4_:=Aside0.mk (blk_below (g:=gb157) (o:=.cells #[.slice A0_0 l0_0.length c0_0, .slice (some ad170) l0_1.length c0_1] 28 (0, 0)) (by (with_reducible repeat (first|refine blk_drewN ?_ _|refine blk_drew ?_|refine blk_alloc ?_ _));exact BK157.out) hb);have n5_:=Aside0.mk (blk_below (g:=gb158) (o:=.cells #[.slice none 0 0, .slice none 0 0] 28 (0, 0)) (by (with_reducible repeat (first|refine blk_drewN ?_ _|refine blk_drew ?_|refine blk_alloc ?_ _));exact BK158.out) hb);have n6_:=Aside0.mk (blk_below (g:=gb159) (o:=.cells #[.slice none 0 0, .slice none 0 0] 28 (0, 0)) (by (with_reducible repeat (first|refine blk_drewN ?_ _|refine blk_drew ?_|refine blk_alloc ?_ _));exact BK159.out) hb);have n7_:=Aside0.mk (blk_below (g:=gb160) (o:=.cells #[u161000, u161001] 28 (0, 0)) (by (with_reducible repeat (first|refine blk_drewN ?_ _|refine blk_drew ?_|refine blk_alloc ?_ _));exact BK160.out) hb);have n8_:=Aside0.mk (blk_below (g:=gb161) (o:=.cells #[u162000, u162001] 28 (0, 0)) (by (with_reducible repeat (first|refine blk_drewN ?_ _|refine blk_drew ?_|refine blk_alloc ?_ _));exact BK161.out) hb);have n9_:=Aside0.mk (below_step (by repeat (first|(with_reducible first|exact HB.out|apply below_alloc|apply pw_below_drewN|apply below_drew1|refine below_set ?_ GE157.out|refine below_set ?_ GE158.out|refine below_set ?_ GE159.out|refine below_set ?_ GE160.out|refine below_set ?_ GE161.out)|exact HB.out)) hb);have n10_:=Aside0.mk (hbox);have n11_:=Aside0.mk ((by rw [hg];exact (below_size (by repeat (first|(with_reducible first|exact HB.out|apply below_alloc|apply pw_below_drewN|apply below_drew1|refine below_set ?_ GE157.out|refine below_set ?_ GE158.out|refine below_set ?_ GE159.out|refine below_set ?_ GE160.out|refine below_set ?_ GE161.out)|exact HB.out))) : w.heap.size ≤ gb171));have n12_:=Aside0.mk ((by rw [hg];exact (below_size (by repeat (first|(with_reducible first|exact HB.out|apply below_alloc|apply pw_below_drewN|apply below_drew1|refine below_set ?_ GE157.out|refine below_set ?_ GE158.out|refine below_set ?_ GE159.out|refine below_set ?_ GE160.out|refine below_set ?_ GE161.out)|exact HB.out))) : w.heap.size ≤ gb171));have n13_:=Aside0.mk ((by rw [hg];exact Nat.ne_of_lt (blk_lt (g:=gb157) (o:=.cells #[.slice A0_0 l0_0.length c0_0, .slice (some ad170) l0_1.length c0_1] 28 (0, 0)) (by (with_reducible repeat (first|refine blk_drewN ?_ _|refine blk_drew ?_|refine blk_alloc ?_ _));exact BK157.out)) : gb157 ≠ gb171));have n14_:=Aside0.mk ((by rw [hg];exact Nat.ne_of_gt (blk_lt (g:=gb157) (o:=.cells #[.slice A0_0 l0_0.length c0_0, .slice (some ad170) l0_1.length c0_1] 28 (0, 0)) (by (with_reducible repeat (first|refine blk_drewN ?_ _|refine blk_drew ?_|refine blk_alloc ?_ _));exact BK157.out)) : gb171 ≠ gb157));have n15_:=Aside0.mk ((by rw [hg];exact Nat.ne_of_lt (blk_lt (g:=gb158) (o:=.cells #[.slice none 0 0, .slice none 0 0] 28 (0, 0)) (by (with_reducible repeat (first|refine blk_drewN ?_ _|refine blk_drew ?_|refine blk_alloc ?_ _));exact BK158.out)) : gb158 ≠ gb171));have n16_:=Aside0.mk ((by rw [hg];exact Nat.ne_of_gt (blk_lt (g:=gb158) (o:=.cells #[.slice none 0 0, .slice none 0 0] 28 (0, 0)) (by (with_reducible repeat (first|refine blk_drewN ?_ _|refine blk_drew ?_|refine blk_alloc ?_ _));exact BK158.out)) : gb171 ≠ gb158));have n17_:=Aside0.mk ((by rw [hg];exact Nat.ne_of_lt (blk_lt (g:=gb159) (o:=.cells #[.slice none 0 0, .slice none 0 0] 28 (0, 0)) (by (with_reducible repeat (first|refine blk_drewN ?_ _|refine blk_drew ?_|refine blk_alloc ?_ _));exact BK159.out)) : gb159 ≠ gb171));have n18_:=Aside0.mk ((by rw [hg];exact Nat.ne_of_gt (blk_lt (g:=gb159) (o:=.cells #[.slice none 0 0, .slice none 0 0] 28 (0, 0)) (by (with_reducible repeat (first|refine blk_drewN ?_ _|refine blk_drew ?_|refine blk_alloc ?_ _));exact BK159.out)) : gb171 ≠ gb159));have n19_:=Aside0.mk ((by rw [hg];exact Nat.ne_of_lt (blk_lt (g:=gb160) (o:=.cells #[u161000, u161001] 28 (0, 0)) (by (with_reducible repeat (first|refine blk_drewN ?_ _|refine blk_drew ?_|refine blk_alloc ?_ _));exact BK160.out)) : gb160 ≠ gb171));have n20_:=Aside0.mk ((by rw [hg];exact Nat.ne_of_gt (blk_lt (g:=gb160) (o:=.cells #[u161000, u161001] 28 (0, 0)) (by (with_reducible repeat (first|refine blk_drewN ?_ _|refine blk_drew ?_|refine blk_alloc ?_ _));exact BK160.out)) : gb171 ≠ gb160));have n21_:=Aside0.mk ((by rw [hg];exact Nat.ne_of_lt (blk_lt (g:=gb161) (o:=.cells #[u162000, u162001] 28 (0, 0)) (by (with_reducible repeat (first|refine blk_drewN ?_ _|refine blk_drew ?_|refine blk_alloc ?_ _));exact BK161.out)) : gb161 ≠ gb171));have n22_:=Aside0.mk ((by rw [hg];exact Nat.ne_of_gt (blk_lt (g:=gb161) (o:=.cells #[u162000, u162001] 28 (0, 0)) (by (with_reducible repeat (first|refine blk_drewN ?_ _|refine blk_drew ?_|refine blk_alloc ?_ _));exact BK161.out)) : gb171 ≠ gb161));clear HO_161000;clear HO_161001;clear HO_162000;clear HO_162001;clear BK157;clear BK158;clear BK159;clear BK160;clear BK161;clear HB;have HO_161000:=n0_;have HO_161001:=n1_;have HO_162000:=n2_;have HO_162001:=n3_;have BK157:=n4_;have BK158:=n5_;have BK159:=n6_;have BK160:=n7_;have BK161:=n8_;have HB:=n9_;have BK171:=n10_;have GW171:=n11_;have GE171:=n12_;have NB157_171:=n13_;have NB171_157:=n14_;have NB158_171:=n15_;have NB171_158:=n16_;have NB159_171:=n17_;have NB171_159:=n18_;have NB160_171:=n19_;have NB171_160:=n20_;have NB161_171:=n21_;have NB171_161:=n22_;clear n0_ n1_ n2_ n3_ n4_ n5_ n6_ n7_ n8_ n9_ n10_ n11_ n12_ n13_ n14_ n15_ n16_ n17_ n18_ n19_ n20_ n21_ n22_;clear hb hbox hg;have hnb75:=NB171_157.out;have hnc75:=NB157_171.out;have hnb76:=NB171_158.out;have hnc76:=NB158_171.out;have hnb77:=NB171_159.out;have hnc77:=NB159_171.out;have hnb78:=NB171_160.out;have hnc78:=NB160_171.out;have hnb79:=NB171_161.out;have hnc79:=NB161_171.out;have hcz80_0 : w74.cell? ⟨gb171, 0, none⟩ = some (.int .i64 0):=(blk_cell BK171.out 0).trans rfl;have hcz80_1 : w74.cell? ⟨gb171, 1, none⟩ = some (.int .i64 0):=(blk_cell BK171.out 1).trans rfl;have hfz80_0:=blk_frozen BK171.out 0;have hfz80_1:=blk_frozen BK171.out 1;have hnb81:=NB161_157.out;have hnc81:=NB157_161.out;have hnb82:=NB161_158.out;have hnc82:=NB158_161.out;have hnb83:=NB161_159.out;have hnc83:=NB159_161.out;have hnb84:=NB161_160.out;have hnc84:=NB160_161.out;have hcz85_0 : w74.cell? ⟨gb161, 0, none⟩ = some (u162000):=(blk_cell BK161.out 0).trans rfl;have hcz85_1 : w74.cell? ⟨gb161, 1, none⟩ = some (u162001):=(blk_cell BK161.out 1).trans rfl;have hfz85_0:=blk_frozen BK161.out 0;have hfz85_1:=blk_frozen BK161.out 1)|((with_reducible refine gate_builtin (b:=.append) (xs:=#[.tmp 67, .tmp 75]) rfl ?_);at_builtin;refine Kd.R_append k38 (w0:=w) w.heap.size rfl (.tmp 67) (.tmp 75) 23 38 (.agg #[(.int .i64 0), (.int .i64 0)]) 16 rfl Try.underlying23 info38 rfl (by decide) (by omega) u162001 x162001_2 (⟨(rd_T38 l0_1 x52_2).f0, wrap64 (((rd_T38 l0_1 x52_2).f1) - a1)⟩ : S38) [.int .i64 ((rd_T38 l0_1 x52_2).f0), .int .i64 (wrap64 (((rd_T38 l0_1 x52_2).f1) - a1))] (fun k_ => some k_ ≠ (u161001 : Value).ownBlock ∧ k_ ≠ gb171) (fun _ => False) rfl (by first|(go_simp;done)|(go_simp;rfl)) ?aP (fun _ hk => hk.elim) ?aF ?aO ?aB ?aS ?aL ?_;(case aP => exact k38_mkM _ _ _ (⟨(rd_T38 l0_1 x52_2).f0, wrap64 (((rd_T38 l0_1 x52_2).f1) - a1)⟩ : S38));(case aB => exact (by repeat (first|(with_reducible first|exact HB.out|apply below_alloc|apply pw_below_drewN|apply below_drew1|refine below_set ?_ GE157.out|refine below_set ?_ GE158.out|refine below_set ?_ GE159.out|refine below_set ?_ GE160.out|refine below_set ?_ GE161.out|refine below_set ?_ GE171.out)|exact HB.out)));(case aF => exact (fun k_ hk => ⟨Kd.fresh' (Kd.R_lt (by (with_reducible repeat (first|apply Kd.R_alloc|apply Kd.R_drewN|apply Kd.R_drew));exact (Kd.R_mono (Kd.R_far (p:=⟨gb171, 1, none⟩) (Kd.R_far (p:=⟨gb171, 0, none⟩) (Kd.R_mono HO_161001.out (fun k_ hk => (⟨hk, hk.2⟩ : _ ∧ k_ ≠ gb171))) (fun _ hk => hk.2) (.int .i64 ((rd_T38 l0_1 x52_2).f0))) (fun _ hk => hk.2) (.int .i64 ((rd_T38 l0_1 x52_2).f1))) (fun _ h_ => h_.1)))) k_ hk, Kd.freshB (g:=gb171) (o:=.cells #[.int .i64 ((rd_T38 l0_1 x52_2).f0), .int .i64 ((rd_T38 l0_1 x52_2).f1)] 38 (0, 0)) (by (with_reducible repeat (first|refine blk_drewN ?_ _|refine blk_drew ?_|refine blk_alloc ?_ _));refine blk_put (cs:=#[.int .i64 ((rd_T38 l0_1 x52_2).f0), .int .i64 0]) ?_ 1 _ rfl;(with_reducible repeat (first|refine blk_drewN ?_ _|refine blk_drew ?_|refine blk_alloc ?_ _));refine blk_put (cs:=#[.int .i64 0, .int .i64 0]) ?_ 0 _ rfl;(with_reducible repeat (first|refine blk_drewN ?_ _|refine blk_drew ?_|refine blk_alloc ?_ _));exact BK171.out) k_ hk⟩));(case aO => exact (by (with_reducible repeat (first|apply Kd.R_alloc|apply Kd.R_drewN|apply Kd.R_drew));exact Kd.R_mono (Kd.R_far (p:=⟨gb171, 1, none⟩) (Kd.R_far (p:=⟨gb171, 0, none⟩) (Kd.R_mono HO_162001.out (fun k_ hk => (⟨hk, hk.2⟩ : _ ∧ k_ ≠ gb171))) (fun _ hk => hk.2) (.int .i64 ((rd_T38 l0_1 x52_2).f0))) (fun _ hk => hk.2) (.int .i64 ((rd_T38 l0_1 x52_2).f1))) (fun _ hk => ⟨hk.1.1, hk.1.2⟩)));(case aS => exact (below_size (by repeat (first|(with_reducible first|exact HB.out|apply below_alloc|apply pw_below_drewN|apply below_drew1|refine below_set ?_ GE157.out|refine below_set ?_ GE158.out|refine below_set ?_ GE159.out|refine below_set ?_ GE160.out|refine below_set ?_ GE161.out|refine below_set ?_ GE171.out)|exact HB.out))));(case aL => have:=LMc73.out;omega);intro v176 w86 ho hb hg hat;rw [← Ny175.out] at ho;have n0_:=Aside0.mk (Kd.R_over' (by (with_reducible repeat (first|apply Kd.R_alloc|apply Kd.R_drewN|apply Kd.R_drew));exact (Kd.R_mono (Kd.R_far (p:=⟨gb171, 1, none⟩) (Kd.R_far (p:=⟨gb171, 0, none⟩) (Kd.R_types HO_161000.out BK171.out (by decide)) (fun _ hk => hk.2) (.int .i64 ((rd_T38 l0_1 x52_2).f0))) (fun _ hk => hk.2) (.int .i64 ((rd_T38 l0_1 x52_2).f1))) (fun _ h_ => h_.1))) (Kd.R_typed (by (with_reducible repeat (first|apply Kd.R_alloc|apply Kd.R_drewN|apply Kd.R_drew));exact (Kd.R_mono (Kd.R_far (p:=⟨gb171, 1, none⟩) (Kd.R_far (p:=⟨gb171, 0, none⟩) (Kd.R_mono HO_162001.out (fun k_ hk => (⟨hk, hk.2⟩ : _ ∧ k_ ≠ gb171))) (fun _ hk => hk.2) (.int .i64 ((rd_T38 l0_1 x52_2).f0))) (fun _ hk => hk.2) (.int .i64 ((rd_T38 l0_1 x52_2).f1))) (fun _ h_ => h_.1)))) (by decide) hg);have n1_:=Aside0.mk (Kd.R_after (ok:=(fun k_ => k_ ≠ gb171)) (by (with_reducible repeat (first|apply Kd.R_alloc|apply Kd.R_drewN|apply Kd.R_drew));exact Kd.R_mono (Kd.R_far (p:=⟨gb171, 1, none⟩) (Kd.R_far (p:=⟨gb171, 0, none⟩) (Kd.R_mono HO_161001.out (fun k_ hk => (⟨hk, hk.2⟩ : _ ∧ k_ ≠ gb171))) (fun _ hk => hk.2) (.int .i64 ((rd_T38 l0_1 x52_2).f0))) (fun _ hk => hk.2) (.int .i64 ((rd_T38 l0_1 x52_2).f1))) (fun _ hk => ⟨hk.1.2, hk.1.1⟩)) hg hat);have n2_:=Aside0.mk (Kd.R_over' (by (with_reducible repeat (first|apply Kd.R_alloc|apply Kd.R_drewN|apply Kd.R_drew));exact (Kd.R_mono (Kd.R_far (p:=⟨gb171, 1, none⟩) (Kd.R_far (p:=⟨gb171, 0, none⟩) (Kd.R_types HO_162000.out BK171.out (by decide)) (fun _ hk => hk.2) (.int .i64 ((rd_T38 l0_1 x52_2).f0))) (fun _ hk => hk.2) (.int .i64 ((rd_T38 l0_1 x52_2).f1))) (fun _ h_ => h_.1))) (Kd.R_typed (by (with_reducible repeat (first|apply Kd.R_alloc|apply Kd.R_drewN|apply Kd.R_drew));exact (Kd.R_mono (Kd.R_far (p:=⟨gb171, 1, none⟩) (Kd.R_far (p:=⟨gb171, 0, none⟩) (Kd.R_mono HO_162001.out (fun k_ hk => (⟨hk, hk.2⟩ : _ ∧ k_ ≠ gb171))) (fun _ hk => hk.2) (.int .i64 ((rd_T38 l0_1 x52_2).f0))) (fun _ hk => hk.2) (.int .i64 ((rd_T38 l0_1 x52_2).f1))) (fun _ h_ => h_.1)))) (by decide) hg);have n3_:=Aside0.mk (blk_grown (g:=gb157) (o:=.cells #[.slice A0_0 l0_0.length c0_0, .slice (some ad170) l0_1.length c0_1] 28 (0, 0)) (by (with_reducible repeat (first|refine blk_drewN ?_ _|refine blk_drew ?_|refine blk_alloc ?_ _));refine blk_far ?_ NB157_171.out _;(with_reducible repeat (first|refine blk_drewN ?_ _|refine blk_drew ?_|refine blk_alloc ?_ _));refine blk_far ?_ NB157_171.out _;(with_reducible repeat (first|refine blk_drewN ?_ _|refine blk_drew ?_|refine blk_alloc ?_ _));exact BK157.out) hg (Kd.R_ne HO_162001.out BK157.out (by decide)));have n4_:=Aside0.mk (blk_grown (g:=gb158) (o:=.cells #[.slice none 0 0, .slice none 0 0] 28 (0, 0)) (by (with_reducible repeat (first|refine blk_drewN ?_ _|refine blk_drew ?_|refine blk_alloc ?_ _));refine blk_far ?_ NB158_171.out _;(with_reducible repeat (first|refine blk_drewN ?_ _|refine blk_drew ?_|refine blk_alloc ?_ _));refine blk_far ?_ NB158_171.out _;(with_reducible repeat (first|refine blk_drewN ?_ _|refine blk_drew ?_|refine blk_alloc ?_ _));exact BK158.out) hg (Kd.R_ne HO_162001.out BK158.out (by decide)));have n5_:=Aside0.mk (blk_grown (g:=gb159) (o:=.cells #[.slice none 0 0, .slice none 0 0] 28 (0, 0)) (by (with_reducible repeat (first|refine blk_drewN ?_ _|refine blk_drew ?_|refine blk_alloc ?_ _));refine blk_far ?_ NB159_171.out _;(with_reducible repeat (first|refine blk_drewN ?_ _|refine blk_drew ?_|refine blk_alloc ?_ _));refine blk_far ?_ NB159_171.out _;(with_reducible repeat (first|refine blk_drewN ?_ _|refine blk_drew ?_|refine blk_alloc ?_ _));exact BK159.out) hg (Kd.R_ne HO_162001.out BK159.out (by decide)));have n6_:=Aside0.mk (blk_grown (g:=gb160) (o:=.cells #[u161000, u161001] 28 (0, 0)) (by (with_reducible repeat (first|refine blk_drewN ?_ _|refine blk_drew ?_|refine blk_alloc ?_ _));refine blk_far ?_ NB160_171.out _;(with_reducible repeat (first|refine blk_drewN ?_ _|refine blk_drew ?_|refine blk_alloc ?_ _));refine blk_far ?_ NB160_171.out _;(with_reducible repeat (first|refine blk_drewN ?_ _|refine blk_drew ?_|refine blk_alloc ?_ _));exact BK160.out) hg (Kd.R_ne HO_162001.out BK160.out (by decide)));have n7_:=Aside0.mk (blk_grown (g:=gb161) (o:=.cells #[u162000, u162001] 28 (0, 0)) (by (with_reducible repeat (first|refine blk_drewN ?_ _|refine blk_drew ?_|refine blk_alloc ?_ _));refine blk_far ?_ NB161_171.out _;(with_reducible repeat (first|refine blk_drewN ?_ _|refine blk_drew ?_|refine blk_alloc ?_ _));refine blk_far ?_ NB161_171.out _;(with_reducible repeat (first|refine blk_drewN ?_ _|refine blk_drew ?_|refine blk_alloc ?_ _));exact BK161.out) hg (Kd.R_ne HO_162001.out BK161.out (by decide)));have n8_:=Aside0.mk (blk_grown (g:=gb171) (o:=.cells #[.int .i64 ((rd_T38 l0_1 x52_2).f0), .int .i64 ((rd_T38 l0_1 x52_2).f1)] 38 (0, 0)) (by (with_reducible repeat (first|refine blk_drewN ?_ _|refine blk_drew ?_|refine blk_alloc ?_ _));refine blk_put (cs:=#[.int .i64 ((rd_T38 l0_1 x52_2).f0), .int .i64 0]) ?_ 1 _ rfl;(with_reducible repeat (first|refine blk_drewN ?_ _|refine blk_drew ?_|refine blk_alloc ?_ _));refine blk_put (cs:=#[.int .i64 0, .int .i64 0]) ?_ 0 _ rfl;(with_reducible repeat (first|refine blk_drewN ?_ _|refine blk_drew ?_|refine blk_alloc ?_ _));exact BK171.out) hg (Kd.R_away HO_162001.out (fun _ hk => hk.2)));have n9_:=Aside0.mk (hb);have n10_:=Aside0.mk (ho);clear HO_161000;clear HO_161001;clear HO_162000;clear BK157;clear BK158;clear BK159;clear BK160;clear BK161;clear BK171;clear HB;clear HO_162001;have HO_161000:=n0_;have HO_161001:=n1_;have HO_162000:=n2_;have BK157:=n3_;have BK158:=n4_;have BK159:=n5_;have BK160:=n6_;have BK161:=n7_;have BK171:=n8_;have HB:=n9_;have HO177:=n10_;clear n0_ n1_ n2_ n3_ n4_ n5_ n6_ n7_ n8_ n9_ n10_;clear ho hb hg hat;obtain ⟨Ao87, co87, eo87⟩:=Kd.R_slice HO177.out;subst eo87;have hcz88_0 : w86.cell? ⟨gb161, 0, none⟩ = some (u162000):=(blk_cell BK161.out 0).trans rfl;have hcz88_1 : w86.cell? ⟨gb161, 1, none⟩ = some (u162001):=(blk_cell BK161.out 1).trans rfl;have hfz88_0:=blk_frozen BK161.out 0;have hfz88_1:=blk_frozen BK161.out 1))
           go_roundg k2
           case measure => have := HK1.out; have := HK2.out; omega
           case rel => exact ⟨(wrap64 (x52_2 + 1)), (x161001_2), (y175), (u161001), (.slice Ao87 y175.length co87), (by first|rfl|(simp;done)|(simp [*];done)), H', ⟨by have:=HK1.out;have:=HK2.out;omega⟩, ⟨by (with_reducible repeat (first|apply Kd.R_alloc|apply Kd.R_drewN|apply Kd.R_drew));exact Kd.R_mono (Kd.R_far (p:=⟨gb161, 1, none⟩) (Kd.R_types HO_161000.out BK161.out (by decide)) (fun _ hk => hk.2) (.slice Ao87 y175.length co87)) (fun _ hk => hk.1)⟩, ⟨by (with_reducible repeat (first|apply Kd.R_alloc|apply Kd.R_drewN|apply Kd.R_drew));exact Kd.R_mono (Kd.R_far (p:=⟨gb161, 1, none⟩) (Kd.R_types HO_161001.out BK161.out (by decide)) (fun _ hk => hk.2) (.slice Ao87 y175.length co87)) (fun _ hk => hk.1.2)⟩, ⟨by (with_reducible repeat (first|apply Kd.R_alloc|apply Kd.R_drewN|apply Kd.R_drew));exact Kd.R_mono (Kd.R_far (p:=⟨gb161, 1, none⟩) (Kd.R_types HO_162000.out BK161.out (by decide)) (fun _ hk => hk.2) (.slice Ao87 y175.length co87)) (fun _ hk => hk.1)⟩, ⟨by (with_reducible repeat (first|apply Kd.R_alloc|apply Kd.R_drewN|apply Kd.R_drew));exact Kd.R_mono (Kd.R_far (p:=⟨gb161, 1, none⟩) (Kd.R_types HO177.out BK161.out (by decide)) (fun _ hk => hk.2) (.slice Ao87 y175.length co87)) (fun _ hk => hk.1.1)⟩, ⟨by (with_reducible repeat (first|refine blk_drewN ?_ _|refine blk_drew ?_|refine blk_alloc ?_ _));refine blk_far ?_ NB157_161.out _;(with_reducible repeat (first|refine blk_drewN ?_ _|refine blk_drew ?_|refine blk_alloc ?_ _));exact BK157.out⟩, ⟨by (with_reducible repeat (first|refine blk_drewN ?_ _|refine blk_drew ?_|refine blk_alloc ?_ _));refine blk_far ?_ NB158_161.out _;(with_reducible repeat (first|refine blk_drewN ?_ _|refine blk_drew ?_|refine blk_alloc ?_ _));exact BK158.out⟩, ⟨by (with_reducible repeat (first|refine blk_drewN ?_ _|refine blk_drew ?_|refine blk_alloc ?_ _));refine blk_far ?_ NB159_161.out _;(with_reducible repeat (first|refine blk_drewN ?_ _|refine blk_drew ?_|refine blk_alloc ?_ _));exact BK159.out⟩, ⟨by (with_reducible repeat (first|refine blk_drewN ?_ _|refine blk_drew ?_|refine blk_alloc ?_ _));refine blk_far ?_ NB160_161.out _;(with_reducible repeat (first|refine blk_drewN ?_ _|refine blk_drew ?_|refine blk_alloc ?_ _));exact BK160.out⟩, ⟨by (with_reducible repeat (first|refine blk_drewN ?_ _|refine blk_drew ?_|refine blk_alloc ?_ _));refine blk_put (cs:=#[u162000, u162001]) ?_ 1 _ rfl;(with_reducible repeat (first|refine blk_drewN ?_ _|refine blk_drew ?_|refine blk_alloc ?_ _));exact BK161.out⟩, ⟨by repeat (first|(with_reducible first|exact HB.out|apply below_alloc|apply pw_below_drewN|apply below_drew1|refine below_set ?_ GE157.out|refine below_set ?_ GE158.out|refine below_set ?_ GE159.out|refine below_set ?_ GE160.out|refine below_set ?_ GE161.out|refine below_set ?_ GE171.out)|exact HB.out)⟩⟩
          ·rw [if_neg c73] at H
           exact absurd H (by simp)
        ·rw [if_neg c55] at H
         exact absurd H (by simp)
       ·rw [if_neg c54] at H
        exact absurd H (by simp)
      ·rw [if_neg c53] at H
       have c53b0 : decide (x52_2 < (l0_1.length : Int)) = false := decide_eq_false c53
       clear c53
       simp only [Option.some.injEq, Prod.mk.injEq] at H
       obtain ⟨rfl, rfl, rfl, rfl⟩ := H
       try go_wp2
       have n0_ := Aside0.mk (Kd.R_drew HO_161000.out)
       have n1_ := Aside0.mk (Kd.R_drew HO_161001.out)
       have n2_ := Aside0.mk (Kd.R_drew HO_162000.out)
       have n3_ := Aside0.mk (Kd.R_drew HO_162001.out)
       have n4_ := Aside0.mk (blk_drew BK157.out)
       have n5_ := Aside0.mk (blk_drew BK158.out)
       have n6_ := Aside0.mk (blk_drew BK159.out)
       have n7_ := Aside0.mk (blk_drew BK160.out)
       have n8_ := Aside0.mk (blk_drew BK161.out)
       have n9_ := Aside0.mk (below_drew1 HB.out)
       clear HO_161000
       clear HO_161001
       clear HO_162000
       clear HO_162001
       clear BK157
       clear BK158
       clear BK159
       clear BK160
       clear BK161
       clear HB
       have HO_161000 := n0_
       have HO_161001 := n1_
       have HO_162000 := n2_
       have HO_162001 := n3_
       have BK157 := n4_
       have BK158 := n5_
       have BK159 := n6_
       have BK160 := n7_
       have BK161 := n8_
       have HB := n9_
       clear n0_ n1_ n2_ n3_ n4_ n5_ n6_ n7_ n8_ n9_
       obtain ⟨Ao90, co90, eo90⟩ := Kd.R_slice HO_161000.out
       (first | subst eo90 | (injection eo90 with f1_ f2_ f3_; have f4_ := f1_.symm; have f5_ := f3_.symm; clear f1_ f2_ f3_; subst f4_; subst f5_))
       obtain ⟨Ao92, co92, eo92⟩ := Kd.R_slice HO_161001.out
       (first | subst eo92 | (injection eo92 with f1_ f2_ f3_; have f4_ := f1_.symm; have f5_ := f3_.symm; clear f1_ f2_ f3_; subst f4_; subst f5_))
       obtain ⟨Ao94, co94, eo94⟩ := Kd.R_slice HO_162000.out
       (first | subst eo94 | (injection eo94 with f1_ f2_ f3_; have f4_ := f1_.symm; have f5_ := f3_.symm; clear f1_ f2_ f3_; subst f4_; subst f5_))
       obtain ⟨Ao96, co96, eo96⟩ := Kd.R_slice HO_162001.out
       (first | subst eo96 | (injection eo96 with f1_ f2_ f3_; have f4_ := f1_.symm; have f5_ := f3_.symm; clear f1_ f2_ f3_; subst f4_; subst f5_))
       refine start_ (n := 4) (S := fun w' => w'.cell? ⟨gb160, 0, none⟩ = some (.slice Ao90 x161000_1.length co90) ∧ w'.cell? ⟨gb160, 1, none⟩ = some (.slice Ao92 x161001_2.length co92) ∧ w'.cell? ⟨gb161, 0, none⟩ = some (.slice Ao94 x162000_1.length co94) ∧ w'.cell? ⟨gb161, 1, none⟩ = some (.slice Ao96 x162001_2.length co96)) (ds := []) #[false, false, false, false] (by kernel_rfl) rfl rfl ⟨(blk_cell BK160.out 0).trans rfl, (blk_cell BK160.out 1).trans rfl, (blk_cell BK161.out 0).trans rfl, (blk_cell BK161.out 1).trans rfl⟩ (fun hHeld => ?_)
       generalize wr.drew = w89 at HO_161000 HO_161001 HO_162000 HO_162001 BK157 BK158 BK159 BK160 BK161 HB hHeld ⊢
       refine take_ (i := 0) (N := some 79) (v := ?_) (a' := ?_) #[true, false, false, false] rfl rfl (by kernel_rfl) (fun _ _ _ h => h) (Or.inl ⟨by rfl, ?_⟩) hHeld ?_ ?_
       rotate_left
       ·rintro w' ⟨s0, s1, s2, s3⟩
        go_simp
        with_reducible rfl
       rotate_left
       ·simp only [Act.put, List.setIfInBounds_toArray, List.set_cons_zero, List.set_cons_succ, i64_w, i32_w]
        rfl
       refine take_ (i := 1) (N := some 80) (v := ?_) (a' := ?_) #[true, true, false, false] rfl rfl (by kernel_rfl) (fun _ _ _ h => h) (Or.inl ⟨by rfl, ?_⟩) hHeld ?_ ?_
       rotate_left
       ·rintro w' ⟨s0, s1, s2, s3⟩
        go_simp
        with_reducible rfl
       rotate_left
       ·simp only [Act.put, List.setIfInBounds_toArray, List.set_cons_zero, List.set_cons_succ, i64_w, i32_w]
        rfl
       refine one_ (i := 2) (N := none) #[true, true, true, false] rfl rfl (by kernel_rfl) (by decide) (fun K hK => ?_)
       have hs91 : w89.cell? ⟨gb158, 0, none⟩ = some (.slice none 0 0) := (blk_cell BK158.out 0).trans rfl
       have hfs91 := blk_frozen BK158.out 0
       have hns91_0 := NB157_158.out
       have hns91_2 := NB159_158.out
       have hns91_3 := NB160_158.out
       have hns91_4 := NB161_158.out
       have hms91_0 := NB158_157.out
       have hms91_2 := NB158_159.out
       have hms91_3 := NB158_160.out
       have hms91_4 := NB158_161.out
       have hs93 : w89.cell? ⟨gb158, 1, none⟩ = some (.slice none 0 0) := (blk_cell BK158.out 1).trans rfl
       have hfs93 := blk_frozen BK158.out 1
       have hns93_0 := NB157_158.out
       have hns93_2 := NB159_158.out
       have hns93_3 := NB160_158.out
       have hns93_4 := NB161_158.out
       have hms93_0 := NB158_157.out
       have hms93_2 := NB158_159.out
       have hms93_3 := NB158_160.out
       have hms93_4 := NB158_161.out
       refine skip_ (w1 := ?_) (by rfl) rfl ?_ ?_
       rotate_left
       ·go_simp
        rfl
       refine hK.out _ _ ⟨((cell_far (p := ⟨gb158, _, none⟩) NB160_158.out _).trans (((cell_far (p := ⟨gb158, _, none⟩) NB160_158.out _).trans (hHeld.1)))), ((cell_far (p := ⟨gb158, _, none⟩) NB160_158.out _).trans (((cell_far (p := ⟨gb158, _, none⟩) NB160_158.out _).trans (hHeld.2.1)))), ((cell_far (p := ⟨gb158, _, none⟩) NB161_158.out _).trans (((cell_far (p := ⟨gb158, _, none⟩) NB161_158.out _).trans (hHeld.2.2.1)))), ((cell_far (p := ⟨gb158, _, none⟩) NB161_158.out _).trans (((cell_far (p := ⟨gb158, _, none⟩) NB161_158.out _).trans (hHeld.2.2.2))))⟩ (fun hHeld => ?_)
       clear hK K
       refine one_ (i := 3) (N := none) #[true, true, true, true] rfl rfl (by kernel_rfl) (by decide) (fun K hK => ?_)
       have hs95 : w89.cell? ⟨gb159, 0, none⟩ = some (.slice none 0 0) := (blk_cell BK159.out 0).trans rfl
       have hfs95 := blk_frozen BK159.out 0
       have hns95_0 := NB157_159.out
       have hns95_1 := NB158_159.out
       have hns95_3 := NB160_159.out
       have hns95_4 := NB161_159.out
       have hms95_0 := NB159_157.out
       have hms95_1 := NB159_158.out
       have hms95_3 := NB159_160.out
       have hms95_4 := NB159_161.out
       have hs97 : w89.cell? ⟨gb159, 1, none⟩ = some (.slice none 0 0) := (blk_cell BK159.out 1).trans rfl
       have hfs97 := blk_frozen BK159.out 1
       have hns97_0 := NB157_159.out
       have hns97_1 := NB158_159.out
       have hns97_3 := NB160_159.out
       have hns97_4 := NB161_159.out
       have hms97_0 := NB159_157.out
       have hms97_1 := NB159_158.out
       have hms97_3 := NB159_160.out
       have hms97_4 := NB159_161.out
       refine skip_ (w1 := ?_) (by rfl) rfl ?_ ?_
       rotate_left
       ·go_simp
        rfl
       refine hK.out _ _ ⟨((cell_far (p := ⟨gb159, _, none⟩) NB160_159.out _).trans (((cell_far (p := ⟨gb159, _, none⟩) NB160_159.out _).trans (hHeld.1)))), ((cell_far (p := ⟨gb159, _, none⟩) NB160_159.out _).trans (((cell_far (p := ⟨gb159, _, none⟩) NB160_159.out _).trans (hHeld.2.1)))), ((cell_far (p := ⟨gb159, _, none⟩) NB161_159.out _).trans (((cell_far (p := ⟨gb159, _, none⟩) NB161_159.out _).trans (hHeld.2.2.1)))), ((cell_far (p := ⟨gb159, _, none⟩) NB161_159.out _).trans (((cell_far (p := ⟨gb159, _, none⟩) NB161_159.out _).trans (hHeld.2.2.2))))⟩ (fun hHeld => ?_)
       clear hK K
       refine done_ (by kernel_rfl) ?_
       try go_wp2
       refine bodyPost_ret (results_cc rfl _ _ gb158 gb159 28 28 #[.slice Ao90 x161000_1.length co90, .slice Ao92 x161001_2.length co92] #[.slice Ao94 x162000_1.length co94, .slice Ao96 x162001_2.length co96] (0, 0) (0, 0) _ _ rfl (by (with_reducible repeat (first|refine blk_drewN ?_ _|refine blk_drew ?_|refine blk_alloc ?_ _));refine blk_far ?_ NB158_159.out _;(with_reducible repeat (first|refine blk_drewN ?_ _|refine blk_drew ?_|refine blk_alloc ?_ _));refine blk_far ?_ NB158_159.out _;(with_reducible repeat (first|refine blk_drewN ?_ _|refine blk_drew ?_|refine blk_alloc ?_ _));refine blk_put (cs:=#[.slice Ao90 x161000_1.length co90, .slice none 0 0]) ?_ 1 _ rfl;(with_reducible repeat (first|refine blk_drewN ?_ _|refine blk_drew ?_|refine blk_alloc ?_ _));refine blk_put (cs:=#[.slice none 0 0, .slice none 0 0]) ?_ 0 _ rfl;(with_reducible repeat (first|refine blk_drewN ?_ _|refine blk_drew ?_|refine blk_alloc ?_ _));exact BK158.out) Try.underlying28 rfl (by kernel_rfl) rfl (by (with_reducible repeat (first|refine blk_drewN ?_ _|refine blk_drew ?_|refine blk_alloc ?_ _));refine blk_put (cs:=#[.slice Ao94 x162000_1.length co94, .slice none 0 0]) ?_ 1 _ rfl;(with_reducible repeat (first|refine blk_drewN ?_ _|refine blk_drew ?_|refine blk_alloc ?_ _));refine blk_put (cs:=#[.slice none 0 0, .slice none 0 0]) ?_ 0 _ rfl;(with_reducible repeat (first|refine blk_drewN ?_ _|refine blk_drew ?_|refine blk_alloc ?_ _));refine blk_far ?_ NB159_158.out _;(with_reducible repeat (first|refine blk_drewN ?_ _|refine blk_drew ?_|refine blk_alloc ?_ _));refine blk_far ?_ NB159_158.out _;(with_reducible repeat (first|refine blk_drewN ?_ _|refine blk_drew ?_|refine blk_alloc ?_ _));exact BK159.out) Try.underlying28 rfl (by kernel_rfl)) rfl ?_
       exact ⟨_, _, _, _, by first|rfl|(simp [errW_none, errW_some] <;> rfl)|(simp [*, errW_none, errW_some] <;> rfl), by (with_reducible repeat (first|apply Kd.R_alloc|apply Kd.R_drewN|apply Kd.R_drew));exact Kd.R_mono (Kd.R_far (p:=⟨gb159, 1, none⟩) (Kd.R_far (p:=⟨gb159, 0, none⟩) (Kd.R_far (p:=⟨gb158, 1, none⟩) (Kd.R_far (p:=⟨gb158, 0, none⟩) (Kd.R_types (Kd.R_types HO_161000.out BK158.out (by decide)) BK159.out (by decide)) (fun _ hk => hk.1.2) (.slice Ao90 x161000_1.length co90)) (fun _ hk => hk.1.2) (.slice Ao92 x161001_2.length co92)) (fun _ hk => hk.2) (.slice Ao94 x162000_1.length co94)) (fun _ hk => hk.2) (.slice Ao96 x162001_2.length co96)) (fun _ hk => hk.1.1), by (with_reducible repeat (first|apply Kd.R_alloc|apply Kd.R_drewN|apply Kd.R_drew));exact Kd.R_mono (Kd.R_far (p:=⟨gb159, 1, none⟩) (Kd.R_far (p:=⟨gb159, 0, none⟩) (Kd.R_far (p:=⟨gb158, 1, none⟩) (Kd.R_far (p:=⟨gb158, 0, none⟩) (Kd.R_types (Kd.R_types HO_161001.out BK158.out (by decide)) BK159.out (by decide)) (fun _ hk => hk.1.2) (.slice Ao90 x161000_1.length co90)) (fun _ hk => hk.1.2) (.slice Ao92 x161001_2.length co92)) (fun _ hk => hk.2) (.slice Ao94 x162000_1.length co94)) (fun _ hk => hk.2) (.slice Ao96 x162001_2.length co96)) (fun _ hk => hk.1.1), by (with_reducible repeat (first|apply Kd.R_alloc|apply Kd.R_drewN|apply Kd.R_drew));exact Kd.R_mono (Kd.R_far (p:=⟨gb159, 1, none⟩) (Kd.R_far (p:=⟨gb159, 0, none⟩) (Kd.R_far (p:=⟨gb158, 1, none⟩) (Kd.R_far (p:=⟨gb158, 0, none⟩) (Kd.R_types (Kd.R_types HO_162000.out BK158.out (by decide)) BK159.out (by decide)) (fun _ hk => hk.1.2) (.slice Ao90 x161000_1.length co90)) (fun _ hk => hk.1.2) (.slice Ao92 x161001_2.length co92)) (fun _ hk => hk.2) (.slice Ao94 x162000_1.length co94)) (fun _ hk => hk.2) (.slice Ao96 x162001_2.length co96)) (fun _ hk => hk.1.1), by (with_reducible repeat (first|apply Kd.R_alloc|apply Kd.R_drewN|apply Kd.R_drew));exact Kd.R_mono (Kd.R_far (p:=⟨gb159, 1, none⟩) (Kd.R_far (p:=⟨gb159, 0, none⟩) (Kd.R_far (p:=⟨gb158, 1, none⟩) (Kd.R_far (p:=⟨gb158, 0, none⟩) (Kd.R_types (Kd.R_types HO_162001.out BK158.out (by decide)) BK159.out (by decide)) (fun _ hk => hk.1.2) (.slice Ao90 x161000_1.length co90)) (fun _ hk => hk.1.2) (.slice Ao92 x161001_2.length co92)) (fun _ hk => hk.2) (.slice Ao94 x162000_1.length co94)) (fun _ hk => hk.2) (.slice Ao96 x162001_2.length co96)) (fun _ hk => hk.1.1), by repeat (first|(with_reducible first|exact HB.out|apply below_alloc|apply pw_below_drewN|apply below_drew1|refine below_set ?_ GE157.out|refine below_set ?_ GE158.out|refine below_set ?_ GE159.out|refine below_set ?_ GE160.out|refine below_set ?_ GE161.out)|exact HB.out)⟩

/-! ### chancelref04_each: function 33 -/
mutual
def chancelref04_each.l0 : Nat → List Int → Int → List (S26) → List (S38) → Option (List Int)
 | 0, _, _, _, _ => none
 | k + 1, x5, x6, x179000, x179001 => if x6 < (x179000.length : Int) then (if 0 ≤ x6 then (chancelref04_each.l1 k x5 x6 ((rd_T26 x179000 x6).f1) x179000 x179001) else (none)) else (some x5)
def chancelref04_each.l1 : Nat → List Int → Int → Int → List (S26) → List (S38) → Option (List Int)
 | 0, _, _, _, _, _ => none
 | k + 1, x5, x6, x7, x179000, x179001 => if 0 ≤ x6 then (if x6 < (x179000.length : Int) then (if x7 < ((rd_T26 x179000 x6).f2) then (if 0 ≤ x7 then (if x7 < (x5.length : Int) then (chancelref04_each.l1 k (x5.set (x7 : Int).toNat ((rd_T26 x179000 x6).f0)) x6 (wrap64 (x7 + 1)) x179000 x179001) else (none)) else (none)) else (chancelref04_each.l0 k x5 (wrap64 (x6 + 1)) x179000 x179001)) else (none)) else (none)
end
def chancelref04_each.f (k : Nat) (l0_0 : List (S26)) (l0_1 : List (S38)) (a1 : Int) : Option (List Int) := if 0 ≤ a1 then (if (a1 : Int).toNat ≤ 35184372088832 then (chancelref04_each.l0 k (List.replicate (a1 : Int).toNat 0) 0 l0_0 l0_1) else (none)) else (none)
theorem chancelref04_each.mono_l : ∀ k, (∀ y0 y1 y2 y3, LeO (chancelref04_each.l0 k y0 y1 y2 y3) (chancelref04_each.l0 (k + 1) y0 y1 y2 y3)) ∧ (∀ y0 y1 y2 y3 y4, LeO (chancelref04_each.l1 k y0 y1 y2 y3 y4) (chancelref04_each.l1 (k + 1) y0 y1 y2 y3 y4))
 | 0 => ⟨fun _ _ _ _ r h => by simp [chancelref04_each.l0] at h, fun _ _ _ _ _ r h => by simp [chancelref04_each.l1] at h⟩
 | k + 1 => by
  obtain ⟨ih0, ih1⟩ := chancelref04_each.mono_l k
  refine ⟨?_, ?_⟩
  ·intro y0 y1 y2 y3
   unfold chancelref04_each.l0
   repeat' first
   | (with_reducible exact ih0 _ _ _ _)
   | (with_reducible exact ih1 _ _ _ _ _)
   | (with_reducible exact LeO.refl _)
   | (with_reducible exact LeO.none _)
   | (with_reducible refine LeO.ite ?_ ?_)
   | (with_reducible refine LeO.bind ?_ (fun _ => ?_))
   | exact ih0 _ _ _ _
   | exact ih1 _ _ _ _ _
   | exact LeO.none _
   | refine LeO.ite ?_ ?_
   | refine LeO.bind ?_ (fun _ => ?_)
  ·intro y0 y1 y2 y3 y4
   unfold chancelref04_each.l1
   repeat' first
   | (with_reducible exact ih0 _ _ _ _)
   | (with_reducible exact ih1 _ _ _ _ _)
   | (with_reducible exact LeO.refl _)
   | (with_reducible exact LeO.none _)
   | (with_reducible refine LeO.ite ?_ ?_)
   | (with_reducible refine LeO.bind ?_ (fun _ => ?_))
   | exact ih0 _ _ _ _
   | exact ih1 _ _ _ _ _
   | exact LeO.none _
   | refine LeO.ite ?_ ?_
   | refine LeO.bind ?_ (fun _ => ?_)
theorem chancelref04_each.mono : ∀ a0 a1 a2 k, LeO (chancelref04_each.f k a0 a1 a2) (chancelref04_each.f (k + 1) a0 a1 a2) := by
 intro a0 a1 a2 k
 obtain ⟨ih0, ih1⟩ := chancelref04_each.mono_l k
 unfold chancelref04_each.f
 repeat' first
   | (with_reducible exact ih0 _ _ _ _)
   | (with_reducible exact ih1 _ _ _ _ _)
   | (with_reducible exact LeO.refl _)
   | (with_reducible exact LeO.none _)
   | (with_reducible refine LeO.ite ?_ ?_)
   | (with_reducible refine LeO.bind ?_ (fun _ => ?_))
   | exact ih0 _ _ _ _
   | exact ih1 _ _ _ _ _
   | exact LeO.none _
   | refine LeO.ite ?_ ?_
   | refine LeO.bind ?_ (fun _ => ?_)
set_option maxHeartbeats 8000000 in
set_option maxRecDepth 100000 in
theorem chancelref04_each.calls (k : Nat) (A0_0 : Option Addr) (c0_0 : Nat) (l0_0 : List (S26)) (A0_1 : Option Addr) (c0_1 : Nat) (l0_1 : List (S38)) (a1 : Int) (r : List Int) (w : World) (hr0_0 : Kd.C k26 w A0_0 l0_0.length l0_0) (hc0_0 : l0_0.length ≤ c0_0) (hr0_1 : Kd.C k38 w A0_1 l0_1.length l0_1) (hc0_1 : l0_1.length ≤ c0_1) (h : chancelref04_each.f k l0_0 l0_1 a1 = some r) :
  Calls Try.prog 33 #[.agg #[.slice A0_0 l0_0.length c0_0, .slice A0_1 l0_1.length c0_1], .int .i64 a1] w fun e w' => ∃ v0_ : Value, e = .returned (v0_) ∧ Kd.R (Kd.int .i64) 3 w' w.heap.size (fun _ => True) v0_ r ∧ Below w.heap.size w w' := by
 have hu30 := Try.underlying30
 have HR0_0 := Aside0.mk hr0_0
 have HC0_0 := Aside0.mk hc0_0
 clear hr0_0 hc0_0
 have HR0_1 := Aside0.mk hr0_1
 have HC0_1 := Aside0.mk hc0_1
 clear hr0_1 hc0_1
 have HB := Aside0.mk (Below.refl w.heap.size w)
 have H : (if 0 ≤ a1 then (if (a1 : Int).toNat ≤ 35184372088832 then (chancelref04_each.l0 k (List.replicate (a1 : Int).toNat 0) 0 l0_0 l0_1) else (none)) else (none)) = some r := h
 clear h
 by_cases c3 : 0 ≤ a1
 ·rw [if_pos c3] at H
  have c3b0 := eq_true c3
  have c3b1 : decide (0 ≤ a1) = true := decide_eq_true c3
  clear c3
  by_cases c4 : (a1 : Int).toNat ≤ 35184372088832
  ·rw [if_pos c4] at H
   have c4b0 := eq_true c4
   have c4b1 : decide ((a1 : Int).toNat ≤ 35184372088832) = true := decide_eq_true c4
   clear c4
   obtain ⟨y179, hy179⟩ : ∃ y_ : List Int, y_ = (List.replicate (a1 : Int).toNat 0) := ⟨_, rfl⟩
   replace H : (chancelref04_each.l0 k y179 0 l0_0 l0_1) = some r:=by first|(rw [hy179];with_reducible exact H)|(have H2_:=(Option.bind_some _ _).symm.trans H;rw [hy179];with_reducible exact H2_)|(have H2_:=(Option.bind_some _ _).symm.trans H;with_reducible exact H2_)|with_reducible exact H|(rw [hy179];exact H)|exact H
   have Ny179 := Aside0.mk hy179
   clear hy179
   have H' := Aside0.mk H
   clear H
   go_enter Try.func33, Try.ntmps33
   go_wp2_with (first|((with_reducible refine gate_dst (N:=2) rfl ?_);refine box_event ?hg (N:=2) ?hd (cs:=#[.slice A0_0 l0_0.length c0_0, .slice A0_1 l0_1.length c0_1]) (t:=30) ?hr ?_;(case hd => rfl);(case hg => rfl);(case hr => first|(go_simp;done)|(go_simp;rfl));intro gb178 hg w5 hbox hb;have n0_:=Aside0.mk (below_step (by repeat (first|(with_reducible first|exact HB.out|apply below_alloc|apply pw_below_drewN|apply below_drew1)|exact HB.out)) hb);have n1_:=Aside0.mk (hbox);have n2_:=Aside0.mk ((by rw [hg];exact (below_size (by repeat (first|(with_reducible first|exact HB.out|apply below_alloc|apply pw_below_drewN|apply below_drew1)|exact HB.out))) : w.heap.size ≤ gb178));have n3_:=Aside0.mk ((by rw [hg];exact (below_size (by repeat (first|(with_reducible first|exact HB.out|apply below_alloc|apply pw_below_drewN|apply below_drew1)|exact HB.out))) : w.heap.size ≤ gb178));clear HB;have HB:=n0_;have BK178:=n1_;have GW178:=n2_;have GE178:=n3_;clear n0_ n1_ n2_ n3_;clear hb hbox hg)|((with_reducible refine gate_dst (N:=9) rfl ?_);refine Kd.R_make (Kd.int .i64) _ 3 rfl (N:=9) rfl 34 _ _ rfl a1 rfl rfl Try.underlying34 (.int .i64 0) 8 info3 rfl (by decide) (by omega) 0 (ok:=fun _ => True) (okp:=fun _ => True) rfl (fun _ hk => hk) trivial (of_decide_eq_true (by first|(with_reducible assumption)|assumption)) (Nat.le_trans (Nat.mul_le_mul_right _ (of_decide_eq_true (by first|(with_reducible assumption)|assumption) : a1.toNat ≤ 35184372088832)) (by omega)) (Below.refl _ _) (Nat.le_refl _) ?_;intro v180 w6 ho7 hb hg_ hnew_;clear hg_ hnew_;(first|rw [← Ny179.out] at ho7|(simp only [Int.reduceToNat] at ho7;rw [← Ny179.out] at ho7));have n0_:=Aside0.mk (Kd.R_lower ho7 (below_size (by repeat (first|(with_reducible first|exact HB.out|apply below_alloc|apply pw_below_drewN|apply below_drew1|refine below_set ?_ GE178.out)|exact HB.out))));have n1_:=Aside0.mk (blk_below (g:=gb178) (o:=.cells #[.slice A0_0 l0_0.length c0_0, .slice A0_1 l0_1.length c0_1] 30 (0, 0)) (by (with_reducible repeat (first|refine blk_drewN ?_ _|refine blk_drew ?_|refine blk_alloc ?_ _));exact BK178.out) hb);have n2_:=Aside0.mk (below_step (by repeat (first|(with_reducible first|exact HB.out|apply below_alloc|apply pw_below_drewN|apply below_drew1|refine below_set ?_ GE178.out)|exact HB.out)) hb);clear BK178;clear HB;have HO181:=n0_;have BK178:=n1_;have HB:=n2_;clear n0_ n1_ n2_;clear hb ho7))
   go_loopg [6] k (fun kq v6 w' => ∃ (x5_1 : List Int) (x6_1 : Int), v6 = .int .i64 x6_1 ∧ Aside0 (chancelref04_each.l0 kq x5_1 x6_1 l0_0 l0_1 = some r) ∧ Aside0 (kq ≤ k) ∧ Aside0 (Kd.R (Kd.int .i64) 3 w' w.heap.size (fun _ => True) v180 x5_1) ∧ Aside0 (w'.heap[gb178]? = some (.cells #[(.slice A0_0 l0_0.length c0_0), (.slice A0_1 l0_1.length c0_1)] 30 (0, 0))) ∧ Aside0 (Below w.heap.size w w'))
   case atStart => exact ⟨(y179), (0), (by first|rfl|(simp;done)|(simp [*];done)), H', ⟨Nat.le_refl _⟩, ⟨by (with_reducible repeat (first|apply Kd.R_alloc|apply Kd.R_drewN|apply Kd.R_drew));exact HO181.out⟩, ⟨by (with_reducible repeat (first|refine blk_drewN ?_ _|refine blk_drew ?_|refine blk_alloc ?_ _));exact BK178.out⟩, ⟨by repeat (first|(with_reducible first|exact HB.out|apply below_alloc|apply pw_below_drewN|apply below_drew1|refine below_set ?_ GE178.out)|exact HB.out)⟩⟩
   case round =>
    clear H'
    try clear p2
    try clear c3
    try clear c3b0
    try clear c3b1
    try clear c4
    try clear c4b0
    try clear c4b1
    obtain ⟨x5_1, x6_1, rfl, HA, HK1, HO_5, BK178, HB⟩ := hrel
    cases gk with
    | zero => exact absurd HA.out (by simp [chancelref04_each.l0])
    | succ k1 =>
     have H := HA.out
     clear HA
     simp only [chancelref04_each.l0] at H
     by_cases c8 : x6_1 < (l0_0.length : Int)
     ·rw [if_pos c8] at H
      have c8b0 : decide (x6_1 < (l0_0.length : Int)) = true := decide_eq_true c8
      clear c8
      by_cases c9 : 0 ≤ x6_1
      ·rw [if_pos c9] at H
       have c9b0 : decide (0 ≤ x6_1) = true := decide_eq_true c9
       clear c9
       have H' := Aside0.mk H
       clear H
       have hcz10_0 : wr.cell? ⟨gb178, 0, none⟩ = some (.slice A0_0 l0_0.length c0_0) := (blk_cell BK178.out 0).trans rfl
       have hcz10_1 : wr.cell? ⟨gb178, 1, none⟩ = some (.slice A0_1 l0_1.length c0_1) := (blk_cell BK178.out 1).trans rfl
       have hfz10_0 := blk_frozen BK178.out 0
       have hfz10_1 := blk_frozen BK178.out 1
       have p182 : 0 ≤ (x6_1 : Int):=of_decide_eq_true (by first|(with_reducible assumption)|assumption)
       have q182 : x6_1 < (l0_0.length : Int):=of_decide_eq_true (by first|(with_reducible assumption)|assumption)
       obtain ⟨ad182, e182, hx182_0, hx182_1, hx182_2⟩ := at_T26 HR0_0.out x6_1 p182 q182
       cases e182
       replace hx182_0 := (HB.out.cell (World.block_lt_of_cell? w _ hx182_0)).trans hx182_0
       replace hx182_1 := (HB.out.cell (World.block_lt_of_cell? w _ hx182_1)).trans hx182_1
       replace hx182_2 := (HB.out.cell (World.block_lt_of_cell? w _ hx182_2)).trans hx182_2
       replace p182 := eq_true p182
       replace q182 := eq_true q182
       go_wp2
       go_loopg [7] k1 (fun kq v7 w' => ∃ (x5_2 : List Int) (x7_2 : Int), v7 = .int .i64 x7_2 ∧ Aside0 (chancelref04_each.l1 kq x5_2 x6_1 x7_2 l0_0 l0_1 = some r) ∧ Aside0 (kq ≤ k1) ∧ Aside0 (Kd.R (Kd.int .i64) 3 w' w.heap.size (fun _ => True) v180 x5_2) ∧ Aside0 (w'.heap[gb178]? = some (.cells #[(.slice (some ad182) l0_0.length c0_0), (.slice A0_1 l0_1.length c0_1)] 30 (0, 0))) ∧ Aside0 (Below w.heap.size w w'))
       case atStart => exact ⟨(x5_1), ((rd_T26 l0_0 x6_1).f1), (by first|rfl|(simp;done)|(simp [*];done)), H', ⟨Nat.le_refl _⟩, ⟨by (with_reducible repeat (first|apply Kd.R_alloc|apply Kd.R_drewN|apply Kd.R_drew));exact HO_5.out⟩, ⟨by (with_reducible repeat (first|refine blk_drewN ?_ _|refine blk_drew ?_|refine blk_alloc ?_ _));exact BK178.out⟩, ⟨by repeat (first|(with_reducible first|exact HB.out|apply below_alloc|apply pw_below_drewN|apply below_drew1|refine below_set ?_ GE178.out)|exact HB.out)⟩⟩
       case round =>
        clear H'
        try clear p1
        try clear q1
        try clear hx1
        try clear p2
        try clear c3
        try clear c3b0
        try clear c3b1
        try clear c4
        try clear c4b0
        try clear c4b1
        try clear c8
        try clear c8b0
        try clear c9
        try clear c9b0
        try clear hcz10_0
        try clear hcz10_1
        try clear hfz10_0
        try clear hfz10_1
        try clear hx182_0
        try clear hx182_1
        try clear hx182_2
        try clear p182
        try clear p2
        try clear q182
        obtain ⟨x5_2, x7_2, rfl, HA, HK2, HO_5, BK178, HB⟩ := hrel
        cases gk with
        | zero => exact absurd HA.out (by simp [chancelref04_each.l1])
        | succ k2 =>
         have H := HA.out
         clear HA
         simp only [chancelref04_each.l1] at H
         by_cases c11 : 0 ≤ x6_1
         ·rw [if_pos c11] at H
          have c11b0 : decide (0 ≤ x6_1) = true := decide_eq_true c11
          clear c11
          by_cases c12 : x6_1 < (l0_0.length : Int)
          ·rw [if_pos c12] at H
           have c12b0 : decide (x6_1 < (l0_0.length : Int)) = true := decide_eq_true c12
           clear c12
           by_cases c13 : x7_2 < ((rd_T26 l0_0 x6_1).f2)
           ·rw [if_pos c13] at H
            have c13b0 : decide (x7_2 < ((rd_T26 l0_0 x6_1).f2)) = true := decide_eq_true c13
            clear c13
            by_cases c14 : 0 ≤ x7_2
            ·rw [if_pos c14] at H
             have c14b0 : decide (0 ≤ x7_2) = true := decide_eq_true c14
             clear c14
             by_cases c15 : x7_2 < (x5_2.length : Int)
             ·rw [if_pos c15] at H
              have c15b0 : decide (x7_2 < (x5_2.length : Int)) = true := decide_eq_true c15
              clear c15
              obtain ⟨y185, hy185⟩ : ∃ y_ : List Int, y_ = (x5_2.set (x7_2 : Int).toNat ((rd_T26 l0_0 x6_1).f0)) := ⟨_, rfl⟩
              replace H : (chancelref04_each.l1 k2 y185 x6_1 (wrap64 (x7_2 + 1)) l0_0 l0_1) = some r:=by first|(rw [hy185];with_reducible exact H)|(have H2_:=(Option.bind_some _ _).symm.trans H;rw [hy185];with_reducible exact H2_)|(have H2_:=(Option.bind_some _ _).symm.trans H;with_reducible exact H2_)|with_reducible exact H|(rw [hy185];exact H)|exact H
              have Ny185 := Aside0.mk hy185
              clear hy185
              have H' := Aside0.mk H
              clear H
              have hcz17_0 : wr.cell? ⟨gb178, 0, none⟩ = some (.slice (some ad182) l0_0.length c0_0) := (blk_cell BK178.out 0).trans rfl
              have hcz17_1 : wr.cell? ⟨gb178, 1, none⟩ = some (.slice A0_1 l0_1.length c0_1) := (blk_cell BK178.out 1).trans rfl
              have hfz17_0 := blk_frozen BK178.out 0
              have hfz17_1 := blk_frozen BK178.out 1
              have p183 : 0 ≤ (x6_1 : Int):=of_decide_eq_true (by first|(with_reducible assumption)|assumption)
              have q183 : x6_1 < (l0_0.length : Int):=of_decide_eq_true (by first|(with_reducible assumption)|assumption)
              obtain ⟨ad183, e183, hx183_0, hx183_1, hx183_2⟩ := at_T26 HR0_0.out x6_1 p183 q183
              obtain rfl : ad182 = ad183 := (by injection e183)
              replace hx183_0 := (HB.out.cell (World.block_lt_of_cell? w _ hx183_0)).trans hx183_0
              replace hx183_1 := (HB.out.cell (World.block_lt_of_cell? w _ hx183_1)).trans hx183_1
              replace hx183_2 := (HB.out.cell (World.block_lt_of_cell? w _ hx183_2)).trans hx183_2
              replace p183 := eq_true p183
              replace q183 := eq_true q183
              have p184 : 0 ≤ (x6_1 : Int):=of_decide_eq_true (by first|(with_reducible assumption)|assumption)
              have q184 : x6_1 < (l0_0.length : Int):=of_decide_eq_true (by first|(with_reducible assumption)|assumption)
              obtain ⟨ad184, e184, hx184_0, hx184_1, hx184_2⟩ := at_T26 HR0_0.out x6_1 p184 q184
              obtain rfl : ad182 = ad184 := (by injection e184)
              replace hx184_0 := (HB.out.cell (World.block_lt_of_cell? w _ hx184_0)).trans hx184_0
              replace hx184_1 := (HB.out.cell (World.block_lt_of_cell? w _ hx184_1)).trans hx184_1
              replace hx184_2 := (HB.out.cell (World.block_lt_of_cell? w _ hx184_2)).trans hx184_2
              replace p184 := eq_true p184
              replace q184 := eq_true q184
              have p16 : 0 ≤ (x7_2 : Int):=of_decide_eq_true (by first|(with_reducible assumption)|assumption)
              have q16 : (x7_2 : Int) < ((x5_2.length : Int) : Int):=of_decide_eq_true (by first|(with_reducible assumption)|assumption)
              obtain ⟨go16, co16, eo16, gb16, gl16, cl16, HG16⟩ := Kd.R_form HO_5.out (by omega)
              (first | cases eo16 | (injection eo16 with ea_ en_ ec_; (first | subst ea_ | (injection ea_ with ea_; subst ea_)); subst ec_; clear en_))
              have GB16 := Aside0.mk gb16
              have GG16 := Aside0.mk HG16
              clear gb16 gl16 HG16
              obtain ⟨hx16_0, hf16_0⟩ := Kd.R_celln 0 HO_5.out (x7_2 : Int) p16 q16
              replace p16 := eq_true p16
              replace q16 := eq_true q16
              have HP18 := Kd.R_putg HO_5.out (x7_2 : Int) ((rd_T26 l0_0 x6_1).f0)
              go_wp2_with (first|((with_reducible refine gate_store (t:=3) (p:=41) rfl ?_);refine store_event (t:=3) (p:=41) (v:=?vo_w19) (w1:=(wr.setCell ⟨go16, (x7_2 : Int).toNat, none⟩ (.int .i64 ((rd_T26 l0_0 x6_1).f0)))) ?hg ?ho ?hn ?hr ?_;(case ho => rfl);(case hg => rfl);(case hn => rfl);(case hr => first|(go_simp;done)|(go_simp;rfl));intro w19 hw;have hg : wr.grownBy w19 (some go16):=(by rw [hw];exact HP18.2);have hp_ : Kd.R (Kd.int .i64) 3 w19 w.heap.size (fun _ => True) (.slice (some ⟨go16, 0, none⟩) x5_2.length co16) y185:=(by rw [hw, Ny185.out];exact HP18.1);clear HP18;have n0_:=Aside0.mk (hp_);have n1_:=Aside0.mk (blk_grown (g:=gb178) (o:=.cells #[.slice (some ad182) l0_0.length c0_0, .slice A0_1 l0_1.length c0_1] 30 (0, 0)) (by (with_reducible repeat (first|refine blk_drewN ?_ _|refine blk_drew ?_|refine blk_alloc ?_ _));exact BK178.out) hg (Kd.R_ne HO_5.out BK178.out (by decide)));have n2_:=Aside0.mk ((by rw [hw];exact below_set (HB.out) GB16.out : Below w.heap.size w w19));clear HO_5;clear BK178;clear HB;have HO_5:=n0_;have BK178:=n1_;have HB:=n2_;clear n0_ n1_ n2_;clear hg hw hp_))
              go_roundg k2
              case measure => have := HK1.out; have := HK2.out; omega
              case rel => exact ⟨(y185), (wrap64 (x7_2 + 1)), (by first|rfl|(simp;done)|(simp [*];done)), H', ⟨by have:=HK1.out;have:=HK2.out;omega⟩, ⟨by (with_reducible repeat (first|apply Kd.R_alloc|apply Kd.R_drewN|apply Kd.R_drew));exact HO_5.out⟩, ⟨by (with_reducible repeat (first|refine blk_drewN ?_ _|refine blk_drew ?_|refine blk_alloc ?_ _));exact BK178.out⟩, ⟨by repeat (first|(with_reducible first|exact HB.out|apply below_alloc|apply pw_below_drewN|apply below_drew1|refine below_set ?_ GE178.out)|exact HB.out)⟩⟩
             ·rw [if_neg c15] at H
              exact absurd H (by simp)
            ·rw [if_neg c14] at H
             exact absurd H (by simp)
           ·rw [if_neg c13] at H
            have c13b0 : decide (x7_2 < ((rd_T26 l0_0 x6_1).f2)) = false := decide_eq_false c13
            clear c13
            have H' := Aside0.mk H
            clear H
            have hcz20_0 : wr.cell? ⟨gb178, 0, none⟩ = some (.slice (some ad182) l0_0.length c0_0) := (blk_cell BK178.out 0).trans rfl
            have hcz20_1 : wr.cell? ⟨gb178, 1, none⟩ = some (.slice A0_1 l0_1.length c0_1) := (blk_cell BK178.out 1).trans rfl
            have hfz20_0 := blk_frozen BK178.out 0
            have hfz20_1 := blk_frozen BK178.out 1
            have p183 : 0 ≤ (x6_1 : Int):=of_decide_eq_true (by first|(with_reducible assumption)|assumption)
            have q183 : x6_1 < (l0_0.length : Int):=of_decide_eq_true (by first|(with_reducible assumption)|assumption)
            obtain ⟨ad183, e183, hx183_0, hx183_1, hx183_2⟩ := at_T26 HR0_0.out x6_1 p183 q183
            obtain rfl : ad182 = ad183 := (by injection e183)
            replace hx183_0 := (HB.out.cell (World.block_lt_of_cell? w _ hx183_0)).trans hx183_0
            replace hx183_1 := (HB.out.cell (World.block_lt_of_cell? w _ hx183_1)).trans hx183_1
            replace hx183_2 := (HB.out.cell (World.block_lt_of_cell? w _ hx183_2)).trans hx183_2
            replace p183 := eq_true p183
            replace q183 := eq_true q183
            go_wp2
            go_roundg k2
            case measure => have := HK1.out; have := HK2.out; omega
            case rel => exact ⟨(x5_2), (wrap64 (x6_1 + 1)), (by first|rfl|(simp;done)|(simp [*];done)), H', ⟨by have:=HK1.out;have:=HK2.out;omega⟩, ⟨by (with_reducible repeat (first|apply Kd.R_alloc|apply Kd.R_drewN|apply Kd.R_drew));exact HO_5.out⟩, ⟨by (with_reducible repeat (first|refine blk_drewN ?_ _|refine blk_drew ?_|refine blk_alloc ?_ _));exact BK178.out⟩, ⟨by repeat (first|(with_reducible first|exact HB.out|apply below_alloc|apply pw_below_drewN|apply below_drew1|refine below_set ?_ GE178.out)|exact HB.out)⟩⟩
          ·rw [if_neg c12] at H
           exact absurd H (by simp)
         ·rw [if_neg c11] at H
          exact absurd H (by simp)
      ·rw [if_neg c9] at H
       exact absurd H (by simp)
     ·rw [if_neg c8] at H
      have c8b0 : decide (x6_1 < (l0_0.length : Int)) = false := decide_eq_false c8
      clear c8
      obtain rfl := Option.some.inj H
      have hcz21_0 : wr.cell? ⟨gb178, 0, none⟩ = some (.slice A0_0 l0_0.length c0_0) := (blk_cell BK178.out 0).trans rfl
      have hcz21_1 : wr.cell? ⟨gb178, 1, none⟩ = some (.slice A0_1 l0_1.length c0_1) := (blk_cell BK178.out 1).trans rfl
      have hfz21_0 := blk_frozen BK178.out 0
      have hfz21_1 := blk_frozen BK178.out 1
      go_wp2
      go_ret
      exact ⟨_, by first|rfl|(simp [errW_none, errW_some] <;> rfl)|(simp [*, errW_none, errW_some] <;> rfl), by (with_reducible repeat (first|apply Kd.R_alloc|apply Kd.R_drewN|apply Kd.R_drew));exact HO_5.out, by repeat (first|(with_reducible first|exact HB.out|apply below_alloc|apply pw_below_drewN|apply below_drew1|refine below_set ?_ GE178.out)|exact HB.out)⟩
  ·rw [if_neg c4] at H
   exact absurd H (by simp)
 ·rw [if_neg c3] at H
  exact absurd H (by simp)

end Go.Proofs.Ytdgjjdpeaohebaa.PMarksPart
