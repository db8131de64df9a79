/- Marks: chancellaw04.right's walk (printed once for MarksPart's claim) and its plain law. Conditions: the sizes named. -/
import Derived.Test.YtdgjjdpeaohebaaGMA
import Derived.Test.YtdgjjdpeaohebaaWShare
namespace Go.Proofs.Ytdgjjdpeaohebaa.PMarksTake
open Go.RowKit Go.Proofs.YtdgjjdpeaohebaaW.PrintWords Go.Proofs.YtdgjjdpeaohebaaW.PrintLast Go.Proofs.YtdgjjdpeaohebaaW.PrintMore
attribute [local go_sem] max2_int min2_int max_two min_two max_three min_three max_four min_four 
set_option linter.unusedVariables false
set_option linter.unusedSimpArgs false

/-! ### chancellaw04_right: function 12 -/
def chancellaw04_right.j0 : Nat → Bool → List (S26) → List (S38) → Int → Int → Int → Option ((List (S26)) × (List (S38)) × (List (S26)) × (List (S38)) × Bool)
 | 0, _, _, _, _, _, _ => none
 | k + 1, x5, x133000, x133001, x133002, x133003, x133004 => if x5 = true then ((chancelref04_Right.f k x133000 x133001 x133002).bind fun t136 => (some (x133000, x133001, x133000, x133001, t136))) else (some (x133000, x133001, x133000, x133001, false))
def chancellaw04_right.f (k : Nat) (l0_0 : List (S26)) (l0_1 : List (S38)) (a0_2 : Int) (a0_3 : Int) (a0_4 : Int) : Option ((List (S26)) × (List (S38)) × (List (S26)) × (List (S38)) × Bool) := if a0_2 ≥ 0 then (if a0_2 ≤ 2000 then (if a0_3 ≥ 0 then (if a0_3 ≤ a0_4 then (if a0_4 ≤ a0_2 then (if (l0_0.length : Int) ≤ 2000 then (chancellaw04_right.j0 k (decide ((l0_1.length : Int) ≤ 300)) l0_0 l0_1 a0_2 a0_3 a0_4) else (chancellaw04_right.j0 k false l0_0 l0_1 a0_2 a0_3 a0_4)) else (chancellaw04_right.j0 k false l0_0 l0_1 a0_2 a0_3 a0_4)) else (chancellaw04_right.j0 k false l0_0 l0_1 a0_2 a0_3 a0_4)) else (chancellaw04_right.j0 k false l0_0 l0_1 a0_2 a0_3 a0_4)) else (chancellaw04_right.j0 k false l0_0 l0_1 a0_2 a0_3 a0_4)) else (chancellaw04_right.j0 k false l0_0 l0_1 a0_2 a0_3 a0_4)
theorem chancellaw04_right.mono_l : ∀ k, (∀ y0 y1 y2 y3 y4 y5, LeO (chancellaw04_right.j0 k y0 y1 y2 y3 y4 y5) (chancellaw04_right.j0 (k + 1) y0 y1 y2 y3 y4 y5))
 | 0 => fun _ _ _ _ _ _ r h => by simp [chancellaw04_right.j0] at h
 | k + 1 => by
  have ih0 := chancellaw04_right.mono_l k
  ·intro y0 y1 y2 y3 y4 y5
   unfold chancellaw04_right.j0
   repeat' first
   | (with_reducible exact ih0 _ _ _ _ _ _)
   | (with_reducible exact chancelref04_Right.mono _ _ _ _)
   | (with_reducible exact LeO.refl _)
   | (with_reducible exact LeO.none _)
   | (with_reducible refine LeO.ite ?_ ?_)
   | (with_reducible refine LeO.bind ?_ (fun _ => ?_))
   | exact ih0 _ _ _ _ _ _
   | exact chancelref04_Right.mono _ _ _ _
   | exact LeO.none _
   | refine LeO.ite ?_ ?_
   | refine LeO.bind ?_ (fun _ => ?_)
theorem chancellaw04_right.mono : ∀ a0 a1 a2 a3 a4 k, LeO (chancellaw04_right.f k a0 a1 a2 a3 a4) (chancellaw04_right.f (k + 1) a0 a1 a2 a3 a4) := by
 intro a0 a1 a2 a3 a4 k
 have ih0 := chancellaw04_right.mono_l k
 unfold chancellaw04_right.f
 repeat' first
   | (with_reducible exact ih0 _ _ _ _ _ _)
   | (with_reducible exact chancelref04_Right.mono _ _ _ _)
   | (with_reducible exact LeO.refl _)
   | (with_reducible exact LeO.none _)
   | (with_reducible refine LeO.ite ?_ ?_)
   | (with_reducible refine LeO.bind ?_ (fun _ => ?_))
   | exact ih0 _ _ _ _ _ _
   | exact chancelref04_Right.mono _ _ _ _
   | exact LeO.none _
   | refine LeO.ite ?_ ?_
   | refine LeO.bind ?_ (fun _ => ?_)
def chancellaw04_right.T3 : Bool × List (List Nat × List Nat) := (true, [([], []), ([0], [0]), ([], []), ([2], [2]), ([1, 3], [1, 3]), ([], []), ([], []), ([6], [6]), ([7], [7]), ([7], [7]), ([9, 7], [7, 9]), ([8, 10, 7, 7], [7, 8, 10]), ([7, 11], [7, 11]), ([4, 11, 0, 1, 2, 3, 4], [4]), ([5, 13, 0, 1, 2, 3, 4, 5, 13], [5]), ([12, 14, 0, 1, 2, 3, 4, 5, 6, 7, 8, 9, 10, 11, 12, 13, 14], [12])])
def chancellaw04_right.B3 : List Nat := [0, 1, 0, 4, 15, 0, 0, 64, 192, 192, 704, 1984, 4032, 4063, 12287, 32767]
theorem chancellaw04_right.tab3 : rtab .any (opsOf Try.f12 3) = chancellaw04_right.T3 := by kernel_rfl
theorem chancellaw04_right.bits3 : waitsOk chancellaw04_right.T3.2 chancellaw04_right.B3 = true := by kernel_rfl
set_option maxHeartbeats 8000000 in
set_option maxRecDepth 100000 in
theorem chancellaw04_right.calls (k : Nat) (P0_0_ : Nat → Prop) (A0_0 : Option Addr) (c0_0 : Nat) (l0_0 : List (S26)) (P0_1_ : Nat → Prop) (A0_1 : Option Addr) (c0_1 : Nat) (l0_1 : List (S38)) (a0_2 : Int) (a0_3 : Int) (a0_4 : Int) (r1 : List (S26)) (r2 : List (S38)) (r3 : List (S26)) (r4 : List (S38)) (r5 : Bool) (w : World) (hs0_0 : Kd.V k26 26 w w.heap.size (fun k_ => P0_0_ k_) (.slice A0_0 l0_0.length c0_0) l0_0) (hs0_1 : Kd.V k38 38 w w.heap.size (fun k_ => P0_1_ k_) (.slice A0_1 l0_1.length c0_1) l0_1) (h : chancellaw04_right.f k l0_0 l0_1 a0_2 a0_3 a0_4 = some (r1, r2, r3, r4, r5)) :
  Calls Try.prog 12 #[.agg #[.slice A0_0 l0_0.length c0_0, .slice A0_1 l0_1.length c0_1, .int .i64 a0_2, .int .i64 a0_3, .int .i64 a0_4]] w fun e w' => ∃ v0_ v1_ v2_ v3_ : Value, e = .returned (.tuple #[.agg #[v0_, v1_], .agg #[v2_, v3_], .bool r5]) ∧ Kd.V k26 26 w' w.heap.size (fun k_ => ((P0_0_ k_ ∨ P0_1_ k_) ∨ w.heap.size ≤ k_)) v0_ r1 ∧ Kd.V k38 38 w' w.heap.size (fun k_ => ((P0_0_ k_ ∨ P0_1_ k_) ∨ w.heap.size ≤ k_)) v1_ r2 ∧ Kd.V k26 26 w' w.heap.size (fun k_ => ((P0_0_ k_ ∨ P0_1_ k_) ∨ w.heap.size ≤ k_)) v2_ r3 ∧ Kd.V k38 38 w' w.heap.size (fun k_ => ((P0_0_ k_ ∨ P0_1_ k_) ∨ w.heap.size ≤ k_)) v3_ r4 ∧ Below w.heap.size w w' := by
 have hu33 := Try.underlying33
 have hu28 := Try.underlying28
 have hu30 := Try.underlying30
 have HO0_0 := Aside0.mk (show Kd.V k26 26 w w.heap.size (fun k_ => ((P0_0_ k_ ∨ P0_1_ k_) ∨ w.heap.size ≤ k_)) (.slice A0_0 l0_0.length c0_0) l0_0 from Kd.V_mono hs0_0 (fun k_ hk => .inl (.inl hk)))
 have HO0_1 := Aside0.mk (show Kd.V k38 38 w w.heap.size (fun k_ => ((P0_0_ k_ ∨ P0_1_ k_) ∨ w.heap.size ≤ k_)) (.slice A0_1 l0_1.length c0_1) l0_1 from Kd.V_mono hs0_1 (fun k_ hk => .inl (.inr hk)))
 have HB := Aside0.mk (Below.refl w.heap.size w)
 have H : (if a0_2 ≥ 0 then (if a0_2 ≤ 2000 then (if a0_3 ≥ 0 then (if a0_3 ≤ a0_4 then (if a0_4 ≤ a0_2 then (if (l0_0.length : Int) ≤ 2000 then (chancellaw04_right.j0 k (decide ((l0_1.length : Int) ≤ 300)) l0_0 l0_1 a0_2 a0_3 a0_4) else (chancellaw04_right.j0 k false l0_0 l0_1 a0_2 a0_3 a0_4)) else (chancellaw04_right.j0 k false l0_0 l0_1 a0_2 a0_3 a0_4)) else (chancellaw04_right.j0 k false l0_0 l0_1 a0_2 a0_3 a0_4)) else (chancellaw04_right.j0 k false l0_0 l0_1 a0_2 a0_3 a0_4)) else (chancellaw04_right.j0 k false l0_0 l0_1 a0_2 a0_3 a0_4)) else (chancellaw04_right.j0 k false l0_0 l0_1 a0_2 a0_3 a0_4)) = some (r1, r2, r3, r4, r5) := h
 clear h
 have HC2 := Aside0.mk H
 clear H
 go_enter Try.func12, Try.ntmps12
 go_upto_region 1 with (first|((with_reducible refine gate_dst (N:=1) rfl ?_);(try (refine gate_guard (by rfl) ?_;dsimp only));refine box_event ?hg (N:=1) ?hd (cs:=#[.slice A0_0 l0_0.length c0_0, .slice A0_1 l0_1.length c0_1, .int .i64 a0_2, .int .i64 a0_3, .int .i64 a0_4]) (t:=33) ?hr ?_;(case hd => rfl);(case hg => rfl);(case hr => first|(go_simp;done)|(go_simp;rfl));intro gb132 hg w3 hbox hb;have n0_:=Aside0.mk (Kd.V_below (Kd.V_elderB (by (with_reducible repeat (first|apply Kd.V_alloc|apply Kd.V_drewN|apply Kd.V_drew));exact HO0_0.out) gb132 (Nat.le_of_eq hg.symm)) hb);have n1_:=Aside0.mk (Kd.V_below (Kd.V_elderB (by (with_reducible repeat (first|apply Kd.V_alloc|apply Kd.V_drewN|apply Kd.V_drew));exact HO0_1.out) gb132 (Nat.le_of_eq hg.symm)) hb);have n2_:=Aside0.mk (below_step (by repeat (first|(with_reducible first|exact HB.out|apply below_alloc|apply pw_below_drewN|apply below_drew1)|exact HB.out)) hb);have n3_:=Aside0.mk (hbox);have n4_:=Aside0.mk ((by rw [hg];exact (below_size (by repeat (first|(with_reducible first|exact HB.out|apply below_alloc|apply pw_below_drewN|apply below_drew1)|exact HB.out))) : w.heap.size ≤ gb132));have n5_:=Aside0.mk ((by rw [hg];exact (below_size (by repeat (first|(with_reducible first|exact HB.out|apply below_alloc|apply pw_below_drewN|apply below_drew1)|exact HB.out))) : w.heap.size ≤ gb132));clear HO0_0;clear HO0_1;clear HB;have HO0_0:=n0_;have HO0_1:=n1_;have HB:=n2_;have BK132:=n3_;have GW132:=n4_;have GE132:=n5_;clear n0_ n1_ n2_ n3_ n4_ n5_;clear hb hbox hg)|((with_reducible refine gate_dst (N:=2) rfl ?_);(try (refine gate_guard (by rfl) ?_;dsimp only));refine box_event ?hg (N:=2) ?hd (cs:=#[.slice none 0 0, .slice none 0 0]) (t:=28) ?hr ?_;(case hd => rfl);(case hg => rfl);(case hr => first|(go_simp;done)|(go_simp;rfl));intro gb133 hg w4 hbox hb;have n0_:=Aside0.mk (Kd.V_below (Kd.V_elderB (by (with_reducible repeat (first|apply Kd.V_alloc|apply Kd.V_drewN|apply Kd.V_drew));exact HO0_0.out) gb133 (Nat.le_of_eq hg.symm)) hb);have n1_:=Aside0.mk (Kd.V_below (Kd.V_elderB (by (with_reducible repeat (first|apply Kd.V_alloc|apply Kd.V_drewN|apply Kd.V_drew));exact HO0_1.out) gb133 (Nat.le_of_eq hg.symm)) hb);have n2_:=Aside0.mk (blk_below (g:=gb132) (o:=.cells #[.slice A0_0 l0_0.length c0_0, .slice A0_1 l0_1.length c0_1, .int .i64 a0_2, .int .i64 a0_3, .int .i64 a0_4] 33 (0, 0)) (by (with_reducible repeat (first|refine blk_drewN ?_ _|refine blk_drew ?_|refine blk_alloc ?_ _));exact BK132.out) hb);have n3_:=Aside0.mk (below_step (by repeat (first|(with_reducible first|exact HB.out|apply below_alloc|apply pw_below_drewN|apply below_drew1|refine below_set ?_ GE132.out)|exact HB.out)) hb);have n4_:=Aside0.mk (hbox);have n5_:=Aside0.mk ((by rw [hg];exact (below_size (by repeat (first|(with_reducible first|exact HB.out|apply below_alloc|apply pw_below_drewN|apply below_drew1|refine below_set ?_ GE132.out)|exact HB.out))) : w.heap.size ≤ gb133));have n6_:=Aside0.mk ((by rw [hg];exact (below_size (by repeat (first|(with_reducible first|exact HB.out|apply below_alloc|apply pw_below_drewN|apply below_drew1|refine below_set ?_ GE132.out)|exact HB.out))) : w.heap.size ≤ gb133));have n7_:=Aside0.mk ((by rw [hg];exact Nat.ne_of_lt (blk_lt (g:=gb132) (o:=.cells #[.slice A0_0 l0_0.length c0_0, .slice A0_1 l0_1.length c0_1, .int .i64 a0_2, .int .i64 a0_3, .int .i64 a0_4] 33 (0, 0)) (by (with_reducible repeat (first|refine blk_drewN ?_ _|refine blk_drew ?_|refine blk_alloc ?_ _));exact BK132.out)) : gb132 ≠ gb133));have n8_:=Aside0.mk ((by rw [hg];exact Nat.ne_of_gt (blk_lt (g:=gb132) (o:=.cells #[.slice A0_0 l0_0.length c0_0, .slice A0_1 l0_1.length c0_1, .int .i64 a0_2, .int .i64 a0_3, .int .i64 a0_4] 33 (0, 0)) (by (with_reducible repeat (first|refine blk_drewN ?_ _|refine blk_drew ?_|refine blk_alloc ?_ _));exact BK132.out)) : gb133 ≠ gb132));clear HO0_0;clear HO0_1;clear BK132;clear HB;have HO0_0:=n0_;have HO0_1:=n1_;have BK132:=n2_;have HB:=n3_;have BK133:=n4_;have GW133:=n5_;have GE133:=n6_;have NB132_133:=n7_;have NB133_132:=n8_;clear n0_ n1_ n2_ n3_ n4_ n5_ n6_ n7_ n8_;clear hb hbox hg)|((with_reducible refine gate_dst (N:=3) rfl ?_);(try (refine gate_guard (by rfl) ?_;dsimp only));refine box_event ?hg (N:=3) ?hd (cs:=#[.slice none 0 0, .slice none 0 0]) (t:=30) ?hr ?_;(case hd => rfl);(case hg => rfl);(case hr => first|(go_simp;done)|(go_simp;rfl));intro gb134 hg w5 hbox hb;have n0_:=Aside0.mk (Kd.V_below (Kd.V_elderB (by (with_reducible repeat (first|apply Kd.V_alloc|apply Kd.V_drewN|apply Kd.V_drew));exact HO0_0.out) gb134 (Nat.le_of_eq hg.symm)) hb);have n1_:=Aside0.mk (Kd.V_below (Kd.V_elderB (by (with_reducible repeat (first|apply Kd.V_alloc|apply Kd.V_drewN|apply Kd.V_drew));exact HO0_1.out) gb134 (Nat.le_of_eq hg.symm)) hb);have n2_:=Aside0.mk (blk_below (g:=gb132) (o:=.cells #[.slice A0_0 l0_0.length c0_0, .slice A0_1 l0_1.length c0_1, .int .i64 a0_2, .int .i64 a0_3, .int .i64 a0_4] 33 (0, 0)) (by (with_reducible repeat (first|refine blk_drewN ?_ _|refine blk_drew ?_|refine blk_alloc ?_ _));exact BK132.out) hb);have n3_:=Aside0.mk (blk_below (g:=gb133) (o:=.cells #[.slice none 0 0, .slice none 0 0] 28 (0, 0)) (by (with_reducible repeat (first|refine blk_drewN ?_ _|refine blk_drew ?_|refine blk_alloc ?_ _));exact BK133.out) hb);have n4_:=Aside0.mk (below_step (by repeat (first|(with_reducible first|exact HB.out|apply below_alloc|apply pw_below_drewN|apply below_drew1|refine below_set ?_ GE132.out|refine below_set ?_ GE133.out)|exact HB.out)) hb);have n5_:=Aside0.mk (hbox);have n6_:=Aside0.mk ((by rw [hg];exact (below_size (by repeat (first|(with_reducible first|exact HB.out|apply below_alloc|apply pw_below_drewN|apply below_drew1|refine below_set ?_ GE132.out|refine below_set ?_ GE133.out)|exact HB.out))) : w.heap.size ≤ gb134));have n7_:=Aside0.mk ((by rw [hg];exact (below_size (by repeat (first|(with_reducible first|exact HB.out|apply below_alloc|apply pw_below_drewN|apply below_drew1|refine below_set ?_ GE132.out|refine below_set ?_ GE133.out)|exact HB.out))) : w.heap.size ≤ gb134));have n8_:=Aside0.mk ((by rw [hg];exact Nat.ne_of_lt (blk_lt (g:=gb132) (o:=.cells #[.slice A0_0 l0_0.length c0_0, .slice A0_1 l0_1.length c0_1, .int .i64 a0_2, .int .i64 a0_3, .int .i64 a0_4] 33 (0, 0)) (by (with_reducible repeat (first|refine blk_drewN ?_ _|refine blk_drew ?_|refine blk_alloc ?_ _));exact BK132.out)) : gb132 ≠ gb134));have n9_:=Aside0.mk ((by rw [hg];exact Nat.ne_of_gt (blk_lt (g:=gb132) (o:=.cells #[.slice A0_0 l0_0.length c0_0, .slice A0_1 l0_1.length c0_1, .int .i64 a0_2, .int .i64 a0_3, .int .i64 a0_4] 33 (0, 0)) (by (with_reducible repeat (first|refine blk_drewN ?_ _|refine blk_drew ?_|refine blk_alloc ?_ _));exact BK132.out)) : gb134 ≠ gb132));have n10_:=Aside0.mk ((by rw [hg];exact Nat.ne_of_lt (blk_lt (g:=gb133) (o:=.cells #[.slice none 0 0, .slice none 0 0] 28 (0, 0)) (by (with_reducible repeat (first|refine blk_drewN ?_ _|refine blk_drew ?_|refine blk_alloc ?_ _));exact BK133.out)) : gb133 ≠ gb134));have n11_:=Aside0.mk ((by rw [hg];exact Nat.ne_of_gt (blk_lt (g:=gb133) (o:=.cells #[.slice none 0 0, .slice none 0 0] 28 (0, 0)) (by (with_reducible repeat (first|refine blk_drewN ?_ _|refine blk_drew ?_|refine blk_alloc ?_ _));exact BK133.out)) : gb134 ≠ gb133));clear HO0_0;clear HO0_1;clear BK132;clear BK133;clear HB;have HO0_0:=n0_;have HO0_1:=n1_;have BK132:=n2_;have BK133:=n3_;have HB:=n4_;have BK134:=n5_;have GW134:=n6_;have GE134:=n7_;have NB132_134:=n8_;have NB134_132:=n9_;have NB133_134:=n10_;have NB134_133:=n11_;clear n0_ n1_ n2_ n3_ n4_ n5_ n6_ n7_ n8_ n9_ n10_ n11_;clear hb hbox hg))
 (try simp only [Act.put, List.setIfInBounds_toArray, List.set_cons_zero, List.set_cons_succ])
 go_cut [5] (fun v5 wc => ∃ (kq : Nat) (x5_1 : Bool), v5 = .bool x5_1 ∧ Aside0 (chancellaw04_right.j0 kq x5_1 l0_0 l0_1 a0_2 a0_3 a0_4 = some (r1, r2, r3, r4, r5)) ∧ Aside0 (kq ≤ k) ∧ Aside0 (Kd.V k26 26 wc w.heap.size (fun k_ => ((P0_0_ k_ ∨ P0_1_ k_) ∨ w.heap.size ≤ k_) ∧ k_ ≠ gb132 ∧ k_ ≠ gb133 ∧ k_ ≠ gb134) (.slice A0_0 l0_0.length c0_0) l0_0) ∧ Aside0 (Kd.V k38 38 wc w.heap.size (fun k_ => ((P0_0_ k_ ∨ P0_1_ k_) ∨ w.heap.size ≤ k_) ∧ k_ ≠ gb132 ∧ k_ ≠ gb133 ∧ k_ ≠ gb134) (.slice A0_1 l0_1.length c0_1) l0_1) ∧ Aside0 (wc.heap[gb132]? = some (.cells #[(.slice A0_0 l0_0.length c0_0), (.slice A0_1 l0_1.length c0_1), .int .i64 a0_2, .int .i64 a0_3, .int .i64 a0_4] 33 (0, 0))) ∧ Aside0 (wc.heap[gb133]? = some (.cells #[(.slice none 0 0), (.slice none 0 0)] 28 (0, 0))) ∧ Aside0 (wc.heap[gb134]? = some (.cells #[(.slice none 0 0), (.slice none 0 0)] 30 (0, 0))) ∧ Aside0 (Below w.heap.size w wc))
 case first =>
  have H := HC2.out
  clear HC2
  by_cases c6 : a0_2 ≥ 0
  ·rw [if_pos c6] at H
   have c6b0 : decide (0 ≤ a0_2) = true := decide_eq_true c6
   clear c6
   (first | rw [c6b0] | (simp only [i64_w, i32_w]; rw [c6b0]) | skip)
   by_cases c7 : a0_2 ≤ 2000
   ·rw [if_pos c7] at H
    have c7b0 : decide (a0_2 ≤ 2000) = true := decide_eq_true c7
    clear c7
    by_cases c8 : a0_3 ≥ 0
    ·rw [if_pos c8] at H
     have c8b0 : decide (0 ≤ a0_3) = true := decide_eq_true c8
     clear c8
     by_cases c9 : a0_3 ≤ a0_4
     ·rw [if_pos c9] at H
      have c9b0 : decide (a0_3 ≤ a0_4) = true := decide_eq_true c9
      clear c9
      by_cases c10 : a0_4 ≤ a0_2
      ·rw [if_pos c10] at H
       have c10b0 : decide (a0_4 ≤ a0_2) = true := decide_eq_true c10
       clear c10
       by_cases c11 : (l0_0.length : Int) ≤ 2000
       ·rw [if_pos c11] at H
        have c11b0 : decide ((l0_0.length : Int) ≤ 2000) = true := decide_eq_true c11
        have c11b1 : decide (l0_0.length ≤ 2000) = true := decide_eq_true (by omega)
        clear c11
        have H' := Aside0.mk H
        clear H
        have hnb12 := NB132_133.out
        have hnc12 := NB133_132.out
        have hnb13 := NB132_134.out
        have hnc13 := NB134_132.out
        have hcz14_0 : w5.cell? ⟨gb132, 0, none⟩ = some (.slice A0_0 l0_0.length c0_0) := (blk_cell BK132.out 0).trans rfl
        have hcz14_1 : w5.cell? ⟨gb132, 1, none⟩ = some (.slice A0_1 l0_1.length c0_1) := (blk_cell BK132.out 1).trans rfl
        have hcz14_2 : w5.cell? ⟨gb132, 2, none⟩ = some (.int .i64 a0_2) := (blk_cell BK132.out 2).trans rfl
        have hcz14_3 : w5.cell? ⟨gb132, 3, none⟩ = some (.int .i64 a0_3) := (blk_cell BK132.out 3).trans rfl
        have hcz14_4 : w5.cell? ⟨gb132, 4, none⟩ = some (.int .i64 a0_4) := (blk_cell BK132.out 4).trans rfl
        have hfz14_0 := blk_frozen BK132.out 0
        have hfz14_1 := blk_frozen BK132.out 1
        have hfz14_2 := blk_frozen BK132.out 2
        have hfz14_3 := blk_frozen BK132.out 3
        have hfz14_4 := blk_frozen BK132.out 4
        go_wp2
        go_meet
        case rel => exact ⟨_, (decide ((l0_1.length : Int) ≤ 300)), (by first|rfl|(simp;done)|(simp [*];done)), H', ⟨by first|omega|exact Nat.le_refl _⟩, ⟨by (with_reducible repeat (first|apply Kd.V_alloc|apply Kd.V_drewN|apply Kd.V_drew));exact Kd.V_mono HO0_0.out (fun _ hk => ⟨hk.1.1.1, ⟨hk.1.1.2, ⟨hk.1.2, hk.2⟩⟩⟩)⟩, ⟨by (with_reducible repeat (first|apply Kd.V_alloc|apply Kd.V_drewN|apply Kd.V_drew));exact Kd.V_mono HO0_1.out (fun _ hk => ⟨hk.1.1.1, ⟨hk.1.1.2, ⟨hk.1.2, hk.2⟩⟩⟩)⟩, ⟨by (with_reducible repeat (first|refine blk_drewN ?_ _|refine blk_drew ?_|refine blk_alloc ?_ _));exact BK132.out⟩, ⟨by (with_reducible repeat (first|refine blk_drewN ?_ _|refine blk_drew ?_|refine blk_alloc ?_ _));exact BK133.out⟩, ⟨by (with_reducible repeat (first|refine blk_drewN ?_ _|refine blk_drew ?_|refine blk_alloc ?_ _));exact BK134.out⟩, ⟨by repeat (first|(with_reducible first|exact HB.out|apply below_alloc|apply pw_below_drewN|apply below_drew1|refine below_set ?_ GE132.out|refine below_set ?_ GE133.out|refine below_set ?_ GE134.out)|exact HB.out)⟩⟩
       ·rw [if_neg c11] at H
        have c11b0 : decide ((l0_0.length : Int) ≤ 2000) = false := decide_eq_false c11
        have c11b1 : decide (l0_0.length ≤ 2000) = false := decide_eq_false (by omega)
        clear c11
        have H' := Aside0.mk H
        clear H
        have hnb15 := NB132_133.out
        have hnc15 := NB133_132.out
        have hnb16 := NB132_134.out
        have hnc16 := NB134_132.out
        have hcz17_0 : w5.cell? ⟨gb132, 0, none⟩ = some (.slice A0_0 l0_0.length c0_0) := (blk_cell BK132.out 0).trans rfl
        have hcz17_1 : w5.cell? ⟨gb132, 1, none⟩ = some (.slice A0_1 l0_1.length c0_1) := (blk_cell BK132.out 1).trans rfl
        have hcz17_2 : w5.cell? ⟨gb132, 2, none⟩ = some (.int .i64 a0_2) := (blk_cell BK132.out 2).trans rfl
        have hcz17_3 : w5.cell? ⟨gb132, 3, none⟩ = some (.int .i64 a0_3) := (blk_cell BK132.out 3).trans rfl
        have hcz17_4 : w5.cell? ⟨gb132, 4, none⟩ = some (.int .i64 a0_4) := (blk_cell BK132.out 4).trans rfl
        have hfz17_0 := blk_frozen BK132.out 0
        have hfz17_1 := blk_frozen BK132.out 1
        have hfz17_2 := blk_frozen BK132.out 2
        have hfz17_3 := blk_frozen BK132.out 3
        have hfz17_4 := blk_frozen BK132.out 4
        go_wp2
        go_meet
        case rel => exact ⟨_, (false), (by first|rfl|(simp;done)|(simp [*];done)), H', ⟨by first|omega|exact Nat.le_refl _⟩, ⟨by (with_reducible repeat (first|apply Kd.V_alloc|apply Kd.V_drewN|apply Kd.V_drew));exact Kd.V_mono HO0_0.out (fun _ hk => ⟨hk.1.1.1, ⟨hk.1.1.2, ⟨hk.1.2, hk.2⟩⟩⟩)⟩, ⟨by (with_reducible repeat (first|apply Kd.V_alloc|apply Kd.V_drewN|apply Kd.V_drew));exact Kd.V_mono HO0_1.out (fun _ hk => ⟨hk.1.1.1, ⟨hk.1.1.2, ⟨hk.1.2, hk.2⟩⟩⟩)⟩, ⟨by (with_reducible repeat (first|refine blk_drewN ?_ _|refine blk_drew ?_|refine blk_alloc ?_ _));exact BK132.out⟩, ⟨by (with_reducible repeat (first|refine blk_drewN ?_ _|refine blk_drew ?_|refine blk_alloc ?_ _));exact BK133.out⟩, ⟨by (with_reducible repeat (first|refine blk_drewN ?_ _|refine blk_drew ?_|refine blk_alloc ?_ _));exact BK134.out⟩, ⟨by repeat (first|(with_reducible first|exact HB.out|apply below_alloc|apply pw_below_drewN|apply below_drew1|refine below_set ?_ GE132.out|refine below_set ?_ GE133.out|refine below_set ?_ GE134.out)|exact HB.out)⟩⟩
      ·rw [if_neg c10] at H
       have c10b0 : decide (a0_4 ≤ a0_2) = false := decide_eq_false c10
       clear c10
       have H' := Aside0.mk H
       clear H
       have hnb18 := NB132_133.out
       have hnc18 := NB133_132.out
       have hnb19 := NB132_134.out
       have hnc19 := NB134_132.out
       have hcz20_0 : w5.cell? ⟨gb132, 0, none⟩ = some (.slice A0_0 l0_0.length c0_0) := (blk_cell BK132.out 0).trans rfl
       have hcz20_1 : w5.cell? ⟨gb132, 1, none⟩ = some (.slice A0_1 l0_1.length c0_1) := (blk_cell BK132.out 1).trans rfl
       have hcz20_2 : w5.cell? ⟨gb132, 2, none⟩ = some (.int .i64 a0_2) := (blk_cell BK132.out 2).trans rfl
       have hcz20_3 : w5.cell? ⟨gb132, 3, none⟩ = some (.int .i64 a0_3) := (blk_cell BK132.out 3).trans rfl
       have hcz20_4 : w5.cell? ⟨gb132, 4, none⟩ = some (.int .i64 a0_4) := (blk_cell BK132.out 4).trans rfl
       have hfz20_0 := blk_frozen BK132.out 0
       have hfz20_1 := blk_frozen BK132.out 1
       have hfz20_2 := blk_frozen BK132.out 2
       have hfz20_3 := blk_frozen BK132.out 3
       have hfz20_4 := blk_frozen BK132.out 4
       go_wp2
       go_meet
       case rel => exact ⟨_, (false), (by first|rfl|(simp;done)|(simp [*];done)), H', ⟨by first|omega|exact Nat.le_refl _⟩, ⟨by (with_reducible repeat (first|apply Kd.V_alloc|apply Kd.V_drewN|apply Kd.V_drew));exact Kd.V_mono HO0_0.out (fun _ hk => ⟨hk.1.1.1, ⟨hk.1.1.2, ⟨hk.1.2, hk.2⟩⟩⟩)⟩, ⟨by (with_reducible repeat (first|apply Kd.V_alloc|apply Kd.V_drewN|apply Kd.V_drew));exact Kd.V_mono HO0_1.out (fun _ hk => ⟨hk.1.1.1, ⟨hk.1.1.2, ⟨hk.1.2, hk.2⟩⟩⟩)⟩, ⟨by (with_reducible repeat (first|refine blk_drewN ?_ _|refine blk_drew ?_|refine blk_alloc ?_ _));exact BK132.out⟩, ⟨by (with_reducible repeat (first|refine blk_drewN ?_ _|refine blk_drew ?_|refine blk_alloc ?_ _));exact BK133.out⟩, ⟨by (with_reducible repeat (first|refine blk_drewN ?_ _|refine blk_drew ?_|refine blk_alloc ?_ _));exact BK134.out⟩, ⟨by repeat (first|(with_reducible first|exact HB.out|apply below_alloc|apply pw_below_drewN|apply below_drew1|refine below_set ?_ GE132.out|refine below_set ?_ GE133.out|refine below_set ?_ GE134.out)|exact HB.out)⟩⟩
     ·rw [if_neg c9] at H
      have c9b0 : decide (a0_3 ≤ a0_4) = false := decide_eq_false c9
      clear c9
      have H' := Aside0.mk H
      clear H
      have hnb21 := NB132_133.out
      have hnc21 := NB133_132.out
      have hnb22 := NB132_134.out
      have hnc22 := NB134_132.out
      have hcz23_0 : w5.cell? ⟨gb132, 0, none⟩ = some (.slice A0_0 l0_0.length c0_0) := (blk_cell BK132.out 0).trans rfl
      have hcz23_1 : w5.cell? ⟨gb132, 1, none⟩ = some (.slice A0_1 l0_1.length c0_1) := (blk_cell BK132.out 1).trans rfl
      have hcz23_2 : w5.cell? ⟨gb132, 2, none⟩ = some (.int .i64 a0_2) := (blk_cell BK132.out 2).trans rfl
      have hcz23_3 : w5.cell? ⟨gb132, 3, none⟩ = some (.int .i64 a0_3) := (blk_cell BK132.out 3).trans rfl
      have hcz23_4 : w5.cell? ⟨gb132, 4, none⟩ = some (.int .i64 a0_4) := (blk_cell BK132.out 4).trans rfl
      have hfz23_0 := blk_frozen BK132.out 0
      have hfz23_1 := blk_frozen BK132.out 1
      have hfz23_2 := blk_frozen BK132.out 2
      have hfz23_3 := blk_frozen BK132.out 3
      have hfz23_4 := blk_frozen BK132.out 4
      go_wp2
      go_meet
      case rel => exact ⟨_, (false), (by first|rfl|(simp;done)|(simp [*];done)), H', ⟨by first|omega|exact Nat.le_refl _⟩, ⟨by (with_reducible repeat (first|apply Kd.V_alloc|apply Kd.V_drewN|apply Kd.V_drew));exact Kd.V_mono HO0_0.out (fun _ hk => ⟨hk.1.1.1, ⟨hk.1.1.2, ⟨hk.1.2, hk.2⟩⟩⟩)⟩, ⟨by (with_reducible repeat (first|apply Kd.V_alloc|apply Kd.V_drewN|apply Kd.V_drew));exact Kd.V_mono HO0_1.out (fun _ hk => ⟨hk.1.1.1, ⟨hk.1.1.2, ⟨hk.1.2, hk.2⟩⟩⟩)⟩, ⟨by (with_reducible repeat (first|refine blk_drewN ?_ _|refine blk_drew ?_|refine blk_alloc ?_ _));exact BK132.out⟩, ⟨by (with_reducible repeat (first|refine blk_drewN ?_ _|refine blk_drew ?_|refine blk_alloc ?_ _));exact BK133.out⟩, ⟨by (with_reducible repeat (first|refine blk_drewN ?_ _|refine blk_drew ?_|refine blk_alloc ?_ _));exact BK134.out⟩, ⟨by repeat (first|(with_reducible first|exact HB.out|apply below_alloc|apply pw_below_drewN|apply below_drew1|refine below_set ?_ GE132.out|refine below_set ?_ GE133.out|refine below_set ?_ GE134.out)|exact HB.out)⟩⟩
    ·rw [if_neg c8] at H
     have c8b0 : decide (0 ≤ a0_3) = false := decide_eq_false c8
     clear c8
     have H' := Aside0.mk H
     clear H
     have hnb24 := NB132_133.out
     have hnc24 := NB133_132.out
     have hnb25 := NB132_134.out
     have hnc25 := NB134_132.out
     have hcz26_0 : w5.cell? ⟨gb132, 0, none⟩ = some (.slice A0_0 l0_0.length c0_0) := (blk_cell BK132.out 0).trans rfl
     have hcz26_1 : w5.cell? ⟨gb132, 1, none⟩ = some (.slice A0_1 l0_1.length c0_1) := (blk_cell BK132.out 1).trans rfl
     have hcz26_2 : w5.cell? ⟨gb132, 2, none⟩ = some (.int .i64 a0_2) := (blk_cell BK132.out 2).trans rfl
     have hcz26_3 : w5.cell? ⟨gb132, 3, none⟩ = some (.int .i64 a0_3) := (blk_cell BK132.out 3).trans rfl
     have hcz26_4 : w5.cell? ⟨gb132, 4, none⟩ = some (.int .i64 a0_4) := (blk_cell BK132.out 4).trans rfl
     have hfz26_0 := blk_frozen BK132.out 0
     have hfz26_1 := blk_frozen BK132.out 1
     have hfz26_2 := blk_frozen BK132.out 2
     have hfz26_3 := blk_frozen BK132.out 3
     have hfz26_4 := blk_frozen BK132.out 4
     go_wp2
     go_meet
     case rel => exact ⟨_, (false), (by first|rfl|(simp;done)|(simp [*];done)), H', ⟨by first|omega|exact Nat.le_refl _⟩, ⟨by (with_reducible repeat (first|apply Kd.V_alloc|apply Kd.V_drewN|apply Kd.V_drew));exact Kd.V_mono HO0_0.out (fun _ hk => ⟨hk.1.1.1, ⟨hk.1.1.2, ⟨hk.1.2, hk.2⟩⟩⟩)⟩, ⟨by (with_reducible repeat (first|apply Kd.V_alloc|apply Kd.V_drewN|apply Kd.V_drew));exact Kd.V_mono HO0_1.out (fun _ hk => ⟨hk.1.1.1, ⟨hk.1.1.2, ⟨hk.1.2, hk.2⟩⟩⟩)⟩, ⟨by (with_reducible repeat (first|refine blk_drewN ?_ _|refine blk_drew ?_|refine blk_alloc ?_ _));exact BK132.out⟩, ⟨by (with_reducible repeat (first|refine blk_drewN ?_ _|refine blk_drew ?_|refine blk_alloc ?_ _));exact BK133.out⟩, ⟨by (with_reducible repeat (first|refine blk_drewN ?_ _|refine blk_drew ?_|refine blk_alloc ?_ _));exact BK134.out⟩, ⟨by repeat (first|(with_reducible first|exact HB.out|apply below_alloc|apply pw_below_drewN|apply below_drew1|refine below_set ?_ GE132.out|refine below_set ?_ GE133.out|refine below_set ?_ GE134.out)|exact HB.out)⟩⟩
   ·rw [if_neg c7] at H
    have c7b0 : decide (a0_2 ≤ 2000) = false := decide_eq_false c7
    clear c7
    have H' := Aside0.mk H
    clear H
    have hnb27 := NB132_133.out
    have hnc27 := NB133_132.out
    have hnb28 := NB132_134.out
    have hnc28 := NB134_132.out
    have hcz29_0 : w5.cell? ⟨gb132, 0, none⟩ = some (.slice A0_0 l0_0.length c0_0) := (blk_cell BK132.out 0).trans rfl
    have hcz29_1 : w5.cell? ⟨gb132, 1, none⟩ = some (.slice A0_1 l0_1.length c0_1) := (blk_cell BK132.out 1).trans rfl
    have hcz29_2 : w5.cell? ⟨gb132, 2, none⟩ = some (.int .i64 a0_2) := (blk_cell BK132.out 2).trans rfl
    have hcz29_3 : w5.cell? ⟨gb132, 3, none⟩ = some (.int .i64 a0_3) := (blk_cell BK132.out 3).trans rfl
    have hcz29_4 : w5.cell? ⟨gb132, 4, none⟩ = some (.int .i64 a0_4) := (blk_cell BK132.out 4).trans rfl
    have hfz29_0 := blk_frozen BK132.out 0
    have hfz29_1 := blk_frozen BK132.out 1
    have hfz29_2 := blk_frozen BK132.out 2
    have hfz29_3 := blk_frozen BK132.out 3
    have hfz29_4 := blk_frozen BK132.out 4
    go_wp2
    go_meet
    case rel => exact ⟨_, (false), (by first|rfl|(simp;done)|(simp [*];done)), H', ⟨by first|omega|exact Nat.le_refl _⟩, ⟨by (with_reducible repeat (first|apply Kd.V_alloc|apply Kd.V_drewN|apply Kd.V_drew));exact Kd.V_mono HO0_0.out (fun _ hk => ⟨hk.1.1.1, ⟨hk.1.1.2, ⟨hk.1.2, hk.2⟩⟩⟩)⟩, ⟨by (with_reducible repeat (first|apply Kd.V_alloc|apply Kd.V_drewN|apply Kd.V_drew));exact Kd.V_mono HO0_1.out (fun _ hk => ⟨hk.1.1.1, ⟨hk.1.1.2, ⟨hk.1.2, hk.2⟩⟩⟩)⟩, ⟨by (with_reducible repeat (first|refine blk_drewN ?_ _|refine blk_drew ?_|refine blk_alloc ?_ _));exact BK132.out⟩, ⟨by (with_reducible repeat (first|refine blk_drewN ?_ _|refine blk_drew ?_|refine blk_alloc ?_ _));exact BK133.out⟩, ⟨by (with_reducible repeat (first|refine blk_drewN ?_ _|refine blk_drew ?_|refine blk_alloc ?_ _));exact BK134.out⟩, ⟨by repeat (first|(with_reducible first|exact HB.out|apply below_alloc|apply pw_below_drewN|apply below_drew1|refine below_set ?_ GE132.out|refine below_set ?_ GE133.out|refine below_set ?_ GE134.out)|exact HB.out)⟩⟩
  ·rw [if_neg c6] at H
   have c6b0 : decide (0 ≤ a0_2) = false := decide_eq_false c6
   clear c6
   (first | rw [c6b0] | (simp only [i64_w, i32_w]; rw [c6b0]) | skip)
   have H' := Aside0.mk H
   clear H
   have hnb30 := NB132_133.out
   have hnc30 := NB133_132.out
   have hnb31 := NB132_134.out
   have hnc31 := NB134_132.out
   have hcz32_0 : w5.cell? ⟨gb132, 0, none⟩ = some (.slice A0_0 l0_0.length c0_0) := (blk_cell BK132.out 0).trans rfl
   have hcz32_1 : w5.cell? ⟨gb132, 1, none⟩ = some (.slice A0_1 l0_1.length c0_1) := (blk_cell BK132.out 1).trans rfl
   have hcz32_2 : w5.cell? ⟨gb132, 2, none⟩ = some (.int .i64 a0_2) := (blk_cell BK132.out 2).trans rfl
   have hcz32_3 : w5.cell? ⟨gb132, 3, none⟩ = some (.int .i64 a0_3) := (blk_cell BK132.out 3).trans rfl
   have hcz32_4 : w5.cell? ⟨gb132, 4, none⟩ = some (.int .i64 a0_4) := (blk_cell BK132.out 4).trans rfl
   have hfz32_0 := blk_frozen BK132.out 0
   have hfz32_1 := blk_frozen BK132.out 1
   have hfz32_2 := blk_frozen BK132.out 2
   have hfz32_3 := blk_frozen BK132.out 3
   have hfz32_4 := blk_frozen BK132.out 4
   go_wp2
   go_meet
   case rel => exact ⟨_, (false), (by first|rfl|(simp;done)|(simp [*];done)), H', ⟨by first|omega|exact Nat.le_refl _⟩, ⟨by (with_reducible repeat (first|apply Kd.V_alloc|apply Kd.V_drewN|apply Kd.V_drew));exact Kd.V_mono HO0_0.out (fun _ hk => ⟨hk.1.1.1, ⟨hk.1.1.2, ⟨hk.1.2, hk.2⟩⟩⟩)⟩, ⟨by (with_reducible repeat (first|apply Kd.V_alloc|apply Kd.V_drewN|apply Kd.V_drew));exact Kd.V_mono HO0_1.out (fun _ hk => ⟨hk.1.1.1, ⟨hk.1.1.2, ⟨hk.1.2, hk.2⟩⟩⟩)⟩, ⟨by (with_reducible repeat (first|refine blk_drewN ?_ _|refine blk_drew ?_|refine blk_alloc ?_ _));exact BK132.out⟩, ⟨by (with_reducible repeat (first|refine blk_drewN ?_ _|refine blk_drew ?_|refine blk_alloc ?_ _));exact BK133.out⟩, ⟨by (with_reducible repeat (first|refine blk_drewN ?_ _|refine blk_drew ?_|refine blk_alloc ?_ _));exact BK134.out⟩, ⟨by repeat (first|(with_reducible first|exact HB.out|apply below_alloc|apply pw_below_drewN|apply below_drew1|refine below_set ?_ GE132.out|refine below_set ?_ GE133.out|refine below_set ?_ GE134.out)|exact HB.out)⟩⟩
 case rest =>
  clear HC2
  try clear c1
  try clear c2
  try clear p2
  try clear c3
  try clear c6
  try clear c6b0
  try clear c7
  try clear c7b0
  try clear c8
  try clear c8b0
  try clear c9
  try clear c9b0
  try clear c10
  try clear c10b0
  try clear c11
  try clear c11b0
  try clear c11b1
  try clear c12
  try clear c13
  try clear c15
  try clear c16
  try clear c18
  try clear c19
  try clear c21
  try clear c22
  try clear c24
  try clear c25
  try clear c27
  try clear c28
  try clear c30
  try clear c31
  try clear hcz14_0
  try clear hcz14_1
  try clear hcz14_2
  try clear hcz14_3
  try clear hcz14_4
  try clear hcz17_0
  try clear hcz17_1
  try clear hcz17_2
  try clear hcz17_3
  try clear hcz17_4
  try clear hcz20_0
  try clear hcz20_1
  try clear hcz20_2
  try clear hcz20_3
  try clear hcz20_4
  try clear hcz23_0
  try clear hcz23_1
  try clear hcz23_2
  try clear hcz23_3
  try clear hcz23_4
  try clear hcz26_0
  try clear hcz26_1
  try clear hcz26_2
  try clear hcz26_3
  try clear hcz26_4
  try clear hcz29_0
  try clear hcz29_1
  try clear hcz29_2
  try clear hcz29_3
  try clear hcz29_4
  try clear hcz32_0
  try clear hcz32_1
  try clear hcz32_2
  try clear hcz32_3
  try clear hcz32_4
  try clear hfz14_0
  try clear hfz14_1
  try clear hfz14_2
  try clear hfz14_3
  try clear hfz14_4
  try clear hfz17_0
  try clear hfz17_1
  try clear hfz17_2
  try clear hfz17_3
  try clear hfz17_4
  try clear hfz20_0
  try clear hfz20_1
  try clear hfz20_2
  try clear hfz20_3
  try clear hfz20_4
  try clear hfz23_0
  try clear hfz23_1
  try clear hfz23_2
  try clear hfz23_3
  try clear hfz23_4
  try clear hfz26_0
  try clear hfz26_1
  try clear hfz26_2
  try clear hfz26_3
  try clear hfz26_4
  try clear hfz29_0
  try clear hfz29_1
  try clear hfz29_2
  try clear hfz29_3
  try clear hfz29_4
  try clear hfz32_0
  try clear hfz32_1
  try clear hfz32_2
  try clear hfz32_3
  try clear hfz32_4
  obtain ⟨kq, x5_1, rfl, HA, HJ1, HO_133000, HO_133001, BK132, BK133, BK134, HB⟩ := hcut
  cases kq with
  | zero => exact absurd HA.out (by simp [chancellaw04_right.j0])
  | succ kj1 =>
   have H := HA.out
   clear HA
   simp only [chancellaw04_right.j0] at H
   by_cases c33 : x5_1 = true
   ·subst c33
    have H1 : ((chancelref04_Right.f kj1 l0_0 l0_1 a0_2).bind fun t136 => (some (l0_0, l0_1, l0_0, l0_1, t136))) = some (r1, r2, r3, r4, r5) := by rw [if_pos rfl] at H; exact H
    clear H
    have H := H1
    clear H1
    replace H := Option.bind_eq_some_iff.mp H
    obtain ⟨t136, A340, H⟩ := H
    replace H : (some (l0_0, l0_1, l0_0, l0_1, t136)) = some (r1, r2, r3, r4, r5) := H
    have A34 := Aside0.mk A340
    clear A340
    simp only [Option.some.injEq, Prod.mk.injEq] at H
    obtain ⟨rfl, rfl, rfl, rfl, rfl⟩ := H
    have hnb35 := NB132_133.out
    have hnc35 := NB133_132.out
    have hnb36 := NB132_134.out
    have hnc36 := NB134_132.out
    have hcz37_0 : wc.cell? ⟨gb132, 0, none⟩ = some (.slice A0_0 l0_0.length c0_0) := (blk_cell BK132.out 0).trans rfl
    have hcz37_1 : wc.cell? ⟨gb132, 1, none⟩ = some (.slice A0_1 l0_1.length c0_1) := (blk_cell BK132.out 1).trans rfl
    have hcz37_2 : wc.cell? ⟨gb132, 2, none⟩ = some (.int .i64 a0_2) := (blk_cell BK132.out 2).trans rfl
    have hcz37_3 : wc.cell? ⟨gb132, 3, none⟩ = some (.int .i64 a0_3) := (blk_cell BK132.out 3).trans rfl
    have hcz37_4 : wc.cell? ⟨gb132, 4, none⟩ = some (.int .i64 a0_4) := (blk_cell BK132.out 4).trans rfl
    have hfz37_0 := blk_frozen BK132.out 0
    have hfz37_1 := blk_frozen BK132.out 1
    have hfz37_2 := blk_frozen BK132.out 2
    have hfz37_3 := blk_frozen BK132.out 3
    have hfz37_4 := blk_frozen BK132.out 4
    try go_wp2_with (first|((with_reducible refine gate_dst (N:=6) rfl ?_);(try (refine gate_guard (by rfl) ?_;dsimp only));refine box_event ?hg (N:=6) ?hd (cs:=#[.slice none 0 0, .slice none 0 0]) (t:=30) ?hr ?_;(case hd => rfl);(case hg => rfl);(case hr => first|(go_simp;done)|(go_simp;rfl));intro gb135 hg w38 hbox hb;have n0_:=Aside0.mk (Kd.V_below (Kd.V_elderB (by (with_reducible repeat (first|apply Kd.V_alloc|apply Kd.V_drewN|apply Kd.V_drew));exact HO_133000.out) gb135 (Nat.le_of_eq hg.symm)) hb);have n1_:=Aside0.mk (Kd.V_below (Kd.V_elderB (by (with_reducible repeat (first|apply Kd.V_alloc|apply Kd.V_drewN|apply Kd.V_drew));exact HO_133001.out) gb135 (Nat.le_of_eq hg.symm)) hb);have n2_:=Aside0.mk (blk_below (g:=gb132) (o:=.cells #[.slice A0_0 l0_0.length c0_0, .slice A0_1 l0_1.length c0_1, .int .i64 a0_2, .int .i64 a0_3, .int .i64 a0_4] 33 (0, 0)) (by (with_reducible repeat (first|refine blk_drewN ?_ _|refine blk_drew ?_|refine blk_alloc ?_ _));exact BK132.out) hb);have n3_:=Aside0.mk (blk_below (g:=gb133) (o:=.cells #[.slice none 0 0, .slice none 0 0] 28 (0, 0)) (by (with_reducible repeat (first|refine blk_drewN ?_ _|refine blk_drew ?_|refine blk_alloc ?_ _));exact BK133.out) hb);have n4_:=Aside0.mk (blk_below (g:=gb134) (o:=.cells #[.slice none 0 0, .slice none 0 0] 30 (0, 0)) (by (with_reducible repeat (first|refine blk_drewN ?_ _|refine blk_drew ?_|refine blk_alloc ?_ _));exact BK134.out) hb);have n5_:=Aside0.mk (below_step (by repeat (first|(with_reducible first|exact HB.out|apply below_alloc|apply pw_below_drewN|apply below_drew1|refine below_set ?_ GE132.out|refine below_set ?_ GE133.out|refine below_set ?_ GE134.out)|exact HB.out)) hb);have n6_:=Aside0.mk (hbox);have n7_:=Aside0.mk ((by rw [hg];exact (below_size (by repeat (first|(with_reducible first|exact HB.out|apply below_alloc|apply pw_below_drewN|apply below_drew1|refine below_set ?_ GE132.out|refine below_set ?_ GE133.out|refine below_set ?_ GE134.out)|exact HB.out))) : w.heap.size ≤ gb135));have n8_:=Aside0.mk ((by rw [hg];exact (below_size (by repeat (first|(with_reducible first|exact HB.out|apply below_alloc|apply pw_below_drewN|apply below_drew1|refine below_set ?_ GE132.out|refine below_set ?_ GE133.out|refine below_set ?_ GE134.out)|exact HB.out))) : w.heap.size ≤ gb135));have n9_:=Aside0.mk ((by rw [hg];exact Nat.ne_of_lt (blk_lt (g:=gb132) (o:=.cells #[.slice A0_0 l0_0.length c0_0, .slice A0_1 l0_1.length c0_1, .int .i64 a0_2, .int .i64 a0_3, .int .i64 a0_4] 33 (0, 0)) (by (with_reducible repeat (first|refine blk_drewN ?_ _|refine blk_drew ?_|refine blk_alloc ?_ _));exact BK132.out)) : gb132 ≠ gb135));have n10_:=Aside0.mk ((by rw [hg];exact Nat.ne_of_gt (blk_lt (g:=gb132) (o:=.cells #[.slice A0_0 l0_0.length c0_0, .slice A0_1 l0_1.length c0_1, .int .i64 a0_2, .int .i64 a0_3, .int .i64 a0_4] 33 (0, 0)) (by (with_reducible repeat (first|refine blk_drewN ?_ _|refine blk_drew ?_|refine blk_alloc ?_ _));exact BK132.out)) : gb135 ≠ gb132));have n11_:=Aside0.mk ((by rw [hg];exact Nat.ne_of_lt (blk_lt (g:=gb133) (o:=.cells #[.slice none 0 0, .slice none 0 0] 28 (0, 0)) (by (with_reducible repeat (first|refine blk_drewN ?_ _|refine blk_drew ?_|refine blk_alloc ?_ _));exact BK133.out)) : gb133 ≠ gb135));have n12_:=Aside0.mk ((by rw [hg];exact Nat.ne_of_gt (blk_lt (g:=gb133) (o:=.cells #[.slice none 0 0, .slice none 0 0] 28 (0, 0)) (by (with_reducible repeat (first|refine blk_drewN ?_ _|refine blk_drew ?_|refine blk_alloc ?_ _));exact BK133.out)) : gb135 ≠ gb133));have n13_:=Aside0.mk ((by rw [hg];exact Nat.ne_of_lt (blk_lt (g:=gb134) (o:=.cells #[.slice none 0 0, .slice none 0 0] 30 (0, 0)) (by (with_reducible repeat (first|refine blk_drewN ?_ _|refine blk_drew ?_|refine blk_alloc ?_ _));exact BK134.out)) : gb134 ≠ gb135));have n14_:=Aside0.mk ((by rw [hg];exact Nat.ne_of_gt (blk_lt (g:=gb134) (o:=.cells #[.slice none 0 0, .slice none 0 0] 30 (0, 0)) (by (with_reducible repeat (first|refine blk_drewN ?_ _|refine blk_drew ?_|refine blk_alloc ?_ _));exact BK134.out)) : gb135 ≠ gb134));clear HO_133000;clear HO_133001;clear BK132;clear BK133;clear BK134;clear HB;have HO_133000:=n0_;have HO_133001:=n1_;have BK132:=n2_;have BK133:=n3_;have BK134:=n4_;have HB:=n5_;have BK135:=n6_;have GW135:=n7_;have GE135:=n8_;have NB132_135:=n9_;have NB135_132:=n10_;have NB133_135:=n11_;have NB135_133:=n12_;have NB134_135:=n13_;have NB135_134:=n14_;clear n0_ n1_ n2_ n3_ n4_ n5_ n6_ n7_ n8_ n9_ n10_ n11_ n12_ n13_ n14_;clear hb hbox hg;have hnb39:=NB135_132.out;have hnc39:=NB132_135.out;have hnb40:=NB135_133.out;have hnc40:=NB133_135.out;have hnb41:=NB135_134.out;have hnc41:=NB134_135.out;have hcz42_0 : w38.cell? ⟨gb135, 0, none⟩ = some (.slice none 0 0):=(blk_cell BK135.out 0).trans rfl;have hcz42_1 : w38.cell? ⟨gb135, 1, none⟩ = some (.slice none 0 0):=(blk_cell BK135.out 1).trans rfl;have hfz42_0:=blk_frozen BK135.out 0;have hfz42_1:=blk_frozen BK135.out 1))
    have n0_ : Aside0 (Kd.V k26 26 ((w38.setCell ⟨gb135, 0, none⟩ (.slice A0_0 l0_0.length c0_0)).setCell ⟨gb135, 1, none⟩ (.slice A0_1 l0_1.length c0_1)) w.heap.size (fun k_ => ((P0_0_ k_ ∨ P0_1_ k_) ∨ w.heap.size ≤ k_) ∧ k_ ≠ gb132 ∧ k_ ≠ gb133 ∧ k_ ≠ gb134 ∧ k_ ≠ gb135) (.slice A0_0 l0_0.length c0_0) l0_0):=⟨by (with_reducible repeat (first|apply Kd.V_alloc|apply Kd.V_drewN|apply Kd.V_drew));exact Kd.V_mono (Kd.V_far (p:=⟨gb135, 1, none⟩) (Kd.V_far (p:=⟨gb135, 0, none⟩) (Kd.V_mono HO_133000.out (fun k_ hk => (⟨hk, hk.2⟩ : _ ∧ k_ ≠ gb135))) (fun _ hk => hk.2) (.slice A0_0 l0_0.length c0_0)) (fun _ hk => hk.2) (.slice A0_1 l0_1.length c0_1)) (fun _ hk => ⟨hk.1.1.1, ⟨hk.1.1.2.1, ⟨hk.1.1.2.2.1, ⟨hk.1.1.2.2.2, hk.1.2⟩⟩⟩⟩)⟩
    have n1_ : Aside0 (Kd.V k38 38 ((w38.setCell ⟨gb135, 0, none⟩ (.slice A0_0 l0_0.length c0_0)).setCell ⟨gb135, 1, none⟩ (.slice A0_1 l0_1.length c0_1)) w.heap.size (fun k_ => ((P0_0_ k_ ∨ P0_1_ k_) ∨ w.heap.size ≤ k_) ∧ k_ ≠ gb132 ∧ k_ ≠ gb133 ∧ k_ ≠ gb134 ∧ k_ ≠ gb135) (.slice A0_1 l0_1.length c0_1) l0_1):=⟨by (with_reducible repeat (first|apply Kd.V_alloc|apply Kd.V_drewN|apply Kd.V_drew));exact Kd.V_mono (Kd.V_far (p:=⟨gb135, 1, none⟩) (Kd.V_far (p:=⟨gb135, 0, none⟩) (Kd.V_mono HO_133001.out (fun k_ hk => (⟨hk, hk.2⟩ : _ ∧ k_ ≠ gb135))) (fun _ hk => hk.2) (.slice A0_0 l0_0.length c0_0)) (fun _ hk => hk.2) (.slice A0_1 l0_1.length c0_1)) (fun _ hk => ⟨hk.1.1.1, ⟨hk.1.1.2.1, ⟨hk.1.1.2.2.1, ⟨hk.1.1.2.2.2, hk.1.2⟩⟩⟩⟩)⟩
    have n2_ : Aside0 (((w38.setCell ⟨gb135, 0, none⟩ (.slice A0_0 l0_0.length c0_0)).setCell ⟨gb135, 1, none⟩ (.slice A0_1 l0_1.length c0_1)).heap[gb132]? = some (.cells #[.slice A0_0 l0_0.length c0_0, .slice A0_1 l0_1.length c0_1, .int .i64 a0_2, .int .i64 a0_3, .int .i64 a0_4] 33 (0, 0))):=⟨by (with_reducible repeat (first|refine blk_drewN ?_ _|refine blk_drew ?_|refine blk_alloc ?_ _));refine blk_far ?_ NB132_135.out _;(with_reducible repeat (first|refine blk_drewN ?_ _|refine blk_drew ?_|refine blk_alloc ?_ _));refine blk_far ?_ NB132_135.out _;(with_reducible repeat (first|refine blk_drewN ?_ _|refine blk_drew ?_|refine blk_alloc ?_ _));exact BK132.out⟩
    have n3_ : Aside0 (((w38.setCell ⟨gb135, 0, none⟩ (.slice A0_0 l0_0.length c0_0)).setCell ⟨gb135, 1, none⟩ (.slice A0_1 l0_1.length c0_1)).heap[gb133]? = some (.cells #[.slice none 0 0, .slice none 0 0] 28 (0, 0))):=⟨by (with_reducible repeat (first|refine blk_drewN ?_ _|refine blk_drew ?_|refine blk_alloc ?_ _));refine blk_far ?_ NB133_135.out _;(with_reducible repeat (first|refine blk_drewN ?_ _|refine blk_drew ?_|refine blk_alloc ?_ _));refine blk_far ?_ NB133_135.out _;(with_reducible repeat (first|refine blk_drewN ?_ _|refine blk_drew ?_|refine blk_alloc ?_ _));exact BK133.out⟩
    have n4_ : Aside0 (((w38.setCell ⟨gb135, 0, none⟩ (.slice A0_0 l0_0.length c0_0)).setCell ⟨gb135, 1, none⟩ (.slice A0_1 l0_1.length c0_1)).heap[gb134]? = some (.cells #[.slice none 0 0, .slice none 0 0] 30 (0, 0))):=⟨by (with_reducible repeat (first|refine blk_drewN ?_ _|refine blk_drew ?_|refine blk_alloc ?_ _));refine blk_far ?_ NB134_135.out _;(with_reducible repeat (first|refine blk_drewN ?_ _|refine blk_drew ?_|refine blk_alloc ?_ _));refine blk_far ?_ NB134_135.out _;(with_reducible repeat (first|refine blk_drewN ?_ _|refine blk_drew ?_|refine blk_alloc ?_ _));exact BK134.out⟩
    have n5_ : Aside0 (((w38.setCell ⟨gb135, 0, none⟩ (.slice A0_0 l0_0.length c0_0)).setCell ⟨gb135, 1, none⟩ (.slice A0_1 l0_1.length c0_1)).heap[gb135]? = some (.cells #[.slice A0_0 l0_0.length c0_0, .slice A0_1 l0_1.length c0_1] 30 (0, 0))):=⟨by (with_reducible repeat (first|refine blk_drewN ?_ _|refine blk_drew ?_|refine blk_alloc ?_ _));refine blk_put (cs:=#[.slice A0_0 l0_0.length c0_0, .slice none 0 0]) ?_ 1 _ rfl;(with_reducible repeat (first|refine blk_drewN ?_ _|refine blk_drew ?_|refine blk_alloc ?_ _));refine blk_put (cs:=#[.slice none 0 0, .slice none 0 0]) ?_ 0 _ rfl;(with_reducible repeat (first|refine blk_drewN ?_ _|refine blk_drew ?_|refine blk_alloc ?_ _));exact BK135.out⟩
    have n6_ : Aside0 (Below w.heap.size w ((w38.setCell ⟨gb135, 0, none⟩ (.slice A0_0 l0_0.length c0_0)).setCell ⟨gb135, 1, none⟩ (.slice A0_1 l0_1.length c0_1))):=⟨by repeat (first|(with_reducible first|exact HB.out|apply below_alloc|apply pw_below_drewN|apply below_drew1|refine below_set ?_ GE132.out|refine below_set ?_ GE133.out|refine below_set ?_ GE134.out|refine below_set ?_ GE135.out)|exact HB.out)⟩
    (try clear HO_133000)
    (try clear HO_133001)
    (try clear BK132)
    (try clear BK133)
    (try clear BK134)
    (try clear BK135)
    (try clear HB)
    generalize ((w38.setCell ⟨gb135, 0, none⟩ (.slice A0_0 l0_0.length c0_0)).setCell ⟨gb135, 1, none⟩ (.slice A0_1 l0_1.length c0_1)) = w43 at n0_ n1_ n2_ n3_ n4_ n5_ n6_ ⊢
    have HO_133000 := n0_
    have HO_133001 := n1_
    have BK132 := n2_
    have BK133 := n3_
    have BK134 := n4_
    have BK135 := n5_
    have HB := n6_
    clear n0_ n1_ n2_ n3_ n4_ n5_ n6_
    have n0_ := Aside0.mk (Kd.V_drew HO_133000.out)
    have n1_ := Aside0.mk (Kd.V_drew HO_133001.out)
    have n2_ := Aside0.mk (blk_drew BK132.out)
    have n3_ := Aside0.mk (blk_drew BK133.out)
    have n4_ := Aside0.mk (blk_drew BK134.out)
    have n5_ := Aside0.mk (blk_drew BK135.out)
    have n6_ := Aside0.mk (below_drew1 HB.out)
    clear HO_133000
    clear HO_133001
    clear BK132
    clear BK133
    clear BK134
    clear BK135
    clear HB
    have HO_133000 := n0_
    have HO_133001 := n1_
    have BK132 := n2_
    have BK133 := n3_
    have BK134 := n4_
    have BK135 := n5_
    have HB := n6_
    clear n0_ n1_ n2_ n3_ n4_ n5_ n6_
    refine start_ (n := 16) (S := fun w' => w'.cell? ⟨gb132, 0, none⟩ = some (.slice A0_0 l0_0.length c0_0) ∧ w'.cell? ⟨gb132, 1, none⟩ = some (.slice A0_1 l0_1.length c0_1) ∧ w'.cell? ⟨gb132, 2, none⟩ = some (.int .i64 a0_2) ∧ w'.cell? ⟨gb132, 3, none⟩ = some (.int .i64 a0_3) ∧ w'.cell? ⟨gb132, 4, none⟩ = some (.int .i64 a0_4) ∧ w'.cell? ⟨gb135, 0, none⟩ = some (.slice A0_0 l0_0.length c0_0) ∧ w'.cell? ⟨gb135, 1, none⟩ = some (.slice A0_1 l0_1.length c0_1)) (ds := []) #[false, false, false, false, false, false, false, false, false, false, false, false, false, false, false, false] (by kernel_rfl) rfl rfl ⟨(blk_cell BK132.out 0).trans rfl, (blk_cell BK132.out 1).trans rfl, (blk_cell BK132.out 2).trans rfl, (blk_cell BK132.out 3).trans rfl, (blk_cell BK132.out 4).trans rfl, (blk_cell BK135.out 0).trans rfl, (blk_cell BK135.out 1).trans rfl⟩ (fun hHeld => ?_); refine with_tabW chancellaw04_right.tab3 chancellaw04_right.bits3 (fun HT_ HW_ => ?_)
    generalize w43.drew = w44 at HO_133000 HO_133001 BK132 BK133 BK134 BK135 HB hHeld ⊢
    refine pure_ (i := 0) (N := some 51) (v := ?_) (a' := ?_) #[true, false, false, false, false, false, false, false, false, false, false, false, false, false, false, false] rfl rfl (any_of HT_.out (by kernel_rfl)) (fun _ _ _ h => h) (Or.inl ⟨by rfl, ?_⟩) ?_ ?_
    rotate_left
    ·intro w'
     go_simp
     with_reducible rfl
    rotate_left
    ·simp only [Act.put, List.setIfInBounds_toArray, List.set_cons_zero, List.set_cons_succ, i64_w, i32_w]
     rfl
    refine pure_ (i := 2) (N := some 53) (v := ?_) (a' := ?_) #[true, false, true, false, false, false, false, false, false, false, false, false, false, false, false, false] rfl rfl (any_of HT_.out (by kernel_rfl)) (fun _ _ _ h => h) (Or.inl ⟨by rfl, ?_⟩) ?_ ?_
    rotate_left
    ·intro w'
     go_simp
     with_reducible rfl
    rotate_left
    ·simp only [Act.put, List.setIfInBounds_toArray, List.set_cons_zero, List.set_cons_succ, i64_w, i32_w]
     rfl
    refine pure_ (i := 6) (N := some 57) (v := ?_) (a' := ?_) #[true, false, true, false, false, false, true, false, false, false, false, false, false, false, false, false] rfl rfl (any_of HT_.out (by kernel_rfl)) (fun _ _ _ h => h) (Or.inl ⟨by rfl, ?_⟩) ?_ ?_
    rotate_left
    ·intro w'
     go_simp
     with_reducible rfl
    rotate_left
    ·simp only [Act.put, List.setIfInBounds_toArray, List.set_cons_zero, List.set_cons_succ, i64_w, i32_w]
     rfl
    refine pure_ (i := 7) (N := some 58) (v := ?_) (a' := ?_) #[true, false, true, false, false, false, true, true, false, false, false, false, false, false, false, false] rfl rfl (any_of HT_.out (by kernel_rfl)) (fun _ _ _ h => h) (Or.inl ⟨by rfl, ?_⟩) ?_ ?_
    rotate_left
    ·intro w'
     go_simp
     with_reducible rfl
    rotate_left
    ·simp only [Act.put, List.setIfInBounds_toArray, List.set_cons_zero, List.set_cons_succ, i64_w, i32_w]
     rfl
    refine pure_ (i := 9) (N := some 60) (v := ?_) (a' := ?_) #[true, false, true, false, false, false, true, true, false, true, false, false, false, false, false, false] rfl rfl (any_of HT_.out (by kernel_rfl)) (fun _ _ _ h => h) (Or.inl ⟨by rfl, ?_⟩) ?_ ?_
    rotate_left
    ·intro w'
     go_simp
     with_reducible rfl
    rotate_left
    ·simp only [Act.put, List.setIfInBounds_toArray, List.set_cons_zero, List.set_cons_succ, i64_w, i32_w]
     rfl
    refine take_ (i := 1) (N := some 52) (v := ?_) (a' := ?_) #[true, true, true, false, false, false, true, true, false, true, false, false, false, false, false, false] rfl rfl (take_ofW HT_.out HW_.out (by kernel_rfl)) (fun _ _ _ h => h) (Or.inl ⟨by rfl, ?_⟩) hHeld ?_ ?_
    rotate_left
    ·rintro w' ⟨s0, s1, s2, s3, s4, s5, s6⟩
     go_simp
     with_reducible rfl
    rotate_left
    ·simp only [Act.put, List.setIfInBounds_toArray, List.set_cons_zero, List.set_cons_succ, i64_w, i32_w]
     rfl
    refine take_ (i := 3) (N := some 54) (v := ?_) (a' := ?_) #[true, true, true, true, false, false, true, true, false, true, false, false, false, false, false, false] rfl rfl (take_ofW HT_.out HW_.out (by kernel_rfl)) (fun _ _ _ h => h) (Or.inl ⟨by rfl, ?_⟩) hHeld ?_ ?_
    rotate_left
    ·rintro w' ⟨s0, s1, s2, s3, s4, s5, s6⟩
     go_simp
     with_reducible rfl
    rotate_left
    ·simp only [Act.put, List.setIfInBounds_toArray, List.set_cons_zero, List.set_cons_succ, i64_w, i32_w]
     rfl
    refine pure_ (i := 4) (N := some 55) (v := ?_) (a' := ?_) #[true, true, true, true, true, false, true, true, false, true, false, false, false, false, false, false] rfl rfl (any_of HT_.out (by kernel_rfl)) (fun _ _ _ h => h) (Or.inl ⟨by rfl, ?_⟩) ?_ ?_
    rotate_left
    ·intro w'
     go_simp
     with_reducible rfl
    rotate_left
    ·simp only [Act.put, List.setIfInBounds_toArray, List.set_cons_zero, List.set_cons_succ, i64_w, i32_w]
     rfl
    refine take_ (i := 5) (N := some 56) (v := ?_) (a' := ?_) #[true, true, true, true, true, true, true, true, false, true, false, false, false, false, false, false] rfl rfl (take_ofW HT_.out HW_.out (by kernel_rfl)) (fun _ _ _ h => h) (Or.inl ⟨by rfl, ?_⟩) hHeld ?_ ?_
    rotate_left
    ·rintro w' ⟨s0, s1, s2, s3, s4, s5, s6⟩
     go_simp
     with_reducible rfl
    rotate_left
    ·simp only [Act.put, List.setIfInBounds_toArray, List.set_cons_zero, List.set_cons_succ, i64_w, i32_w]
     rfl
    refine take_ (i := 8) (N := some 59) (v := ?_) (a' := ?_) #[true, true, true, true, true, true, true, true, true, true, false, false, false, false, false, false] rfl rfl (take_ofW HT_.out HW_.out (by kernel_rfl)) (fun _ _ _ h => h) (Or.inl ⟨by rfl, ?_⟩) hHeld ?_ ?_
    rotate_left
    ·rintro w' ⟨s0, s1, s2, s3, s4, s5, s6⟩
     go_simp
     with_reducible rfl
    rotate_left
    ·simp only [Act.put, List.setIfInBounds_toArray, List.set_cons_zero, List.set_cons_succ, i64_w, i32_w]
     rfl
    refine take_ (i := 10) (N := some 61) (v := ?_) (a' := ?_) #[true, true, true, true, true, true, true, true, true, true, true, false, false, false, false, false] rfl rfl (take_ofW HT_.out HW_.out (by kernel_rfl)) (fun _ _ _ h => h) (Or.inl ⟨by rfl, ?_⟩) hHeld ?_ ?_
    rotate_left
    ·rintro w' ⟨s0, s1, s2, s3, s4, s5, s6⟩
     go_simp
     with_reducible rfl
    rotate_left
    ·simp only [Act.put, List.setIfInBounds_toArray, List.set_cons_zero, List.set_cons_succ, i64_w, i32_w]
     rfl
    refine one_ (i := 11) (N := some 62) #[true, true, true, true, true, true, true, true, true, true, true, true, false, false, false, false] rfl rfl (one_of HT_.out (by kernel_rfl)) (by decide) (fun K hK => ?_)
    refine goes_ Try.func10 (by kernel_rfl) rfl #[.agg #[.slice A0_0 l0_0.length c0_0, .slice A0_1 l0_1.length c0_1], .int .i64 a0_2] (by rfl) rfl rfl (by (try simp only [List.map_toArray, List.map_cons, List.map_nil]); first | done | rfl | (simp only [List.length_drop, List.length_take]; rfl)) ?_
    with_reducible refine (chancelref04_Right.calls kj1 _ _ l0_0 _ _ l0_1 a0_2 t136 _ ?side1 ?side2 ?side3 ?side4 A34.out).mono ?_
    (case side1 => repeat (first|exact (Kd.V_reads' HO_133000.out).2.2|(with_reducible refine Kd.C_alloc ?_ _)|(with_reducible refine Kd.C_drewN ?_ _)|(with_reducible refine Kd.C_drew ?_)))
    (case side2 => exact (Kd.V_reads' HO_133000.out).2.1)
    (case side3 => repeat (first|exact (Kd.V_reads' HO_133001.out).2.2|(with_reducible refine Kd.C_alloc ?_ _)|(with_reducible refine Kd.C_drewN ?_ _)|(with_reducible refine Kd.C_drew ?_)))
    (case side4 => exact (Kd.V_reads' HO_133001.out).2.1)
    rintro e w45 ⟨rfl, hb⟩
    refine ⟨_, rfl, ?_⟩
    have n0_:=Aside0.mk (Kd.V_below (by (with_reducible repeat (first|apply Kd.V_alloc|apply Kd.V_drewN|apply Kd.V_drew));exact HO_133000.out) hb)
    have n1_:=Aside0.mk (Kd.V_below (by (with_reducible repeat (first|apply Kd.V_alloc|apply Kd.V_drewN|apply Kd.V_drew));exact HO_133001.out) hb)
    have n2_:=Aside0.mk (blk_below (g:=gb132) (o:=.cells #[.slice A0_0 l0_0.length c0_0, .slice A0_1 l0_1.length c0_1, .int .i64 a0_2, .int .i64 a0_3, .int .i64 a0_4] 33 (0, 0)) (by (with_reducible repeat (first|refine blk_drewN ?_ _|refine blk_drew ?_|refine blk_alloc ?_ _));exact BK132.out) hb)
    have n3_:=Aside0.mk (blk_below (g:=gb133) (o:=.cells #[.slice none 0 0, .slice none 0 0] 28 (0, 0)) (by (with_reducible repeat (first|refine blk_drewN ?_ _|refine blk_drew ?_|refine blk_alloc ?_ _));exact BK133.out) hb)
    have n4_:=Aside0.mk (blk_below (g:=gb134) (o:=.cells #[.slice none 0 0, .slice none 0 0] 30 (0, 0)) (by (with_reducible repeat (first|refine blk_drewN ?_ _|refine blk_drew ?_|refine blk_alloc ?_ _));exact BK134.out) hb)
    have n5_:=Aside0.mk (blk_below (g:=gb135) (o:=.cells #[.slice A0_0 l0_0.length c0_0, .slice A0_1 l0_1.length c0_1] 30 (0, 0)) (by (with_reducible repeat (first|refine blk_drewN ?_ _|refine blk_drew ?_|refine blk_alloc ?_ _));exact BK135.out) hb)
    have n6_:=Aside0.mk (below_step (by repeat (first|(with_reducible first|exact HB.out|apply below_alloc|apply pw_below_drewN|apply below_drew1|refine below_set ?_ GE132.out|refine below_set ?_ GE133.out|refine below_set ?_ GE134.out|refine below_set ?_ GE135.out)|exact HB.out)) hb)
    clear HO_133000
    clear HO_133001
    clear BK132
    clear BK133
    clear BK134
    clear BK135
    clear HB
    have HO_133000 := n0_
    have HO_133001 := n1_
    have BK132 := n2_
    have BK133 := n3_
    have BK134 := n4_
    have BK135 := n5_
    have HB := n6_
    clear n0_ n1_ n2_ n3_ n4_ n5_ n6_
    (try clear hb)
    (try clear hb2)
    (try clear hk)
    (try clear hi)
    refine hK.out _ _ ⟨(blk_cell BK132.out 0).trans rfl, (blk_cell BK132.out 1).trans rfl, (blk_cell BK132.out 2).trans rfl, (blk_cell BK132.out 3).trans rfl, (blk_cell BK132.out 4).trans rfl, (blk_cell BK135.out 0).trans rfl, (blk_cell BK135.out 1).trans rfl⟩ (fun hHeld => ?_)
    clear hK K
    refine norm_ (a' := ?_) ?_ ?_
    rotate_left
    ·show Act.put _ (some 62) _ = _
     simp only [Act.put, List.setIfInBounds_toArray, List.set_cons_zero, List.set_cons_succ, i64_w, i32_w]
     rfl
    refine pure_ (i := 12) (N := some 63) (v := ?_) (a' := ?_) #[true, true, true, true, true, true, true, true, true, true, true, true, true, false, false, false] rfl rfl (any_of HT_.out (by kernel_rfl)) (fun _ _ _ h => h) (Or.inl ⟨by rfl, ?_⟩) ?_ ?_
    rotate_left
    ·intro w'
     go_simp
     with_reducible rfl
    rotate_left
    ·simp only [Act.put, List.setIfInBounds_toArray, List.set_cons_zero, List.set_cons_succ, i64_w, i32_w]
     rfl
    refine one_ (i := 13) (N := none) #[true, true, true, true, true, true, true, true, true, true, true, true, true, true, false, false] rfl rfl (one_of HT_.out (by kernel_rfl)) (by decide) (fun K hK => ?_)
    have hs46 : w45.cell? ⟨gb133, 0, none⟩ = some (.slice none 0 0) := (blk_cell BK133.out 0).trans rfl
    have hfs46 := blk_frozen BK133.out 0
    have hns46_0 := NB132_133.out
    have hns46_2 := NB134_133.out
    have hns46_3 := NB135_133.out
    have hms46_0 := NB133_132.out
    have hms46_2 := NB133_134.out
    have hms46_3 := NB133_135.out
    have hs47 : w45.cell? ⟨gb133, 1, none⟩ = some (.slice none 0 0) := (blk_cell BK133.out 1).trans rfl
    have hfs47 := blk_frozen BK133.out 1
    have hns47_0 := NB132_133.out
    have hns47_2 := NB134_133.out
    have hns47_3 := NB135_133.out
    have hms47_0 := NB133_132.out
    have hms47_2 := NB133_134.out
    have hms47_3 := NB133_135.out
    refine skip_ (w1 := ?_) (by rfl) rfl ?_ ?_
    rotate_left
    ·go_simp
     rfl
    refine hK.out _ _ ⟨((cell_far (p := ⟨gb133, _, none⟩) NB132_133.out _).trans (((cell_far (p := ⟨gb133, _, none⟩) NB132_133.out _).trans (hHeld.1)))), ((cell_far (p := ⟨gb133, _, none⟩) NB132_133.out _).trans (((cell_far (p := ⟨gb133, _, none⟩) NB132_133.out _).trans (hHeld.2.1)))), ((cell_far (p := ⟨gb133, _, none⟩) NB132_133.out _).trans (((cell_far (p := ⟨gb133, _, none⟩) NB132_133.out _).trans (hHeld.2.2.1)))), ((cell_far (p := ⟨gb133, _, none⟩) NB132_133.out _).trans (((cell_far (p := ⟨gb133, _, none⟩) NB132_133.out _).trans (hHeld.2.2.2.1)))), ((cell_far (p := ⟨gb133, _, none⟩) NB132_133.out _).trans (((cell_far (p := ⟨gb133, _, none⟩) NB132_133.out _).trans (hHeld.2.2.2.2.1)))), ((cell_far (p := ⟨gb133, _, none⟩) NB135_133.out _).trans (((cell_far (p := ⟨gb133, _, none⟩) NB135_133.out _).trans (hHeld.2.2.2.2.2.1)))), ((cell_far (p := ⟨gb133, _, none⟩) NB135_133.out _).trans (((cell_far (p := ⟨gb133, _, none⟩) NB135_133.out _).trans (hHeld.2.2.2.2.2.2))))⟩ (fun hHeld => ?_)
    clear hK K
    refine one_ (i := 14) (N := none) #[true, true, true, true, true, true, true, true, true, true, true, true, true, true, true, false] rfl rfl (one_of HT_.out (by kernel_rfl)) (by decide) (fun K hK => ?_)
    have hs48 : w45.cell? ⟨gb134, 0, none⟩ = some (.slice none 0 0) := (blk_cell BK134.out 0).trans rfl
    have hfs48 := blk_frozen BK134.out 0
    have hns48_0 := NB132_134.out
    have hns48_1 := NB133_134.out
    have hns48_3 := NB135_134.out
    have hms48_0 := NB134_132.out
    have hms48_1 := NB134_133.out
    have hms48_3 := NB134_135.out
    have hs49 : w45.cell? ⟨gb134, 1, none⟩ = some (.slice none 0 0) := (blk_cell BK134.out 1).trans rfl
    have hfs49 := blk_frozen BK134.out 1
    have hns49_0 := NB132_134.out
    have hns49_1 := NB133_134.out
    have hns49_3 := NB135_134.out
    have hms49_0 := NB134_132.out
    have hms49_1 := NB134_133.out
    have hms49_3 := NB134_135.out
    refine skip_ (w1 := ?_) (by rfl) rfl ?_ ?_
    rotate_left
    ·go_simp
     rfl
    refine hK.out _ _ ⟨((cell_far (p := ⟨gb134, _, none⟩) NB132_134.out _).trans (((cell_far (p := ⟨gb134, _, none⟩) NB132_134.out _).trans (hHeld.1)))), ((cell_far (p := ⟨gb134, _, none⟩) NB132_134.out _).trans (((cell_far (p := ⟨gb134, _, none⟩) NB132_134.out _).trans (hHeld.2.1)))), ((cell_far (p := ⟨gb134, _, none⟩) NB132_134.out _).trans (((cell_far (p := ⟨gb134, _, none⟩) NB132_134.out _).trans (hHeld.2.2.1)))), ((cell_far (p := ⟨gb134, _, none⟩) NB132_134.out _).trans (((cell_far (p := ⟨gb134, _, none⟩) NB132_134.out _).trans (hHeld.2.2.2.1)))), ((cell_far (p := ⟨gb134, _, none⟩) NB132_134.out _).trans (((cell_far (p := ⟨gb134, _, none⟩) NB132_134.out _).trans (hHeld.2.2.2.2.1)))), ((cell_far (p := ⟨gb134, _, none⟩) NB135_134.out _).trans (((cell_far (p := ⟨gb134, _, none⟩) NB135_134.out _).trans (hHeld.2.2.2.2.2.1)))), ((cell_far (p := ⟨gb134, _, none⟩) NB135_134.out _).trans (((cell_far (p := ⟨gb134, _, none⟩) NB135_134.out _).trans (hHeld.2.2.2.2.2.2))))⟩ (fun hHeld => ?_)
    clear hK K
    refine pure_ (i := 15) (N := some 4) (v := ?_) (a' := ?_) #[true, true, true, true, true, true, true, true, true, true, true, true, true, true, true, true] rfl rfl (any_of HT_.out (by kernel_rfl)) (fun _ _ _ h => h) (Or.inl ⟨by rfl, ?_⟩) ?_ ?_
    rotate_left
    ·intro w'
     go_simp
     with_reducible rfl
    rotate_left
    ·simp only [Act.put, List.setIfInBounds_toArray, List.set_cons_zero, List.set_cons_succ, i64_w, i32_w]
     rfl
    refine done_ (done_of HT_.out (by kernel_rfl)) ?_
    try go_wp2
    refine bodyPost_ret (results_list (rs:=[.cell 2 28, .cell 3 30, .tmp 4]) rfl (by simp) (.cell gb133 28 #[.slice A0_0 l0_0.length c0_0, .slice A0_1 l0_1.length c0_1] (0, 0) _ rfl (by (with_reducible repeat (first|refine blk_drewN ?_ _|refine blk_drew ?_|refine blk_alloc ?_ _));refine blk_far ?_ NB133_134.out _;(with_reducible repeat (first|refine blk_drewN ?_ _|refine blk_drew ?_|refine blk_alloc ?_ _));refine blk_far ?_ NB133_134.out _;(with_reducible repeat (first|refine blk_drewN ?_ _|refine blk_drew ?_|refine blk_alloc ?_ _));refine blk_put (cs:=#[.slice A0_0 l0_0.length c0_0, .slice none 0 0]) ?_ 1 _ rfl;(with_reducible repeat (first|refine blk_drewN ?_ _|refine blk_drew ?_|refine blk_alloc ?_ _));refine blk_put (cs:=#[.slice none 0 0, .slice none 0 0]) ?_ 0 _ rfl;(with_reducible repeat (first|refine blk_drewN ?_ _|refine blk_drew ?_|refine blk_alloc ?_ _));exact BK133.out) Try.underlying28 rfl (by kernel_rfl) (.cell gb134 30 #[.slice A0_0 l0_0.length c0_0, .slice A0_1 l0_1.length c0_1] (0, 0) _ rfl (by (with_reducible repeat (first|refine blk_drewN ?_ _|refine blk_drew ?_|refine blk_alloc ?_ _));refine blk_put (cs:=#[.slice A0_0 l0_0.length c0_0, .slice none 0 0]) ?_ 1 _ rfl;(with_reducible repeat (first|refine blk_drewN ?_ _|refine blk_drew ?_|refine blk_alloc ?_ _));refine blk_put (cs:=#[.slice none 0 0, .slice none 0 0]) ?_ 0 _ rfl;(with_reducible repeat (first|refine blk_drewN ?_ _|refine blk_drew ?_|refine blk_alloc ?_ _));refine blk_far ?_ NB134_133.out _;(with_reducible repeat (first|refine blk_drewN ?_ _|refine blk_drew ?_|refine blk_alloc ?_ _));refine blk_far ?_ NB134_133.out _;(with_reducible repeat (first|refine blk_drewN ?_ _|refine blk_drew ?_|refine blk_alloc ?_ _));exact BK134.out) Try.underlying30 rfl (by kernel_rfl) (.tmp .nil)))) rfl ?_
    exact ⟨_, _, _, _, by first|rfl|(simp [errW_none, errW_some] <;> rfl)|(simp [*, errW_none, errW_some] <;> rfl), by (with_reducible repeat (first|apply Kd.V_alloc|apply Kd.V_drewN|apply Kd.V_drew));exact Kd.V_mono (Kd.V_far (p:=⟨gb134, 1, none⟩) (Kd.V_far (p:=⟨gb134, 0, none⟩) (Kd.V_far (p:=⟨gb133, 1, none⟩) (Kd.V_far (p:=⟨gb133, 0, none⟩) (Kd.V_mono (Kd.V_mono HO_133000.out (fun k_ hk => (⟨hk, hk.2.2.1⟩ : _ ∧ k_ ≠ gb133))) (fun k_ hk => (⟨hk, hk.1.2.2.2.1⟩ : _ ∧ k_ ≠ gb134))) (fun _ hk => hk.1.2) (.slice A0_0 l0_0.length c0_0)) (fun _ hk => hk.1.2) (.slice A0_1 l0_1.length c0_1)) (fun _ hk => hk.2) (.slice A0_0 l0_0.length c0_0)) (fun _ hk => hk.2) (.slice A0_1 l0_1.length c0_1)) (fun _ hk => hk.1.1.1), by (with_reducible repeat (first|apply Kd.V_alloc|apply Kd.V_drewN|apply Kd.V_drew));exact Kd.V_mono (Kd.V_far (p:=⟨gb134, 1, none⟩) (Kd.V_far (p:=⟨gb134, 0, none⟩) (Kd.V_far (p:=⟨gb133, 1, none⟩) (Kd.V_far (p:=⟨gb133, 0, none⟩) (Kd.V_mono (Kd.V_mono HO_133001.out (fun k_ hk => (⟨hk, hk.2.2.1⟩ : _ ∧ k_ ≠ gb133))) (fun k_ hk => (⟨hk, hk.1.2.2.2.1⟩ : _ ∧ k_ ≠ gb134))) (fun _ hk => hk.1.2) (.slice A0_0 l0_0.length c0_0)) (fun _ hk => hk.1.2) (.slice A0_1 l0_1.length c0_1)) (fun _ hk => hk.2) (.slice A0_0 l0_0.length c0_0)) (fun _ hk => hk.2) (.slice A0_1 l0_1.length c0_1)) (fun _ hk => hk.1.1.1), by (with_reducible repeat (first|apply Kd.V_alloc|apply Kd.V_drewN|apply Kd.V_drew));exact Kd.V_mono (Kd.V_far (p:=⟨gb134, 1, none⟩) (Kd.V_far (p:=⟨gb134, 0, none⟩) (Kd.V_far (p:=⟨gb133, 1, none⟩) (Kd.V_far (p:=⟨gb133, 0, none⟩) (Kd.V_mono (Kd.V_mono HO_133000.out (fun k_ hk => (⟨hk, hk.2.2.1⟩ : _ ∧ k_ ≠ gb133))) (fun k_ hk => (⟨hk, hk.1.2.2.2.1⟩ : _ ∧ k_ ≠ gb134))) (fun _ hk => hk.1.2) (.slice A0_0 l0_0.length c0_0)) (fun _ hk => hk.1.2) (.slice A0_1 l0_1.length c0_1)) (fun _ hk => hk.2) (.slice A0_0 l0_0.length c0_0)) (fun _ hk => hk.2) (.slice A0_1 l0_1.length c0_1)) (fun _ hk => hk.1.1.1), by (with_reducible repeat (first|apply Kd.V_alloc|apply Kd.V_drewN|apply Kd.V_drew));exact Kd.V_mono (Kd.V_far (p:=⟨gb134, 1, none⟩) (Kd.V_far (p:=⟨gb134, 0, none⟩) (Kd.V_far (p:=⟨gb133, 1, none⟩) (Kd.V_far (p:=⟨gb133, 0, none⟩) (Kd.V_mono (Kd.V_mono HO_133001.out (fun k_ hk => (⟨hk, hk.2.2.1⟩ : _ ∧ k_ ≠ gb133))) (fun k_ hk => (⟨hk, hk.1.2.2.2.1⟩ : _ ∧ k_ ≠ gb134))) (fun _ hk => hk.1.2) (.slice A0_0 l0_0.length c0_0)) (fun _ hk => hk.1.2) (.slice A0_1 l0_1.length c0_1)) (fun _ hk => hk.2) (.slice A0_0 l0_0.length c0_0)) (fun _ hk => hk.2) (.slice A0_1 l0_1.length c0_1)) (fun _ hk => hk.1.1.1), by repeat (first|(with_reducible first|exact HB.out|apply below_alloc|apply pw_below_drewN|apply below_drew1|refine below_set ?_ GE132.out|refine below_set ?_ GE133.out|refine below_set ?_ GE134.out|refine below_set ?_ GE135.out)|exact HB.out)⟩
   ·replace c33 := Bool.eq_false_iff.mpr c33
    subst c33
    have H1 : (some (l0_0, l0_1, l0_0, l0_1, false)) = some (r1, r2, r3, r4, r5) := by rw [if_neg (show ¬ (false = true) by decide)] at H; exact H
    clear H
    have H := H1
    clear H1
    simp only [Option.some.injEq, Prod.mk.injEq] at H
    obtain ⟨rfl, rfl, rfl, rfl, rfl⟩ := H
    have hnb50 := NB132_133.out
    have hnc50 := NB133_132.out
    have hnb51 := NB132_134.out
    have hnc51 := NB134_132.out
    have hcz52_0 : wc.cell? ⟨gb132, 0, none⟩ = some (.slice A0_0 l0_0.length c0_0) := (blk_cell BK132.out 0).trans rfl
    have hcz52_1 : wc.cell? ⟨gb132, 1, none⟩ = some (.slice A0_1 l0_1.length c0_1) := (blk_cell BK132.out 1).trans rfl
    have hcz52_2 : wc.cell? ⟨gb132, 2, none⟩ = some (.int .i64 a0_2) := (blk_cell BK132.out 2).trans rfl
    have hcz52_3 : wc.cell? ⟨gb132, 3, none⟩ = some (.int .i64 a0_3) := (blk_cell BK132.out 3).trans rfl
    have hcz52_4 : wc.cell? ⟨gb132, 4, none⟩ = some (.int .i64 a0_4) := (blk_cell BK132.out 4).trans rfl
    have hfz52_0 := blk_frozen BK132.out 0
    have hfz52_1 := blk_frozen BK132.out 1
    have hfz52_2 := blk_frozen BK132.out 2
    have hfz52_3 := blk_frozen BK132.out 3
    have hfz52_4 := blk_frozen BK132.out 4
    try go_wp2_with (first|((with_reducible refine gate_dst (N:=6) rfl ?_);(try (refine gate_guard (by rfl) ?_;dsimp only));refine box_event ?hg (N:=6) ?hd (cs:=#[.slice none 0 0, .slice none 0 0]) (t:=30) ?hr ?_;(case hd => rfl);(case hg => rfl);(case hr => first|(go_simp;done)|(go_simp;rfl));intro gb135 hg w53 hbox hb;have n0_:=Aside0.mk (Kd.V_below (Kd.V_elderB (by (with_reducible repeat (first|apply Kd.V_alloc|apply Kd.V_drewN|apply Kd.V_drew));exact HO_133000.out) gb135 (Nat.le_of_eq hg.symm)) hb);have n1_:=Aside0.mk (Kd.V_below (Kd.V_elderB (by (with_reducible repeat (first|apply Kd.V_alloc|apply Kd.V_drewN|apply Kd.V_drew));exact HO_133001.out) gb135 (Nat.le_of_eq hg.symm)) hb);have n2_:=Aside0.mk (blk_below (g:=gb132) (o:=.cells #[.slice A0_0 l0_0.length c0_0, .slice A0_1 l0_1.length c0_1, .int .i64 a0_2, .int .i64 a0_3, .int .i64 a0_4] 33 (0, 0)) (by (with_reducible repeat (first|refine blk_drewN ?_ _|refine blk_drew ?_|refine blk_alloc ?_ _));exact BK132.out) hb);have n3_:=Aside0.mk (blk_below (g:=gb133) (o:=.cells #[.slice none 0 0, .slice none 0 0] 28 (0, 0)) (by (with_reducible repeat (first|refine blk_drewN ?_ _|refine blk_drew ?_|refine blk_alloc ?_ _));exact BK133.out) hb);have n4_:=Aside0.mk (blk_below (g:=gb134) (o:=.cells #[.slice none 0 0, .slice none 0 0] 30 (0, 0)) (by (with_reducible repeat (first|refine blk_drewN ?_ _|refine blk_drew ?_|refine blk_alloc ?_ _));exact BK134.out) hb);have n5_:=Aside0.mk (below_step (by repeat (first|(with_reducible first|exact HB.out|apply below_alloc|apply pw_below_drewN|apply below_drew1|refine below_set ?_ GE132.out|refine below_set ?_ GE133.out|refine below_set ?_ GE134.out)|exact HB.out)) hb);have n6_:=Aside0.mk (hbox);have n7_:=Aside0.mk ((by rw [hg];exact (below_size (by repeat (first|(with_reducible first|exact HB.out|apply below_alloc|apply pw_below_drewN|apply below_drew1|refine below_set ?_ GE132.out|refine below_set ?_ GE133.out|refine below_set ?_ GE134.out)|exact HB.out))) : w.heap.size ≤ gb135));have n8_:=Aside0.mk ((by rw [hg];exact (below_size (by repeat (first|(with_reducible first|exact HB.out|apply below_alloc|apply pw_below_drewN|apply below_drew1|refine below_set ?_ GE132.out|refine below_set ?_ GE133.out|refine below_set ?_ GE134.out)|exact HB.out))) : w.heap.size ≤ gb135));have n9_:=Aside0.mk ((by rw [hg];exact Nat.ne_of_lt (blk_lt (g:=gb132) (o:=.cells #[.slice A0_0 l0_0.length c0_0, .slice A0_1 l0_1.length c0_1, .int .i64 a0_2, .int .i64 a0_3, .int .i64 a0_4] 33 (0, 0)) (by (with_reducible repeat (first|refine blk_drewN ?_ _|refine blk_drew ?_|refine blk_alloc ?_ _));exact BK132.out)) : gb132 ≠ gb135));have n10_:=Aside0.mk ((by rw [hg];exact Nat.ne_of_gt (blk_lt (g:=gb132) (o:=.cells #[.slice A0_0 l0_0.length c0_0, .slice A0_1 l0_1.length c0_1, .int .i64 a0_2, .int .i64 a0_3, .int .i64 a0_4] 33 (0, 0)) (by (with_reducible repeat (first|refine blk_drewN ?_ _|refine blk_drew ?_|refine blk_alloc ?_ _));exact BK132.out)) : gb135 ≠ gb132));have n11_:=Aside0.mk ((by rw [hg];exact Nat.ne_of_lt (blk_lt (g:=gb133) (o:=.cells #[.slice none 0 0, .slice none 0 0] 28 (0, 0)) (by (with_reducible repeat (first|refine blk_drewN ?_ _|refine blk_drew ?_|refine blk_alloc ?_ _));exact BK133.out)) : gb133 ≠ gb135));have n12_:=Aside0.mk ((by rw [hg];exact Nat.ne_of_gt (blk_lt (g:=gb133) (o:=.cells #[.slice none 0 0, .slice none 0 0] 28 (0, 0)) (by (with_reducible repeat (first|refine blk_drewN ?_ _|refine blk_drew ?_|refine blk_alloc ?_ _));exact BK133.out)) : gb135 ≠ gb133));have n13_:=Aside0.mk ((by rw [hg];exact Nat.ne_of_lt (blk_lt (g:=gb134) (o:=.cells #[.slice none 0 0, .slice none 0 0] 30 (0, 0)) (by (with_reducible repeat (first|refine blk_drewN ?_ _|refine blk_drew ?_|refine blk_alloc ?_ _));exact BK134.out)) : gb134 ≠ gb135));have n14_:=Aside0.mk ((by rw [hg];exact Nat.ne_of_gt (blk_lt (g:=gb134) (o:=.cells #[.slice none 0 0, .slice none 0 0] 30 (0, 0)) (by (with_reducible repeat (first|refine blk_drewN ?_ _|refine blk_drew ?_|refine blk_alloc ?_ _));exact BK134.out)) : gb135 ≠ gb134));clear HO_133000;clear HO_133001;clear BK132;clear BK133;clear BK134;clear HB;have HO_133000:=n0_;have HO_133001:=n1_;have BK132:=n2_;have BK133:=n3_;have BK134:=n4_;have HB:=n5_;have BK135:=n6_;have GW135:=n7_;have GE135:=n8_;have NB132_135:=n9_;have NB135_132:=n10_;have NB133_135:=n11_;have NB135_133:=n12_;have NB134_135:=n13_;have NB135_134:=n14_;clear n0_ n1_ n2_ n3_ n4_ n5_ n6_ n7_ n8_ n9_ n10_ n11_ n12_ n13_ n14_;clear hb hbox hg;have hnb54:=NB135_132.out;have hnc54:=NB132_135.out;have hnb55:=NB135_133.out;have hnc55:=NB133_135.out;have hnb56:=NB135_134.out;have hnc56:=NB134_135.out;have hcz57_0 : w53.cell? ⟨gb135, 0, none⟩ = some (.slice none 0 0):=(blk_cell BK135.out 0).trans rfl;have hcz57_1 : w53.cell? ⟨gb135, 1, none⟩ = some (.slice none 0 0):=(blk_cell BK135.out 1).trans rfl;have hfz57_0:=blk_frozen BK135.out 0;have hfz57_1:=blk_frozen BK135.out 1))
    have n0_ : Aside0 (Kd.V k26 26 ((w53.setCell ⟨gb135, 0, none⟩ (.slice A0_0 l0_0.length c0_0)).setCell ⟨gb135, 1, none⟩ (.slice A0_1 l0_1.length c0_1)) w.heap.size (fun k_ => ((P0_0_ k_ ∨ P0_1_ k_) ∨ w.heap.size ≤ k_) ∧ k_ ≠ gb132 ∧ k_ ≠ gb133 ∧ k_ ≠ gb134 ∧ k_ ≠ gb135) (.slice A0_0 l0_0.length c0_0) l0_0):=⟨by (with_reducible repeat (first|apply Kd.V_alloc|apply Kd.V_drewN|apply Kd.V_drew));exact Kd.V_mono (Kd.V_far (p:=⟨gb135, 1, none⟩) (Kd.V_far (p:=⟨gb135, 0, none⟩) (Kd.V_mono HO_133000.out (fun k_ hk => (⟨hk, hk.2⟩ : _ ∧ k_ ≠ gb135))) (fun _ hk => hk.2) (.slice A0_0 l0_0.length c0_0)) (fun _ hk => hk.2) (.slice A0_1 l0_1.length c0_1)) (fun _ hk => ⟨hk.1.1.1, ⟨hk.1.1.2.1, ⟨hk.1.1.2.2.1, ⟨hk.1.1.2.2.2, hk.1.2⟩⟩⟩⟩)⟩
    have n1_ : Aside0 (Kd.V k38 38 ((w53.setCell ⟨gb135, 0, none⟩ (.slice A0_0 l0_0.length c0_0)).setCell ⟨gb135, 1, none⟩ (.slice A0_1 l0_1.length c0_1)) w.heap.size (fun k_ => ((P0_0_ k_ ∨ P0_1_ k_) ∨ w.heap.size ≤ k_) ∧ k_ ≠ gb132 ∧ k_ ≠ gb133 ∧ k_ ≠ gb134 ∧ k_ ≠ gb135) (.slice A0_1 l0_1.length c0_1) l0_1):=⟨by (with_reducible repeat (first|apply Kd.V_alloc|apply Kd.V_drewN|apply Kd.V_drew));exact Kd.V_mono (Kd.V_far (p:=⟨gb135, 1, none⟩) (Kd.V_far (p:=⟨gb135, 0, none⟩) (Kd.V_mono HO_133001.out (fun k_ hk => (⟨hk, hk.2⟩ : _ ∧ k_ ≠ gb135))) (fun _ hk => hk.2) (.slice A0_0 l0_0.length c0_0)) (fun _ hk => hk.2) (.slice A0_1 l0_1.length c0_1)) (fun _ hk => ⟨hk.1.1.1, ⟨hk.1.1.2.1, ⟨hk.1.1.2.2.1, ⟨hk.1.1.2.2.2, hk.1.2⟩⟩⟩⟩)⟩
    have n2_ : Aside0 (((w53.setCell ⟨gb135, 0, none⟩ (.slice A0_0 l0_0.length c0_0)).setCell ⟨gb135, 1, none⟩ (.slice A0_1 l0_1.length c0_1)).heap[gb132]? = some (.cells #[.slice A0_0 l0_0.length c0_0, .slice A0_1 l0_1.length c0_1, .int .i64 a0_2, .int .i64 a0_3, .int .i64 a0_4] 33 (0, 0))):=⟨by (with_reducible repeat (first|refine blk_drewN ?_ _|refine blk_drew ?_|refine blk_alloc ?_ _));refine blk_far ?_ NB132_135.out _;(with_reducible repeat (first|refine blk_drewN ?_ _|refine blk_drew ?_|refine blk_alloc ?_ _));refine blk_far ?_ NB132_135.out _;(with_reducible repeat (first|refine blk_drewN ?_ _|refine blk_drew ?_|refine blk_alloc ?_ _));exact BK132.out⟩
    have n3_ : Aside0 (((w53.setCell ⟨gb135, 0, none⟩ (.slice A0_0 l0_0.length c0_0)).setCell ⟨gb135, 1, none⟩ (.slice A0_1 l0_1.length c0_1)).heap[gb133]? = some (.cells #[.slice none 0 0, .slice none 0 0] 28 (0, 0))):=⟨by (with_reducible repeat (first|refine blk_drewN ?_ _|refine blk_drew ?_|refine blk_alloc ?_ _));refine blk_far ?_ NB133_135.out _;(with_reducible repeat (first|refine blk_drewN ?_ _|refine blk_drew ?_|refine blk_alloc ?_ _));refine blk_far ?_ NB133_135.out _;(with_reducible repeat (first|refine blk_drewN ?_ _|refine blk_drew ?_|refine blk_alloc ?_ _));exact BK133.out⟩
    have n4_ : Aside0 (((w53.setCell ⟨gb135, 0, none⟩ (.slice A0_0 l0_0.length c0_0)).setCell ⟨gb135, 1, none⟩ (.slice A0_1 l0_1.length c0_1)).heap[gb134]? = some (.cells #[.slice none 0 0, .slice none 0 0] 30 (0, 0))):=⟨by (with_reducible repeat (first|refine blk_drewN ?_ _|refine blk_drew ?_|refine blk_alloc ?_ _));refine blk_far ?_ NB134_135.out _;(with_reducible repeat (first|refine blk_drewN ?_ _|refine blk_drew ?_|refine blk_alloc ?_ _));refine blk_far ?_ NB134_135.out _;(with_reducible repeat (first|refine blk_drewN ?_ _|refine blk_drew ?_|refine blk_alloc ?_ _));exact BK134.out⟩
    have n5_ : Aside0 (((w53.setCell ⟨gb135, 0, none⟩ (.slice A0_0 l0_0.length c0_0)).setCell ⟨gb135, 1, none⟩ (.slice A0_1 l0_1.length c0_1)).heap[gb135]? = some (.cells #[.slice A0_0 l0_0.length c0_0, .slice A0_1 l0_1.length c0_1] 30 (0, 0))):=⟨by (with_reducible repeat (first|refine blk_drewN ?_ _|refine blk_drew ?_|refine blk_alloc ?_ _));refine blk_put (cs:=#[.slice A0_0 l0_0.length c0_0, .slice none 0 0]) ?_ 1 _ rfl;(with_reducible repeat (first|refine blk_drewN ?_ _|refine blk_drew ?_|refine blk_alloc ?_ _));refine blk_put (cs:=#[.slice none 0 0, .slice none 0 0]) ?_ 0 _ rfl;(with_reducible repeat (first|refine blk_drewN ?_ _|refine blk_drew ?_|refine blk_alloc ?_ _));exact BK135.out⟩
    have n6_ : Aside0 (Below w.heap.size w ((w53.setCell ⟨gb135, 0, none⟩ (.slice A0_0 l0_0.length c0_0)).setCell ⟨gb135, 1, none⟩ (.slice A0_1 l0_1.length c0_1))):=⟨by repeat (first|(with_reducible first|exact HB.out|apply below_alloc|apply pw_below_drewN|apply below_drew1|refine below_set ?_ GE132.out|refine below_set ?_ GE133.out|refine below_set ?_ GE134.out|refine below_set ?_ GE135.out)|exact HB.out)⟩
    (try clear HO_133000)
    (try clear HO_133001)
    (try clear BK132)
    (try clear BK133)
    (try clear BK134)
    (try clear BK135)
    (try clear HB)
    generalize ((w53.setCell ⟨gb135, 0, none⟩ (.slice A0_0 l0_0.length c0_0)).setCell ⟨gb135, 1, none⟩ (.slice A0_1 l0_1.length c0_1)) = w58 at n0_ n1_ n2_ n3_ n4_ n5_ n6_ ⊢
    have HO_133000 := n0_
    have HO_133001 := n1_
    have BK132 := n2_
    have BK133 := n3_
    have BK134 := n4_
    have BK135 := n5_
    have HB := n6_
    clear n0_ n1_ n2_ n3_ n4_ n5_ n6_
    have n0_ := Aside0.mk (Kd.V_drew HO_133000.out)
    have n1_ := Aside0.mk (Kd.V_drew HO_133001.out)
    have n2_ := Aside0.mk (blk_drew BK132.out)
    have n3_ := Aside0.mk (blk_drew BK133.out)
    have n4_ := Aside0.mk (blk_drew BK134.out)
    have n5_ := Aside0.mk (blk_drew BK135.out)
    have n6_ := Aside0.mk (below_drew1 HB.out)
    clear HO_133000
    clear HO_133001
    clear BK132
    clear BK133
    clear BK134
    clear BK135
    clear HB
    have HO_133000 := n0_
    have HO_133001 := n1_
    have BK132 := n2_
    have BK133 := n3_
    have BK134 := n4_
    have BK135 := n5_
    have HB := n6_
    clear n0_ n1_ n2_ n3_ n4_ n5_ n6_
    refine start_ (n := 16) (S := fun w' => w'.cell? ⟨gb132, 0, none⟩ = some (.slice A0_0 l0_0.length c0_0) ∧ w'.cell? ⟨gb132, 1, none⟩ = some (.slice A0_1 l0_1.length c0_1) ∧ w'.cell? ⟨gb132, 2, none⟩ = some (.int .i64 a0_2) ∧ w'.cell? ⟨gb132, 3, none⟩ = some (.int .i64 a0_3) ∧ w'.cell? ⟨gb132, 4, none⟩ = some (.int .i64 a0_4) ∧ w'.cell? ⟨gb135, 0, none⟩ = some (.slice A0_0 l0_0.length c0_0) ∧ w'.cell? ⟨gb135, 1, none⟩ = some (.slice A0_1 l0_1.length c0_1)) (ds := []) #[false, false, false, false, false, false, false, false, false, false, false, false, false, false, false, false] (by kernel_rfl) rfl rfl ⟨(blk_cell BK132.out 0).trans rfl, (blk_cell BK132.out 1).trans rfl, (blk_cell BK132.out 2).trans rfl, (blk_cell BK132.out 3).trans rfl, (blk_cell BK132.out 4).trans rfl, (blk_cell BK135.out 0).trans rfl, (blk_cell BK135.out 1).trans rfl⟩ (fun hHeld => ?_); refine with_tabW chancellaw04_right.tab3 chancellaw04_right.bits3 (fun HT_ HW_ => ?_)
    generalize w58.drew = w59 at HO_133000 HO_133001 BK132 BK133 BK134 BK135 HB hHeld ⊢
    refine pure_ (i := 0) (N := some 51) (v := ?_) (a' := ?_) #[true, false, false, false, false, false, false, false, false, false, false, false, false, false, false, false] rfl rfl (any_of HT_.out (by kernel_rfl)) (fun _ _ _ h => h) (Or.inl ⟨by rfl, ?_⟩) ?_ ?_
    rotate_left
    ·intro w'
     go_simp
     with_reducible rfl
    rotate_left
    ·simp only [Act.put, List.setIfInBounds_toArray, List.set_cons_zero, List.set_cons_succ, i64_w, i32_w]
     rfl
    refine pure_ (i := 2) (N := some 53) (v := ?_) (a' := ?_) #[true, false, true, false, false, false, false, false, false, false, false, false, false, false, false, false] rfl rfl (any_of HT_.out (by kernel_rfl)) (fun _ _ _ h => h) (Or.inl ⟨by rfl, ?_⟩) ?_ ?_
    rotate_left
    ·intro w'
     go_simp
     with_reducible rfl
    rotate_left
    ·simp only [Act.put, List.setIfInBounds_toArray, List.set_cons_zero, List.set_cons_succ, i64_w, i32_w]
     rfl
    refine pure_ (i := 6) (N := some 57) (v := ?_) (a' := ?_) #[true, false, true, false, false, false, true, false, false, false, false, false, false, false, false, false] rfl rfl (any_of HT_.out (by kernel_rfl)) (fun _ _ _ h => h) (Or.inl ⟨by rfl, ?_⟩) ?_ ?_
    rotate_left
    ·intro w'
     go_simp
     with_reducible rfl
    rotate_left
    ·simp only [Act.put, List.setIfInBounds_toArray, List.set_cons_zero, List.set_cons_succ, i64_w, i32_w]
     rfl
    refine pure_ (i := 7) (N := some 58) (v := ?_) (a' := ?_) #[true, false, true, false, false, false, true, true, false, false, false, false, false, false, false, false] rfl rfl (any_of HT_.out (by kernel_rfl)) (fun _ _ _ h => h) (Or.inl ⟨by rfl, ?_⟩) ?_ ?_
    rotate_left
    ·intro w'
     go_simp
     with_reducible rfl
    rotate_left
    ·simp only [Act.put, List.setIfInBounds_toArray, List.set_cons_zero, List.set_cons_succ, i64_w, i32_w]
     rfl
    refine pure_ (i := 8) (N := some 59) (v := undef) (a' := ?_) #[true, false, true, false, false, false, true, true, true, false, false, false, false, false, false, false] rfl rfl (any_of HT_.out (by kernel_rfl)) (fun _ _ _ h => h) (Or.inr ⟨by rfl, rfl⟩) ?_ ?_
    rotate_left
    ·simp only [Act.put, List.setIfInBounds_toArray, List.set_cons_zero, List.set_cons_succ, i64_w, i32_w]
     rfl
    refine pure_ (i := 9) (N := some 60) (v := undef) (a' := ?_) #[true, false, true, false, false, false, true, true, true, true, false, false, false, false, false, false] rfl rfl (any_of HT_.out (by kernel_rfl)) (fun _ _ _ h => h) (Or.inr ⟨by rfl, rfl⟩) ?_ ?_
    rotate_left
    ·simp only [Act.put, List.setIfInBounds_toArray, List.set_cons_zero, List.set_cons_succ, i64_w, i32_w]
     rfl
    refine pure_ (i := 10) (N := some 61) (v := undef) (a' := ?_) #[true, false, true, false, false, false, true, true, true, true, true, false, false, false, false, false] rfl rfl (any_of HT_.out (by kernel_rfl)) (fun _ _ _ h => h) (Or.inr ⟨by rfl, rfl⟩) ?_ ?_
    rotate_left
    ·simp only [Act.put, List.setIfInBounds_toArray, List.set_cons_zero, List.set_cons_succ, i64_w, i32_w]
     rfl
    refine pure_ (i := 11) (N := some 62) (v := undef) (a' := ?_) #[true, false, true, false, false, false, true, true, true, true, true, true, false, false, false, false] rfl rfl (any_of HT_.out (by kernel_rfl)) (fun _ _ _ h => h) (Or.inr ⟨by rfl, rfl⟩) ?_ ?_
    rotate_left
    ·simp only [Act.put, List.setIfInBounds_toArray, List.set_cons_zero, List.set_cons_succ, i64_w, i32_w]
     rfl
    refine pure_ (i := 12) (N := some 63) (v := ?_) (a' := ?_) #[true, false, true, false, false, false, true, true, true, true, true, true, true, false, false, false] rfl rfl (any_of HT_.out (by kernel_rfl)) (fun _ _ _ h => h) (Or.inl ⟨by rfl, ?_⟩) ?_ ?_
    rotate_left
    ·intro w'
     go_simp
     with_reducible rfl
    rotate_left
    ·simp only [Act.put, List.setIfInBounds_toArray, List.set_cons_zero, List.set_cons_succ, i64_w, i32_w]
     rfl
    refine take_ (i := 1) (N := some 52) (v := ?_) (a' := ?_) #[true, true, true, false, false, false, true, true, true, true, true, true, true, false, false, false] rfl rfl (take_ofW HT_.out HW_.out (by kernel_rfl)) (fun _ _ _ h => h) (Or.inl ⟨by rfl, ?_⟩) hHeld ?_ ?_
    rotate_left
    ·rintro w' ⟨s0, s1, s2, s3, s4, s5, s6⟩
     go_simp
     with_reducible rfl
    rotate_left
    ·simp only [Act.put, List.setIfInBounds_toArray, List.set_cons_zero, List.set_cons_succ, i64_w, i32_w]
     rfl
    refine take_ (i := 3) (N := some 54) (v := ?_) (a' := ?_) #[true, true, true, true, false, false, true, true, true, true, true, true, true, false, false, false] rfl rfl (take_ofW HT_.out HW_.out (by kernel_rfl)) (fun _ _ _ h => h) (Or.inl ⟨by rfl, ?_⟩) hHeld ?_ ?_
    rotate_left
    ·rintro w' ⟨s0, s1, s2, s3, s4, s5, s6⟩
     go_simp
     with_reducible rfl
    rotate_left
    ·simp only [Act.put, List.setIfInBounds_toArray, List.set_cons_zero, List.set_cons_succ, i64_w, i32_w]
     rfl
    refine pure_ (i := 4) (N := some 55) (v := ?_) (a' := ?_) #[true, true, true, true, true, false, true, true, true, true, true, true, true, false, false, false] rfl rfl (any_of HT_.out (by kernel_rfl)) (fun _ _ _ h => h) (Or.inl ⟨by rfl, ?_⟩) ?_ ?_
    rotate_left
    ·intro w'
     go_simp
     with_reducible rfl
    rotate_left
    ·simp only [Act.put, List.setIfInBounds_toArray, List.set_cons_zero, List.set_cons_succ, i64_w, i32_w]
     rfl
    refine take_ (i := 5) (N := some 56) (v := ?_) (a' := ?_) #[true, true, true, true, true, true, true, true, true, true, true, true, true, false, false, false] rfl rfl (take_ofW HT_.out HW_.out (by kernel_rfl)) (fun _ _ _ h => h) (Or.inl ⟨by rfl, ?_⟩) hHeld ?_ ?_
    rotate_left
    ·rintro w' ⟨s0, s1, s2, s3, s4, s5, s6⟩
     go_simp
     with_reducible rfl
    rotate_left
    ·simp only [Act.put, List.setIfInBounds_toArray, List.set_cons_zero, List.set_cons_succ, i64_w, i32_w]
     rfl
    refine one_ (i := 13) (N := none) #[true, true, true, true, true, true, true, true, true, true, true, true, true, true, false, false] rfl rfl (one_of HT_.out (by kernel_rfl)) (by decide) (fun K hK => ?_)
    have hs60 : w59.cell? ⟨gb133, 0, none⟩ = some (.slice none 0 0) := (blk_cell BK133.out 0).trans rfl
    have hfs60 := blk_frozen BK133.out 0
    have hns60_0 := NB132_133.out
    have hns60_2 := NB134_133.out
    have hns60_3 := NB135_133.out
    have hms60_0 := NB133_132.out
    have hms60_2 := NB133_134.out
    have hms60_3 := NB133_135.out
    have hs61 : w59.cell? ⟨gb133, 1, none⟩ = some (.slice none 0 0) := (blk_cell BK133.out 1).trans rfl
    have hfs61 := blk_frozen BK133.out 1
    have hns61_0 := NB132_133.out
    have hns61_2 := NB134_133.out
    have hns61_3 := NB135_133.out
    have hms61_0 := NB133_132.out
    have hms61_2 := NB133_134.out
    have hms61_3 := NB133_135.out
    refine skip_ (w1 := ?_) (by rfl) rfl ?_ ?_
    rotate_left
    ·go_simp
     rfl
    refine hK.out _ _ ⟨((cell_far (p := ⟨gb133, _, none⟩) NB132_133.out _).trans (((cell_far (p := ⟨gb133, _, none⟩) NB132_133.out _).trans (hHeld.1)))), ((cell_far (p := ⟨gb133, _, none⟩) NB132_133.out _).trans (((cell_far (p := ⟨gb133, _, none⟩) NB132_133.out _).trans (hHeld.2.1)))), ((cell_far (p := ⟨gb133, _, none⟩) NB132_133.out _).trans (((cell_far (p := ⟨gb133, _, none⟩) NB132_133.out _).trans (hHeld.2.2.1)))), ((cell_far (p := ⟨gb133, _, none⟩) NB132_133.out _).trans (((cell_far (p := ⟨gb133, _, none⟩) NB132_133.out _).trans (hHeld.2.2.2.1)))), ((cell_far (p := ⟨gb133, _, none⟩) NB132_133.out _).trans (((cell_far (p := ⟨gb133, _, none⟩) NB132_133.out _).trans (hHeld.2.2.2.2.1)))), ((cell_far (p := ⟨gb133, _, none⟩) NB135_133.out _).trans (((cell_far (p := ⟨gb133, _, none⟩) NB135_133.out _).trans (hHeld.2.2.2.2.2.1)))), ((cell_far (p := ⟨gb133, _, none⟩) NB135_133.out _).trans (((cell_far (p := ⟨gb133, _, none⟩) NB135_133.out _).trans (hHeld.2.2.2.2.2.2))))⟩ (fun hHeld => ?_)
    clear hK K
    refine one_ (i := 14) (N := none) #[true, true, true, true, true, true, true, true, true, true, true, true, true, true, true, false] rfl rfl (one_of HT_.out (by kernel_rfl)) (by decide) (fun K hK => ?_)
    have hs62 : w59.cell? ⟨gb134, 0, none⟩ = some (.slice none 0 0) := (blk_cell BK134.out 0).trans rfl
    have hfs62 := blk_frozen BK134.out 0
    have hns62_0 := NB132_134.out
    have hns62_1 := NB133_134.out
    have hns62_3 := NB135_134.out
    have hms62_0 := NB134_132.out
    have hms62_1 := NB134_133.out
    have hms62_3 := NB134_135.out
    have hs63 : w59.cell? ⟨gb134, 1, none⟩ = some (.slice none 0 0) := (blk_cell BK134.out 1).trans rfl
    have hfs63 := blk_frozen BK134.out 1
    have hns63_0 := NB132_134.out
    have hns63_1 := NB133_134.out
    have hns63_3 := NB135_134.out
    have hms63_0 := NB134_132.out
    have hms63_1 := NB134_133.out
    have hms63_3 := NB134_135.out
    refine skip_ (w1 := ?_) (by rfl) rfl ?_ ?_
    rotate_left
    ·go_simp
     rfl
    refine hK.out _ _ ⟨((cell_far (p := ⟨gb134, _, none⟩) NB132_134.out _).trans (((cell_far (p := ⟨gb134, _, none⟩) NB132_134.out _).trans (hHeld.1)))), ((cell_far (p := ⟨gb134, _, none⟩) NB132_134.out _).trans (((cell_far (p := ⟨gb134, _, none⟩) NB132_134.out _).trans (hHeld.2.1)))), ((cell_far (p := ⟨gb134, _, none⟩) NB132_134.out _).trans (((cell_far (p := ⟨gb134, _, none⟩) NB132_134.out _).trans (hHeld.2.2.1)))), ((cell_far (p := ⟨gb134, _, none⟩) NB132_134.out _).trans (((cell_far (p := ⟨gb134, _, none⟩) NB132_134.out _).trans (hHeld.2.2.2.1)))), ((cell_far (p := ⟨gb134, _, none⟩) NB132_134.out _).trans (((cell_far (p := ⟨gb134, _, none⟩) NB132_134.out _).trans (hHeld.2.2.2.2.1)))), ((cell_far (p := ⟨gb134, _, none⟩) NB135_134.out _).trans (((cell_far (p := ⟨gb134, _, none⟩) NB135_134.out _).trans (hHeld.2.2.2.2.2.1)))), ((cell_far (p := ⟨gb134, _, none⟩) NB135_134.out _).trans (((cell_far (p := ⟨gb134, _, none⟩) NB135_134.out _).trans (hHeld.2.2.2.2.2.2))))⟩ (fun hHeld => ?_)
    clear hK K
    refine pure_ (i := 15) (N := some 4) (v := ?_) (a' := ?_) #[true, true, true, true, true, true, true, true, true, true, true, true, true, true, true, true] rfl rfl (any_of HT_.out (by kernel_rfl)) (fun _ _ _ h => h) (Or.inl ⟨by rfl, ?_⟩) ?_ ?_
    rotate_left
    ·intro w'
     go_simp
     with_reducible rfl
    rotate_left
    ·simp only [Act.put, List.setIfInBounds_toArray, List.set_cons_zero, List.set_cons_succ, i64_w, i32_w]
     rfl
    refine done_ (done_of HT_.out (by kernel_rfl)) ?_
    try go_wp2
    refine bodyPost_ret (results_list (rs:=[.cell 2 28, .cell 3 30, .tmp 4]) rfl (by simp) (.cell gb133 28 #[.slice A0_0 l0_0.length c0_0, .slice A0_1 l0_1.length c0_1] (0, 0) _ rfl (by (with_reducible repeat (first|refine blk_drewN ?_ _|refine blk_drew ?_|refine blk_alloc ?_ _));refine blk_far ?_ NB133_134.out _;(with_reducible repeat (first|refine blk_drewN ?_ _|refine blk_drew ?_|refine blk_alloc ?_ _));refine blk_far ?_ NB133_134.out _;(with_reducible repeat (first|refine blk_drewN ?_ _|refine blk_drew ?_|refine blk_alloc ?_ _));refine blk_put (cs:=#[.slice A0_0 l0_0.length c0_0, .slice none 0 0]) ?_ 1 _ rfl;(with_reducible repeat (first|refine blk_drewN ?_ _|refine blk_drew ?_|refine blk_alloc ?_ _));refine blk_put (cs:=#[.slice none 0 0, .slice none 0 0]) ?_ 0 _ rfl;(with_reducible repeat (first|refine blk_drewN ?_ _|refine blk_drew ?_|refine blk_alloc ?_ _));exact BK133.out) Try.underlying28 rfl (by kernel_rfl) (.cell gb134 30 #[.slice A0_0 l0_0.length c0_0, .slice A0_1 l0_1.length c0_1] (0, 0) _ rfl (by (with_reducible repeat (first|refine blk_drewN ?_ _|refine blk_drew ?_|refine blk_alloc ?_ _));refine blk_put (cs:=#[.slice A0_0 l0_0.length c0_0, .slice none 0 0]) ?_ 1 _ rfl;(with_reducible repeat (first|refine blk_drewN ?_ _|refine blk_drew ?_|refine blk_alloc ?_ _));refine blk_put (cs:=#[.slice none 0 0, .slice none 0 0]) ?_ 0 _ rfl;(with_reducible repeat (first|refine blk_drewN ?_ _|refine blk_drew ?_|refine blk_alloc ?_ _));refine blk_far ?_ NB134_133.out _;(with_reducible repeat (first|refine blk_drewN ?_ _|refine blk_drew ?_|refine blk_alloc ?_ _));refine blk_far ?_ NB134_133.out _;(with_reducible repeat (first|refine blk_drewN ?_ _|refine blk_drew ?_|refine blk_alloc ?_ _));exact BK134.out) Try.underlying30 rfl (by kernel_rfl) (.tmp .nil)))) rfl ?_
    exact ⟨_, _, _, _, by first|rfl|(simp [errW_none, errW_some] <;> rfl)|(simp [*, errW_none, errW_some] <;> rfl), by (with_reducible repeat (first|apply Kd.V_alloc|apply Kd.V_drewN|apply Kd.V_drew));exact Kd.V_mono (Kd.V_far (p:=⟨gb134, 1, none⟩) (Kd.V_far (p:=⟨gb134, 0, none⟩) (Kd.V_far (p:=⟨gb133, 1, none⟩) (Kd.V_far (p:=⟨gb133, 0, none⟩) (Kd.V_mono (Kd.V_mono HO_133000.out (fun k_ hk => (⟨hk, hk.2.2.1⟩ : _ ∧ k_ ≠ gb133))) (fun k_ hk => (⟨hk, hk.1.2.2.2.1⟩ : _ ∧ k_ ≠ gb134))) (fun _ hk => hk.1.2) (.slice A0_0 l0_0.length c0_0)) (fun _ hk => hk.1.2) (.slice A0_1 l0_1.length c0_1)) (fun _ hk => hk.2) (.slice A0_0 l0_0.length c0_0)) (fun _ hk => hk.2) (.slice A0_1 l0_1.length c0_1)) (fun _ hk => hk.1.1.1), by (with_reducible repeat (first|apply Kd.V_alloc|apply Kd.V_drewN|apply Kd.V_drew));exact Kd.V_mono (Kd.V_far (p:=⟨gb134, 1, none⟩) (Kd.V_far (p:=⟨gb134, 0, none⟩) (Kd.V_far (p:=⟨gb133, 1, none⟩) (Kd.V_far (p:=⟨gb133, 0, none⟩) (Kd.V_mono (Kd.V_mono HO_133001.out (fun k_ hk => (⟨hk, hk.2.2.1⟩ : _ ∧ k_ ≠ gb133))) (fun k_ hk => (⟨hk, hk.1.2.2.2.1⟩ : _ ∧ k_ ≠ gb134))) (fun _ hk => hk.1.2) (.slice A0_0 l0_0.length c0_0)) (fun _ hk => hk.1.2) (.slice A0_1 l0_1.length c0_1)) (fun _ hk => hk.2) (.slice A0_0 l0_0.length c0_0)) (fun _ hk => hk.2) (.slice A0_1 l0_1.length c0_1)) (fun _ hk => hk.1.1.1), by (with_reducible repeat (first|apply Kd.V_alloc|apply Kd.V_drewN|apply Kd.V_drew));exact Kd.V_mono (Kd.V_far (p:=⟨gb134, 1, none⟩) (Kd.V_far (p:=⟨gb134, 0, none⟩) (Kd.V_far (p:=⟨gb133, 1, none⟩) (Kd.V_far (p:=⟨gb133, 0, none⟩) (Kd.V_mono (Kd.V_mono HO_133000.out (fun k_ hk => (⟨hk, hk.2.2.1⟩ : _ ∧ k_ ≠ gb133))) (fun k_ hk => (⟨hk, hk.1.2.2.2.1⟩ : _ ∧ k_ ≠ gb134))) (fun _ hk => hk.1.2) (.slice A0_0 l0_0.length c0_0)) (fun _ hk => hk.1.2) (.slice A0_1 l0_1.length c0_1)) (fun _ hk => hk.2) (.slice A0_0 l0_0.length c0_0)) (fun _ hk => hk.2) (.slice A0_1 l0_1.length c0_1)) (fun _ hk => hk.1.1.1), by (with_reducible repeat (first|apply Kd.V_alloc|apply Kd.V_drewN|apply Kd.V_drew));exact Kd.V_mono (Kd.V_far (p:=⟨gb134, 1, none⟩) (Kd.V_far (p:=⟨gb134, 0, none⟩) (Kd.V_far (p:=⟨gb133, 1, none⟩) (Kd.V_far (p:=⟨gb133, 0, none⟩) (Kd.V_mono (Kd.V_mono HO_133001.out (fun k_ hk => (⟨hk, hk.2.2.1⟩ : _ ∧ k_ ≠ gb133))) (fun k_ hk => (⟨hk, hk.1.2.2.2.1⟩ : _ ∧ k_ ≠ gb134))) (fun _ hk => hk.1.2) (.slice A0_0 l0_0.length c0_0)) (fun _ hk => hk.1.2) (.slice A0_1 l0_1.length c0_1)) (fun _ hk => hk.2) (.slice A0_0 l0_0.length c0_0)) (fun _ hk => hk.2) (.slice A0_1 l0_1.length c0_1)) (fun _ hk => hk.1.1.1), by repeat (first|(with_reducible first|exact HB.out|apply below_alloc|apply pw_below_drewN|apply below_drew1|refine below_set ?_ GE132.out|refine below_set ?_ GE133.out|refine below_set ?_ GE134.out|refine below_set ?_ GE135.out)|exact HB.out)⟩

end Go.Proofs.Ytdgjjdpeaohebaa.PMarksTake
namespace Go.Proofs.Ytdgjjdpeaohebaa.Pure
open Go.RowKit Go.Proofs.YtdgjjdpeaohebaaPl Go.Proofs.Ytdgjjdpeaohebaa.PMarksTake Go.Proofs.YtdgjjdpeaohebaaW.PrintWords Go.Proofs.YtdgjjdpeaohebaaW.PrintLast Go.Proofs.YtdgjjdpeaohebaaW.PrintMore
set_option linter.unusedSimpArgs false
set_option linter.unusedVariables false
/-- May a case be asked? -/
def caseB (xs : List S26) (ys : List S38) (n a b : Int) : Bool :=
  decide (0 ≤ n) && decide (n ≤ 2000) && decide (0 ≤ a) && decide (a ≤ b) && decide (b ≤ n) && decide (xs.length ≤ 2000) && decide (ys.length ≤ 300) && rightB n xs ys
theorem law_right_j0 (xs : List S26) (ys : List S38) (n a b : Int) (hm : xs.length ≤ 140737488351232) (hn : ys.length ≤ 140737488351232) (c : Bool) :
    Ev (fun k => chancellaw04_right.j0 k c xs ys n a b) (xs, ys, xs, ys, c && rightB n xs ys) := by
  cases c with
  | true =>
    refine ev_next (fun k => by simp only [chancellaw04_right.j0, if_true]) (Ev.bind (f := fun _ t => some (xs, ys, xs, ys, t)) (ref_Right_ev n xs ys hm hn) ?_)
    rw [Bool.true_and]
    exact Ev.now _
  | false => exact ev_next (f := fun _ => some (xs, ys, xs, ys, false)) (fun k => by simp only [chancellaw04_right.j0, Bool.false_eq_true, if_false]) (Ev.now _)
theorem law_right_ev (xs : List S26) (ys : List S38) (n a b : Int) (hm : xs.length ≤ 140737488351232) (hn : ys.length ≤ 140737488351232) :
    Ev (fun k => chancellaw04_right.f k xs ys n a b) (xs, ys, xs, ys, caseB xs ys n a b) := by
  unfold chancellaw04_right.f caseB
  have z := law_right_j0 xs ys n a b hm hn false
  by_cases h1 : n ≥ 0
  · by_cases h2 : n ≤ 2000
    · by_cases h3 : a ≥ 0
      · by_cases h4 : a ≤ b
        · by_cases h5 : b ≤ n
          · by_cases h6 : (xs.length : Int) ≤ 2000
            · have y := law_right_j0 xs ys n a b hm hn (decide ((ys.length : Int) ≤ 300))
              simp only [if_pos h1, if_pos h2, if_pos h3, if_pos h4, if_pos h5, if_pos h6]
              have e : (decide (0 ≤ n) && decide (n ≤ 2000) && decide (0 ≤ a) && decide (a ≤ b) && decide (b ≤ n) && decide (xs.length ≤ 2000) && decide (ys.length ≤ 300) && rightB n xs ys) = (decide ((ys.length : Int) ≤ 300) && rightB n xs ys) := by
                rw [decide_eq_true (p := 0 ≤ n) h1, decide_eq_true h2, decide_eq_true (p := 0 ≤ a) h3, decide_eq_true h4, decide_eq_true h5, decide_eq_true (p := xs.length ≤ 2000) (by omega)]
                rw [show decide ((ys.length : Int) ≤ 300) = decide (ys.length ≤ 300) from decide_eq_decide.2 (by omega)]
                simp
              rw [e]
              exact y
            · simp only [if_pos h1, if_pos h2, if_pos h3, if_pos h4, if_pos h5, if_neg h6]
              rw [decide_eq_false (p := xs.length ≤ 2000) (by omega)]
              simpa using z
          · simp only [if_pos h1, if_pos h2, if_pos h3, if_pos h4, if_neg h5]
            rw [decide_eq_false (p := b ≤ n) h5]
            simpa using z
        · simp only [if_pos h1, if_pos h2, if_pos h3, if_neg h4]
          rw [decide_eq_false (p := a ≤ b) h4]
          simpa using z
      · simp only [if_pos h1, if_pos h2, if_neg h3]
        rw [decide_eq_false (p := 0 ≤ a) h3]
        simpa using z
    · simp only [if_pos h1, if_neg h2]
      rw [decide_eq_false h2]
      simpa using z
  · simp only [if_neg h1]
    rw [decide_eq_false (p := 0 ≤ n) h1]
    simpa using z
end Go.Proofs.Ytdgjjdpeaohebaa.Pure
/- Marks: what the laws share: chancellaw04.right's contract, marks as arguments. Conditions: at most 2^40 spans and sites. -/
namespace Go.Proofs.Ytdgjjdpeaohebaa.Mk
open Go.RowKit Go.Proofs.YtdgjjdpeaohebaaW.PrintWords Go.Proofs.YtdgjjdpeaohebaaW.PrintLast Go.Proofs.YtdgjjdpeaohebaaW.PrintMore Go.Proofs.Ytdgjjdpeaohebaa.PMarksTake Go.Proofs.Ytdgjjdpeaohebaa.Pure
set_option linter.unusedVariables false
set_option linter.unusedSimpArgs false
theorem heapSp : Kd.Heap k26 := Kd.heap_iso _ (Kd.heap_pair (Kd.heap_int .i64) (Kd.heap_pair (Kd.heap_int .i64) (Kd.heap_int .i64)))
theorem heapY : Kd.Heap k38 := Kd.heap_iso _ (Kd.heap_pair (Kd.heap_int .i64) (Kd.heap_int .i64))
/-- Marks in memory. -/
def MkC (w : World) (A : Option Addr) (c : Nat) (B : Option Addr) (d : Nat) (xs : List Sp) (ys : List SY) : Prop := xs.length ≤ c ∧ ys.length ≤ d ∧ Kd.C kSp w A xs.length xs ∧ Kd.C kY w B ys.length ys
theorem MkC.below {w W : World} {A : Option Addr} {c : Nat} {B : Option Addr} {d : Nat} {xs : List Sp} {ys : List SY} (h : MkC w A c B d xs ys) (hb : Below w.heap.size w W) : MkC W A c B d xs ys := ⟨h.1, h.2.1, Kd.C_below h.2.2.1 hb, Kd.C_below h.2.2.2 hb⟩
/-- A value is marks. -/
def IsMk (w : World) (v : Value) (xs : List Sp) (ys : List SY) : Prop := ∃ A c B d, v = .agg #[.slice A xs.length c, .slice B ys.length d] ∧ MkC w A c B d xs ys
theorem RetMk.is {o : List Sp} {zs : List SY} {w : World} {e : Ending} {w' : World} (h : RetMk o zs w e w') : ∃ A c B d, e = .returned (.agg #[.slice A o.length c, .slice B zs.length d]) ∧ MkC w' A c B d o zs ∧ Below w.heap.size w w' := by
  obtain ⟨A, c, B, d, e, h1, h2, hb⟩ := h
  exact ⟨A, c, B, d, e, ⟨(Kd.R_reads' h1).2.1, (Kd.R_reads' h2).2.1, (Kd.R_reads' h1).2.2, (Kd.R_reads' h2).2.2⟩, hb⟩
theorem right_calls (A : Option Addr) (c : Nat) (xs : List Sp) (B : Option Addr) (d : Nat) (ys : List SY) (n a b : Int) (w : World) (hr : Kd.C kSp w A xs.length xs) (hc : xs.length ≤ c) (hs : Kd.C kY w B ys.length ys) (hd : ys.length ≤ d) (hl : xs.length ≤ 8796093022208) (hly : ys.length ≤ 8796093022208) :
    Calls Try.prog 12 #[.agg #[.slice A xs.length c, .slice B ys.length d, .int .i64 n, .int .i64 a, .int .i64 b]] w fun e w' => ∃ v1 v2, e = .returned (.tuple #[v1, v2, .bool (caseB xs ys n a b)]) ∧ IsMk w' v1 xs ys ∧ IsMk w' v2 xs ys ∧ Below w.heap.size w w' := by
  obtain ⟨k, hk⟩ := Go.Proofs.YtdgjjdpeaohebaaW.PrintWords.Ev.rounds (law_right_ev xs ys n a b (by omega) (by omega))
  refine (chancellaw04_right.calls k _ A c xs _ B d ys n a b xs ys xs ys _ w (Kd.V_mk hc (Kd.C_F heapSp hr)) (Kd.V_mk hd (Kd.C_F heapY hs)) hk).mono ?_
  rintro e w' ⟨v0, v1, v2, v3, rfl, h0, h1, h2, h3, hb⟩
  obtain ⟨A0, c0, e0⟩ := Kd.V_slice h0
  obtain ⟨A1, c1, e1⟩ := Kd.V_slice h1
  obtain ⟨A2, c2, e2⟩ := Kd.V_slice h2
  obtain ⟨A3, c3, e3⟩ := Kd.V_slice h3
  subst e0 e1 e2 e3
  exact ⟨_, _, rfl, ⟨A0, c0, A1, c1, rfl, (Kd.V_reads' h0).2.1, (Kd.V_reads' h1).2.1, (Kd.V_reads' h0).2.2, (Kd.V_reads' h1).2.2⟩, ⟨A2, c2, A3, c3, rfl, (Kd.V_reads' h2).2.1, (Kd.V_reads' h3).2.1, (Kd.V_reads' h2).2.2, (Kd.V_reads' h3).2.2⟩, hb⟩
theorem same_calls (A : Option Addr) (c : Nat) (B : Option Addr) (d : Nat) (A2 : Option Addr) (c2 : Nat) (B2 : Option Addr) (d2 : Nat) (xs : List Sp) (ys : List SY) (w : World) (hr : Kd.C kSp w A xs.length xs) (hc : xs.length ≤ c) (hs : Kd.C kY w B ys.length ys) (hd : ys.length ≤ d) (hr2 : Kd.C kSp w A2 xs.length xs) (hc2 : xs.length ≤ c2) (hs2 : Kd.C kY w B2 ys.length ys) (hd2 : ys.length ≤ d2) (hl : xs.length ≤ 8796093022208) (hly : ys.length ≤ 8796093022208) :
    Calls Try.prog 17 #[.agg #[.slice A xs.length c, .slice B ys.length d], .agg #[.slice A2 xs.length c2, .slice B2 ys.length d2]] w fun e w' => e = .returned (.bool true) ∧ Below w.heap.size w w' := by
  obtain ⟨k, hk⟩ := Go.Proofs.YtdgjjdpeaohebaaW.PrintWords.Ev.rounds (law_same_ev xs ys (by omega) (by omega))
  exact chancellaw04_same.calls k A c xs B d ys A2 c2 xs B2 d2 ys true w hr hc hs hd hr2 hc2 hs2 hd2 hk
theorem rightM_calls (A : Option Addr) (c : Nat) (B : Option Addr) (d : Nat) (xs : List Sp) (ys : List SY) (n : Int) (w : World) (hr : Kd.C kSp w A xs.length xs) (hc : xs.length ≤ c) (hs : Kd.C kY w B ys.length ys) (hd : ys.length ≤ d) (hl : xs.length ≤ 8796093022208) (hly : ys.length ≤ 8796093022208) :
    Calls Try.prog 9 #[.agg #[.slice A xs.length c, .slice B ys.length d], .int .i64 n] w fun e w' => e = .returned (.bool (rightB n xs ys)) ∧ Below w.heap.size w w' := by
  obtain ⟨k, hk⟩ := Go.Proofs.YtdgjjdpeaohebaaW.PrintWords.Ev.rounds (marks_Right_ev n xs ys (by omega) (by omega))
  exact marks_Right.calls k A c xs B d ys n _ w hr hc hs hd hk
theorem case_iff {xs : List Sp} {ys : List SY} {n a b : Int} : caseB xs ys n a b = true ↔ 0 ≤ n ∧ n ≤ 2000 ∧ 0 ≤ a ∧ a ≤ b ∧ b ≤ n ∧ xs.length ≤ 2000 ∧ ys.length ≤ 300 ∧ rightB n xs ys = true := by
  unfold caseB
  simp only [Bool.and_eq_true, decide_eq_true_eq, and_assoc]
theorem right_iff {xs : List Sp} {ys : List SY} {n : Int} : rightB n xs ys = true ↔ spansOk n none xs = true ∧ sitesOk n none ys = true := by unfold rightB; rw [Bool.and_eq_true]
/-- Sites that are moved within the bounds are right, each once in order. -/
theorem norm_right {n n' : Int} {ys : List SY} {f : Int → Int} (h : sitesOk n none ys = true) (hf : ∀ p, 0 ≤ p → p ≤ n → 0 ≤ f p ∧ f p ≤ n') : sitesOk n' none (normY (ys.map (mvY f))) = true := by
  obtain ⟨h1, h2, _⟩ := (sitesOk_iff n none ys).1 h
  refine (sitesOk_iff n' none _).2 ⟨fun s hs => ?_, (normY_ok _).1, fun q hq => by cases hq⟩
  obtain ⟨y, hy, rfl⟩ := List.mem_map.1 (((normY_ok _).2 s).1 hs)
  have := h1 y hy
  exact ⟨this.1, hf y.f1 this.2.1 this.2.2⟩
/-- What a law keeps: the case, and two marks of its own. -/
structure L3 (w : World) (g3 g8 g9 : Nat) (c3 c8 c9 : Array Value) (W : World) : Prop where
  b : Below w.heap.size w W
  h3 : W.heap[g3]? = some (.cells c3 33 (0, 0))
  h8 : W.heap[g8]? = some (.cells c8 28 (0, 0))
  h9 : W.heap[g9]? = some (.cells c9 30 (0, 0))
theorem L3.next {w W W' : World} {g3 g8 g9 : Nat} {c3 c8 c9 : Array Value} (h : L3 w g3 g8 g9 c3 c8 c9 W) (hb : Below W.heap.size W W') : L3 w g3 g8 g9 c3 c8 c9 W' := ⟨below_step h.b hb, blk_below h.h3 hb, blk_below h.h8 hb, blk_below h.h9 hb⟩
theorem two_set {W : World} {g8 g9 : Nat} {a8 b8 a9 b9 : Value} (h8 : W.heap[g8]? = some (.cells #[a8, b8] 28 (0, 0))) (h9 : W.heap[g9]? = some (.cells #[a9, b9] 30 (0, 0))) (p q r s : Value) :
    ((((W.setCell ⟨g8, 0, none⟩ p).setCell ⟨g8, 1, none⟩ q).setCell ⟨g9, 0, none⟩ r).setCell ⟨g9, 1, none⟩ s).heap[g8]? = some (.cells #[p, q] 28 (0, 0)) ∧ ((((W.setCell ⟨g8, 0, none⟩ p).setCell ⟨g8, 1, none⟩ q).setCell ⟨g9, 0, none⟩ r).setCell ⟨g9, 1, none⟩ s).heap[g9]? = some (.cells #[r, s] 30 (0, 0)) := by
  have e8 := blk_set h8 0 p
  have e8' := blk_set e8 1 q
  have e9 := (set_typeM h8 (t := 30) (by decide) 0 p g9 _ h9).trans h9
  have e9' := (set_typeM e8 (t := 30) (by decide) 1 q g9 _ e9).trans e9
  have f9 := blk_set e9' 0 r
  have f9' := blk_set f9 1 s
  have f8 := (set_typeM e9' (t := 28) (by decide) 0 r g8 _ e8').trans e8'
  have f8' := (set_typeM f9 (t := 28) (by decide) 1 s g8 _ f8).trans f8
  exact ⟨by simpa using f8', by simpa using f9'⟩
/-- What is read at a law's end. -/
abbrev SL (V : World) (g3 gx g9 : Nat) (n a b : Int) (x0 x1 y0 y1 : Value) (W : World) : Prop :=
  W.cell? ⟨g3, 2, none⟩ = some (.int .i64 n) ∧ W.cell? ⟨g3, 3, none⟩ = some (.int .i64 a) ∧ W.cell? ⟨g3, 4, none⟩ = some (.int .i64 b) ∧ W.cell? ⟨gx, 0, none⟩ = some x0 ∧ W.cell? ⟨gx, 1, none⟩ = some x1 ∧ W.cell? ⟨g9, 0, none⟩ = some y0 ∧ W.cell? ⟨g9, 1, none⟩ = some y1 ∧ Below V.heap.size V W
theorem SL.next {V W W' : World} {g3 gx g9 : Nat} {n a b : Int} {x0 x1 y0 y1 : Value} (h : SL V g3 gx g9 n a b x0 x1 y0 y1 W) (hb : Below W.heap.size W W') : SL V g3 gx g9 n a b x0 x1 y0 y1 W' :=
  ⟨pw_cell_below hb h.1, pw_cell_below hb h.2.1, pw_cell_below hb h.2.2.1, pw_cell_below hb h.2.2.2.1, pw_cell_below hb h.2.2.2.2.1, pw_cell_below hb h.2.2.2.2.2.1, pw_cell_below hb h.2.2.2.2.2.2.1, below_step h.2.2.2.2.2.2.2 hb⟩
theorem SL.b {V W : World} {g3 gx g9 : Nat} {n a b : Int} {x0 x1 y0 y1 : Value} (h : SL V g3 gx g9 n a b x0 x1 y0 y1 W) : Below V.heap.size V W := h.2.2.2.2.2.2.2
end Go.Proofs.Ytdgjjdpeaohebaa.Mk
/- Marks: the walk of the law MarksPut. Conditions: none beside the row's. -/
namespace Go.Proofs.Ytdgjjdpeaohebaa.Mk
open Go.RowKit Go.Proofs.YtdgjjdpeaohebaaW.PrintWords Go.Proofs.YtdgjjdpeaohebaaW.PrintLast Go.Proofs.YtdgjjdpeaohebaaW.PrintMore Go.Proofs.Ytdgjjdpeaohebaa.PMarksTake Go.Proofs.Ytdgjjdpeaohebaa.Pure
set_option linter.unusedVariables false
set_option linter.unusedSimpArgs false
theorem toP_eq {a k p : Int} (ha : 0 ≤ a) (hk : 0 ≤ k ∧ k ≤ 300) (hp : 0 ≤ p ∧ p ≤ 2000) : toP a k p = if p > a then p + k else p := by
  unfold toP
  split
  · exact IntWalk.i64_in _ (by omega)
  · rfl
set_option maxRecDepth 1000000 in
set_option maxHeartbeats 8000000 in
theorem marksPut_walk (A0 : Option Addr) (c0 : Nat) (xs : List Sp) (B0 : Option Addr) (d0 : Nat) (ys : List SY) (n a b k m : Int) (w : World) (hr : Kd.C kSp w A0 xs.length xs) (hc : xs.length ≤ c0) (hs : Kd.C kY w B0 ys.length ys) (hd : ys.length ≤ d0) (hlx : xs.length ≤ 8796093022208) (hly : ys.length ≤ 8796093022208) :
    Calls Try.prog 6 #[.agg #[.slice A0 xs.length c0, .slice B0 ys.length d0, .int .i64 n, .int .i64 a, .int .i64 b], .int .i64 k, .int .i64 m] w fun e w' => e = .returned (.bool true) ∧ Below w.heap.size w w' := by
  have HR := Lib.hid hr
  have HS := Lib.hid hs
  clear hr hs
  obtain ⟨c3, hc3⟩ : ∃ c : Array Value, c = #[.slice A0 xs.length c0, .slice B0 ys.length d0, .int .i64 n, .int .i64 a, .int .i64 b] := ⟨_, rfl⟩
  have HC3 := Lib.hid hc3
  clear hc3
  go_enter Try.func6, Try.ntmps6
  go_upto_region 1 with fail
  refine gen2 (φ := fun W => Code.wp _ _ _ _ W) (P := fun W => Below w.heap.size w W ∧ W.heap[w.heap.size]? = some (.cells c3 33 (0, 0))) ⟨below_alloc (Below.refl _ _) _, by rw [HC3.out]; exact blk_new w _⟩ ?_
  rintro V0 ⟨hb0, h30⟩
  have B0_ := Lib.hid hb0
  have X3 := Lib.hid h30
  clear hb0 h30
  go_upto_region 2 with (first | (go_at_call 21; refine (put_calls none 0 [] none 0 [] 1 2 7 _ (Kd.C_nil kSp _) (Nat.le_refl _) (Kd.C_nil kY _) (Nat.le_refl _) (by decide) (by decide) (by decide) (by decide) (by simp)).mono ?_; rintro e w1 ha; obtain ⟨A1, c1, B1, d1, e1, h1, h2, hb1⟩ := ha; subst e1; have BP := Lib.hid hb1; have C1 := Lib.hid (show Kd.C kSp w1 A1 1 [(⟨7, 1, 3⟩ : Sp)] from (Kd.R_reads' h1).2.2); clear h1 h2 hb1; (try dsimp only [show (putL 1 2 7 ([] : List Sp)).length = 1 from rfl])) | ((with_reducible refine gate_dst (N := 7) rfl ?_); refine box_event ?hg (N := 7) ?hd (cs := #[.slice none 0 0, .slice none 0 0]) (t := 28) ?hr ?_; (case hd => rfl); (case hg => rfl); (case hr => first | (go_simp; done) | (go_simp; rfl)); intro g7 hg7 w7 hx7 hb7; have GA := Lib.hid (show TBm 28 w1 g7 #[.slice none 0 0, .slice none 0 0] w7 from ⟨hb7, by rw [hg7]; exact Nat.le_refl _, hx7⟩); have q0 := (blk_cell hx7 0).trans rfl; have q1 := (blk_cell hx7 1).trans rfl; have z0 := blk_frozen hx7 0; have z1 := blk_frozen hx7 1; clear hg7 hx7 hb7))
  refine gen2 (φ := fun W => Code.wp _ _ _ _ W) (P := fun W => TBm 28 w1 g7 #[.slice A1 1 c1, .slice B1 0 d1] W) ((GA.out.set 0 (.slice A1 1 c1)).set 1 (.slice B1 0 d1)) ?_
  clear q0 q1 z0 z1 GA
  rintro V1 hV1
  have BV := Lib.hid (below_step (below_step B0_.out BP.out) hV1.b)
  have Y3 := Lib.hid (blk_below (blk_below X3.out BP.out) hV1.b)
  obtain ⟨ad, e1, y0, y1, y2⟩ := at_S (j := 0) (x := ⟨7, 1, 3⟩) (Kd.C_below C1.out hV1.b) rfl (by decide)
  subst e1
  have x0 := (blk_cell hV1.hx 0).trans rfl
  have hx0 : ad.add (0 * 3) = ad := by rw [Nat.zero_mul]; unfold Addr.add; (repeat' split) <;> simp_all
  rw [hx0] at y0 y1 y2
  clear hV1 X3 B0_ C1 BP hx0
  go_upto_region 4 with fail
  clear y0 y1 y2 x0
  have Y3' := Y3.out
  rw [HC3.out] at Y3'
  have f0 := (blk_cell Y3' 0).trans rfl
  have f1 := (blk_cell Y3' 1).trans rfl
  have f2 := (blk_cell Y3' 2).trans rfl
  have f3 := (blk_cell Y3' 3).trans rfl
  have f4 := (blk_cell Y3' 4).trans rfl
  clear Y3'
  obtain ⟨cb, hcb⟩ : ∃ cb, cb = caseB xs ys n a b := ⟨_, rfl⟩
  have HCB := Lib.hid hcb
  clear hcb
  go_upto_region 5 with (first | (go_at_call 12; refine (right_calls A0 c0 xs B0 d0 ys n a b _ (Kd.C_below HR.out BV.out) hc (Kd.C_below HS.out BV.out) hd hlx hly).mono ?_; rintro e w2 ⟨v1, v2, rfl, m1, m2, hb2⟩; rw [← HCB.out]; obtain ⟨A1, c1, B1, d1, e1, m1⟩ := m1; obtain ⟨A2, c2, B2, d2, e2, m2⟩ := m2; subst e1; subst e2; have M1 := Lib.hid m1; have M2 := Lib.hid m2; clear m1 m2; have HB2 := Lib.hid hb2; clear hb2) | ((with_reducible refine gate_dst (N := 8) rfl ?_); refine box_event ?hg (N := 8) ?hd (cs := #[.slice none 0 0, .slice none 0 0]) (t := 28) ?hr ?_; (case hd => rfl); (case hg => rfl); (case hr => first | (go_simp; done) | (go_simp; rfl)); intro g8 hg8 w8 hx8 hb8; have G8 := Lib.hid (show TBm 28 w2 g8 #[.slice none 0 0, .slice none 0 0] w8 from ⟨hb8, by rw [hg8]; exact Nat.le_refl _, hx8⟩); have q80 := (blk_cell hx8 0).trans rfl; have z80 := blk_frozen hx8 0; have q81 := (blk_cell hx8 1).trans rfl; have z81 := blk_frozen hx8 1; clear hg8 hx8 hb8) | ((with_reducible refine gate_dst (N := 9) rfl ?_); refine box_event ?hg (N := 9) ?hd (cs := #[.slice none 0 0, .slice none 0 0]) (t := 30) ?hr ?_; (case hd => rfl); (case hg => rfl); (case hr => first | (go_simp; done) | (go_simp; rfl)); intro g9 hg9 w9 hx9 hb9; have G9 := Lib.hid (show TBm 30 w8 g9 #[.slice none 0 0, .slice none 0 0] w9 from ⟨hb9, by rw [hg9]; exact Nat.le_refl _, hx9⟩); have q90 := (blk_cell hx9 0).trans rfl; have z90 := blk_frozen hx9 0; have q91 := (blk_cell hx9 1).trans rfl; have z91 := blk_frozen hx9 1; have n89 : g8 ≠ g9 := Nat.ne_of_lt (Nat.lt_of_lt_of_le (blk_lt G8.out.hx) G9.out.lo); have n98 : g9 ≠ g8 := n89.symm; clear q80 q81 z80 z81; have q80 := (blk_cell (blk_below G8.out.hx G9.out.b) 0).trans rfl; have q81 := (blk_cell (blk_below G8.out.hx G9.out.b) 1).trans rfl; have z80 := blk_frozen (blk_below G8.out.hx G9.out.b) 0; have z81 := blk_frozen (blk_below G8.out.hx G9.out.b) 1; clear hg9 hx9 hb9))
  refine gen2 (φ := fun W => Code.wp _ _ _ _ W) (P := fun W => L3 w w.heap.size g8 g9 c3 #[.slice A1 xs.length c1, .slice B1 ys.length d1] #[.slice A2 xs.length c2, .slice B2 ys.length d2] W ∧ Below w2.heap.size w2 W) (by
    obtain ⟨t8, t9⟩ := two_set (blk_below G8.out.hx G9.out.b) G9.out.hx (.slice A1 xs.length c1) (.slice B1 ys.length d1) (.slice A2 xs.length c2) (.slice B2 ys.length d2)
    have l8 := G8.out.lo
    have l9 := G9.out.lo
    have b2 := below_set (below_set (below_set (below_set (below_step G8.out.b G9.out.b) l8 (j := 0) (v := .slice A1 xs.length c1)) l8 (j := 1) (v := .slice B1 ys.length d1)) (Nat.le_trans G8.out.b.size l9) (j := 0) (v := .slice A2 xs.length c2)) (Nat.le_trans G8.out.b.size l9) (j := 1) (v := .slice B2 ys.length d2)
    exact ⟨⟨below_step (below_step BV.out HB2.out) b2, blk_below (blk_below Y3.out HB2.out) b2, t8, t9⟩, b2⟩) ?_
  rintro W ⟨hW, hb⟩
  have HW := Lib.hid hW
  have HBW := Lib.hid (below_step HB2.out hb)
  have MX := Lib.hid (M1.out.below hb)
  have MW := Lib.hid (M2.out.below hb)
  clear hW hb f0 f1 f2 f3 f4 BV Y3 G8 G9 M1 M2 HB2 q80 q81 q90 q91 z80 z81 z90 z91 n89 n98
  cases cb with
  | false =>
    go_wp2
    go_ret
    exact ⟨rfl, HW.out.b⟩
  | true =>
    by_cases hk0 : k < 0
    · have dk : decide (k < 0) = true := by simpa using hk0
      go_wp2
      go_ret
      exact ⟨rfl, HW.out.b⟩
    have dk : decide (k < 0) = false := by simpa using hk0
    by_cases hk3 : 300 < k
    · have dk3 : decide (300 < k) = true := by simpa using hk3
      go_wp2
      go_ret
      exact ⟨rfl, HW.out.b⟩
    have dk3 : decide (300 < k) = false := by simpa using hk3
    obtain ⟨i1, i2, i3, i4, i5, i6, i7, i8⟩ := case_iff.1 HCB.out.symm
    obtain ⟨N, rfl⟩ := Int.eq_ofNat_of_zero_le i1
    obtain ⟨P, rfl⟩ := Int.eq_ofNat_of_zero_le i3
    obtain ⟨K, rfl⟩ := Int.eq_ofNat_of_zero_le (show 0 ≤ k by omega)
    obtain ⟨j1, j2⟩ := right_iff.1 i8
    have HX := Lib.hid (ok_each j1)
    have HJ1 := Lib.hid j1
    have HJ2 := Lib.hid j2
    have HI := Lib.hid (show N ≤ 2000 ∧ P ≤ N ∧ K ≤ 300 ∧ xs.length ≤ 2000 ∧ ys.length ≤ 300 by omega)
    obtain ⟨pl, hpl⟩ : ∃ l, l = putL (P : Int) (K : Int) m xs := ⟨_, rfl⟩
    obtain ⟨nz, hnz⟩ : ∃ l, l = normY (ys.map (mvY (toP (P : Int) (K : Int)))) := ⟨_, rfl⟩
    have HPL := Lib.hid hpl
    have HNZ := Lib.hid hnz
    have LP : Hid (pl.length ≤ 8000) := Lib.hid (by
      have h := putGo_len (P : Int) (K : Int) m xs [] false
      have h2 := addL_length (putGo (P : Int) (K : Int) m xs [] false).1 (freshS (P : Int) (K : Int) m)
      rw [hpl]
      unfold putL
      simp only [List.length_nil] at h
      have := HI.out
      split <;> omega)
    have LN : Hid (nz.length ≤ 8000) := Lib.hid (by
      have h := normY_len (ys.map (mvY (toP (P : Int) (K : Int))))
      rw [hnz]
      rw [List.length_map] at h
      have := HI.out
      omega)
    have RB : Hid (rightB ((N : Int) + (K : Int)) pl nz = true) := Lib.hid (right_iff.2 ⟨by rw [hpl]; exact (putL_ok j1 (by omega) (by omega) (by omega)).1, by
      rw [hnz]
      refine norm_right j2 (fun p h0 h1 => ?_)
      rw [toP_eq (by omega) (by omega) (by omega)]
      split <;> omega⟩)
    have Y3' := HW.out.h3
    rw [HC3.out] at Y3'
    have f2 := (blk_cell Y3' 2).trans rfl
    have f3 := (blk_cell Y3' 3).trans rfl
    have f4 := (blk_cell Y3' 4).trans rfl
    have r0 := (blk_cell HW.out.h8 0).trans rfl
    have r1 := (blk_cell HW.out.h8 1).trans rfl
    have wN : IntKind.i64.wrap ((N : Int) + (K : Int)) = (N : Int) + (K : Int) := IntWalk.i64_in _ (by omega)
    clear i1 i2 i3 i4 i5 i6 i7 i8 j1 j2 hpl hnz HCB hk0 hk3 Y3'
    go_upto_region 8 with (first | (go_at_call 21; refine (put_calls A1 c1 xs B1 d1 ys (P : Int) (K : Int) m _ MX.out.2.2.1 MX.out.1 MX.out.2.2.2 MX.out.2.1 (by have := HI.out; omega) (by have := HI.out; omega) (by have := HI.out; omega) (by have := HI.out; omega) (fun x hx => by have := HX.out x hx; have := HI.out; omega)).mono ?_; rintro e w4 ha; rw [← HPL.out, ← HNZ.out] at ha; obtain ⟨A4, c4, B4, d4, e4, m4, hb4⟩ := ha.is; subst e4; have M4 := Lib.hid m4; have HB4 := Lib.hid hb4; clear ha m4 hb4) | ((with_reducible refine gate_dst (N := 11) rfl ?_); refine box_event ?hg (N := 11) ?hd (cs := #[.slice none 0 0, .slice none 0 0]) (t := 28) ?hr ?_; (case hd => rfl); (case hg => rfl); (case hr => first | (go_simp; done) | (go_simp; rfl)); intro g11 hg11 w11 hx11 hb11; have G11 := Lib.hid (show TBm 28 w4 g11 #[.slice none 0 0, .slice none 0 0] w11 from ⟨hb11, by rw [hg11]; exact Nat.le_refl _, hx11⟩); have q110 := (blk_cell hx11 0).trans rfl; have z110 := blk_frozen hx11 0; have q111 := (blk_cell hx11 1).trans rfl; have z111 := blk_frozen hx11 1; clear hg11 hx11 hb11))
    refine gen2 (φ := fun W => Code.wp _ _ _ _ W) (P := fun W => TBm 28 w4 g11 #[.slice A4 pl.length c4, .slice B4 nz.length d4] W) ((G11.out.set 0 (.slice A4 pl.length c4)).set 1 (.slice B4 nz.length d4)) ?_
    rintro V hV
    have BV := Lib.hid (below_step HB4.out hV.b)
    have M4' := Lib.hid (M4.out.below hV.b)
    have MW' := Lib.hid (MW.out.below (below_step HB4.out hV.b))
    have BL := Lib.hid (below_step HW.out.b BV.out)
    have QS := Lib.hid (show SL V w.heap.size g11 g9 (N : Int) (P : Int) b (.slice A4 pl.length c4) (.slice B4 nz.length d4) (.slice A2 xs.length c2) (.slice B2 ys.length d2) V from
      ⟨pw_cell_below BV.out f2, pw_cell_below BV.out f3, pw_cell_below BV.out f4, (blk_cell hV.hx 0).trans rfl, (blk_cell hV.hx 1).trans rfl, (blk_cell (blk_below HW.out.h9 BV.out) 0).trans rfl, (blk_cell (blk_below HW.out.h9 BV.out) 1).trans rfl, Below.refl _ _⟩)
    clear hV f2 f3 f4 r0 r1 q110 q111 z110 z111 G11 M4 MW MX HW HB4 HBW HR HS
    go_region_held3 (fun w' => SL V w.heap.size g11 g9 (N : Int) (P : Int) b (.slice A4 pl.length c4) (.slice B4 nz.length d4) (.slice A2 xs.length c2) (.slice B2 ys.length d2) w')
      (first | (with_reducible assumption) | (with_reducible exact HS22.out) | (with_reducible exact HS17.out) | (with_reducible exact HS9.out) | exact QS.out.next (by (with_reducible repeat (first | exact Below.refl _ _ | apply pw_below_drewN | apply Below.drew | apply below_alloc))))
      (first
      | (go_at_call 22; (refine (refPut_calls A2 c2 xs B2 d2 ys N P K m _ ?ca MW'.out.1 ?cb MW'.out.2.1 ?cc ?cd ?ce ?cf ?cg HJ1.out).mono ?_); (case ca => exact (MW'.out.below (SL.b (‹SL V w.heap.size g11 g9 (N : Int) (P : Int) b (.slice A4 pl.length c4) (.slice B4 nz.length d4) (.slice A2 xs.length c2) (.slice B2 ys.length d2) _›))).2.2.1); (case cb => exact (MW'.out.below (SL.b (‹SL V w.heap.size g11 g9 (N : Int) (P : Int) b (.slice A4 pl.length c4) (.slice B4 nz.length d4) (.slice A2 xs.length c2) (.slice B2 ys.length d2) _›))).2.2.2); (case cc => have := HI.out; omega); (case cd => have := HI.out; omega); (case ce => have := HI.out; omega); (case cf => exact HI.out.2.1); (case cg => have := HI.out; omega); rintro e w5 ha5; rw [← HPL.out, ← HNZ.out] at ha5; obtain ⟨A5, c5, B5, d5, e5, m5, hb5⟩ := ha5.is; subst e5; have M5 := Lib.hid m5; have HS22 := Lib.hid (SL.next (‹SL V w.heap.size g11 g9 (N : Int) (P : Int) b (.slice A4 pl.length c4) (.slice B4 nz.length d4) (.slice A2 xs.length c2) (.slice B2 ys.length d2) _›) hb5); clear ha5 m5 hb5)
      | (go_at_call 17; (refine (same_calls A4 c4 B4 d4 A5 c5 B5 d5 pl nz _ ?da M4'.out.1 ?db M4'.out.2.1 ?dc M5.out.1 ?dd M5.out.2.1 ?de ?df).mono ?_); (case da => exact (M4'.out.below (SL.b (‹SL V w.heap.size g11 g9 (N : Int) (P : Int) b (.slice A4 pl.length c4) (.slice B4 nz.length d4) (.slice A2 xs.length c2) (.slice B2 ys.length d2) _›))).2.2.1); (case db => exact (M4'.out.below (SL.b (‹SL V w.heap.size g11 g9 (N : Int) (P : Int) b (.slice A4 pl.length c4) (.slice B4 nz.length d4) (.slice A2 xs.length c2) (.slice B2 ys.length d2) _›))).2.2.2); (case dc => first | exact M5.out.2.2.1 | exact (M5.out.below (by repeat (first | exact Below.refl _ _ | apply pw_below_drewN | apply Below.drew))).2.2.1); (case dd => first | exact M5.out.2.2.2 | exact (M5.out.below (by repeat (first | exact Below.refl _ _ | apply pw_below_drewN | apply Below.drew))).2.2.2); (case de => have := LP.out; omega); (case df => have := LN.out; omega); rintro e w6 ⟨rfl, hb6⟩; have HS17 := Lib.hid (SL.next (‹SL V w.heap.size g11 g9 (N : Int) (P : Int) b (.slice A4 pl.length c4) (.slice B4 nz.length d4) (.slice A2 xs.length c2) (.slice B2 ys.length d2) _›) hb6); clear hb6)
      | (go_at_call 9; (refine (rightM_calls A4 c4 B4 d4 pl nz ((N : Int) + (K : Int)) _ ?ea M4'.out.1 ?eb M4'.out.2.1 ?ec ?ed).mono ?_); (case ea => exact (M4'.out.below (SL.b (‹SL V w.heap.size g11 g9 (N : Int) (P : Int) b (.slice A4 pl.length c4) (.slice B4 nz.length d4) (.slice A2 xs.length c2) (.slice B2 ys.length d2) _›))).2.2.1); (case eb => exact (M4'.out.below (SL.b (‹SL V w.heap.size g11 g9 (N : Int) (P : Int) b (.slice A4 pl.length c4) (.slice B4 nz.length d4) (.slice A2 xs.length c2) (.slice B2 ys.length d2) _›))).2.2.2); (case ec => have := LP.out; omega); (case ed => have := LN.out; omega); rw [RB.out]; rintro e w7 ⟨rfl, hb7⟩; have HS9 := Lib.hid (SL.next (‹SL V w.heap.size g11 g9 (N : Int) (P : Int) b (.slice A4 pl.length c4) (.slice B4 nz.length d4) (.slice A2 xs.length c2) (.slice B2 ys.length d2) _›) hb7); clear hb7))
    all_goals
      go_wp2
      go_ret
      exact ⟨rfl, below_step BL.out (SL.b (by assumption))⟩
end Go.Proofs.Ytdgjjdpeaohebaa.Mk
