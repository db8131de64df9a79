-- Written by a program of this session around the given print (and over contracts of this session): not checked by anybody but Lean.
import Derived.Test.YtjphmebhofkhcaaDoorPSegAllx0
namespace Go.Proofs.YtjphmebhofkhcaaDoor.PSegAll
open Go.RowKit Go.Proofs.YtjphmebhofkhcaaDoorW.PrintWords Go.Proofs.YtjphmebhofkhcaaDoorW.PrintLast Go.Proofs.YtjphmebhofkhcaaDoorW.PrintMore
attribute [local go_sem] max2_int min2_int max_two min_two max_three min_three max_four min_four   -- for this text's walks alone
set_option linter.unusedVariables false
set_option linter.unusedSimpArgs false

/-! ### chancelref04_Right: function 38 -/
mutual
def chancelref04_Right.l0 : Nat → Int → Int → List (S67) → List (S70) → Option (Bool)
 | 0, _, _, _, _ => none
 | k + 1, x1, x5, x170000, x170001 => if x5 < (x170000.length : Int) then (if 0 ≤ x5 then (if ((rd_T67 x170000 x5).f0) ≤ 0 then (chancelref04_Right.j1 k x1 x5 true x170000 x170001 ((rd_T67 x170000 x5).f0) ((rd_T67 x170000 x5).f1) ((rd_T67 x170000 x5).f2)) else (if ((rd_T67 x170000 x5).f1) < 0 then (chancelref04_Right.j1 k x1 x5 true x170000 x170001 ((rd_T67 x170000 x5).f0) ((rd_T67 x170000 x5).f1) ((rd_T67 x170000 x5).f2)) else (if ((rd_T67 x170000 x5).f2) ≤ ((rd_T67 x170000 x5).f1) then (chancelref04_Right.j1 k x1 x5 true x170000 x170001 ((rd_T67 x170000 x5).f0) ((rd_T67 x170000 x5).f1) ((rd_T67 x170000 x5).f2)) else (chancelref04_Right.j1 k x1 x5 (decide (((rd_T67 x170000 x5).f2) > x1)) x170000 x170001 ((rd_T67 x170000 x5).f0) ((rd_T67 x170000 x5).f1) ((rd_T67 x170000 x5).f2))))) else (none)) else (chancelref04_Right.l1 k x1 0 x170000 x170001)
def chancelref04_Right.j1 : Nat → Int → Int → Bool → List (S67) → List (S70) → Int → Int → Int → Option (Bool)
 | 0, _, _, _, _, _, _, _, _ => none
 | k + 1, x1, x5, x41, x170000, x170001, x172000, x172001, x172002 => if x41 = true then (some false) else (if x5 > 0 then (if 0 ≤ (wrap64 (x5 - 1)) then (if (wrap64 (x5 - 1)) < (x170000.length : Int) then (if x172001 < ((rd_T67 x170000 (wrap64 (x5 - 1))).f2) then (some false) else (if x172001 = ((rd_T67 x170000 (wrap64 (x5 - 1))).f2) then (if x172000 = ((rd_T67 x170000 (wrap64 (x5 - 1))).f0) then (some false) else (chancelref04_Right.l0 k x1 (wrap64 (x5 + 1)) x170000 x170001)) else (chancelref04_Right.l0 k x1 (wrap64 (x5 + 1)) x170000 x170001))) else (none)) else (none)) else (chancelref04_Right.l0 k x1 (wrap64 (x5 + 1)) x170000 x170001))
def chancelref04_Right.l1 : Nat → Int → Int → List (S67) → List (S70) → Option (Bool)
 | 0, _, _, _, _ => none
 | k + 1, x1, x7, x170000, x170001 => if x7 < (x170001.length : Int) then (if 0 ≤ x7 then (if ((rd_T70 x170001 x7).f0) ≤ 0 then (chancelref04_Right.j3 k x1 x7 true x170000 x170001 ((rd_T70 x170001 x7).f0) ((rd_T70 x170001 x7).f1)) else (if ((rd_T70 x170001 x7).f1) < 0 then (chancelref04_Right.j3 k x1 x7 true x170000 x170001 ((rd_T70 x170001 x7).f0) ((rd_T70 x170001 x7).f1)) else (chancelref04_Right.j3 k x1 x7 (decide (((rd_T70 x170001 x7).f1) > x1)) x170000 x170001 ((rd_T70 x170001 x7).f0) ((rd_T70 x170001 x7).f1)))) else (none)) else (some true)
def chancelref04_Right.j3 : Nat → Int → Int → Bool → List (S67) → List (S70) → Int → Int → Option (Bool)
 | 0, _, _, _, _, _, _, _ => none
 | k + 1, x1, x7, x105, x170000, x170001, x177000, x177001 => if x105 = true then (some false) else (if x7 > 0 then (if 0 ≤ (wrap64 (x7 - 1)) then (if (wrap64 (x7 - 1)) < (x170001.length : Int) then (if x177001 < ((rd_T70 x170001 (wrap64 (x7 - 1))).f1) then (some false) else (if x177001 = ((rd_T70 x170001 (wrap64 (x7 - 1))).f1) then (if x177000 ≤ ((rd_T70 x170001 (wrap64 (x7 - 1))).f0) then (some false) else (chancelref04_Right.l1 k x1 (wrap64 (x7 + 1)) x170000 x170001)) else (chancelref04_Right.l1 k x1 (wrap64 (x7 + 1)) x170000 x170001))) else (none)) else (none)) else (chancelref04_Right.l1 k x1 (wrap64 (x7 + 1)) x170000 x170001))
end
def chancelref04_Right.f (k : Nat) (l0_0 : List (S67)) (l0_1 : List (S70)) (a1 : Int) : Option (Bool) := chancelref04_Right.l0 k a1 0 l0_0 l0_1
theorem chancelref04_Right.mono_l : ∀ k, (∀ y0 y1 y2 y3, LeO (chancelref04_Right.l0 k y0 y1 y2 y3) (chancelref04_Right.l0 (k + 1) y0 y1 y2 y3)) ∧ (∀ y0 y1 y2 y3 y4 y5 y6 y7, LeO (chancelref04_Right.j1 k y0 y1 y2 y3 y4 y5 y6 y7) (chancelref04_Right.j1 (k + 1) y0 y1 y2 y3 y4 y5 y6 y7)) ∧ (∀ y0 y1 y2 y3, LeO (chancelref04_Right.l1 k y0 y1 y2 y3) (chancelref04_Right.l1 (k + 1) y0 y1 y2 y3)) ∧ (∀ y0 y1 y2 y3 y4 y5 y6, LeO (chancelref04_Right.j3 k y0 y1 y2 y3 y4 y5 y6) (chancelref04_Right.j3 (k + 1) y0 y1 y2 y3 y4 y5 y6))
 | 0 => ⟨fun _ _ _ _ r h => by simp [chancelref04_Right.l0] at h, fun _ _ _ _ _ _ _ _ r h => by simp [chancelref04_Right.j1] at h, fun _ _ _ _ r h => by simp [chancelref04_Right.l1] at h, fun _ _ _ _ _ _ _ r h => by simp [chancelref04_Right.j3] at h⟩
 | k + 1 => by
  obtain ⟨ih0, ih1, ih2, ih3⟩ := chancelref04_Right.mono_l k
  refine ⟨?_, ?_, ?_, ?_⟩
  ·intro y0 y1 y2 y3
   unfold chancelref04_Right.l0
   repeat' first
   | (with_reducible exact ih0 _ _ _ _)
   | (with_reducible exact ih1 _ _ _ _ _ _ _ _)
   | (with_reducible exact ih2 _ _ _ _)
   | (with_reducible exact ih3 _ _ _ _ _ _ _)
   | (with_reducible exact LeO.refl _)
   | (with_reducible exact LeO.none _)
   | (with_reducible refine LeO.ite ?_ ?_)
   | (with_reducible refine LeO.bind ?_ (fun _ => ?_))
   | exact ih0 _ _ _ _
   | exact ih1 _ _ _ _ _ _ _ _
   | exact ih2 _ _ _ _
   | exact ih3 _ _ _ _ _ _ _
   | exact LeO.none _
   | refine LeO.ite ?_ ?_
   | refine LeO.bind ?_ (fun _ => ?_)
  ·intro y0 y1 y2 y3 y4 y5 y6 y7
   unfold chancelref04_Right.j1
   repeat' first
   | (with_reducible exact ih0 _ _ _ _)
   | (with_reducible exact ih1 _ _ _ _ _ _ _ _)
   | (with_reducible exact ih2 _ _ _ _)
   | (with_reducible exact ih3 _ _ _ _ _ _ _)
   | (with_reducible exact LeO.refl _)
   | (with_reducible exact LeO.none _)
   | (with_reducible refine LeO.ite ?_ ?_)
   | (with_reducible refine LeO.bind ?_ (fun _ => ?_))
   | exact ih0 _ _ _ _
   | exact ih1 _ _ _ _ _ _ _ _
   | exact ih2 _ _ _ _
   | exact ih3 _ _ _ _ _ _ _
   | exact LeO.none _
   | refine LeO.ite ?_ ?_
   | refine LeO.bind ?_ (fun _ => ?_)
  ·intro y0 y1 y2 y3
   unfold chancelref04_Right.l1
   repeat' first
   | (with_reducible exact ih0 _ _ _ _)
   | (with_reducible exact ih1 _ _ _ _ _ _ _ _)
   | (with_reducible exact ih2 _ _ _ _)
   | (with_reducible exact ih3 _ _ _ _ _ _ _)
   | (with_reducible exact LeO.refl _)
   | (with_reducible exact LeO.none _)
   | (with_reducible refine LeO.ite ?_ ?_)
   | (with_reducible refine LeO.bind ?_ (fun _ => ?_))
   | exact ih0 _ _ _ _
   | exact ih1 _ _ _ _ _ _ _ _
   | exact ih2 _ _ _ _
   | exact ih3 _ _ _ _ _ _ _
   | exact LeO.none _
   | refine LeO.ite ?_ ?_
   | refine LeO.bind ?_ (fun _ => ?_)
  ·intro y0 y1 y2 y3 y4 y5 y6
   unfold chancelref04_Right.j3
   repeat' first
   | (with_reducible exact ih0 _ _ _ _)
   | (with_reducible exact ih1 _ _ _ _ _ _ _ _)
   | (with_reducible exact ih2 _ _ _ _)
   | (with_reducible exact ih3 _ _ _ _ _ _ _)
   | (with_reducible exact LeO.refl _)
   | (with_reducible exact LeO.none _)
   | (with_reducible refine LeO.ite ?_ ?_)
   | (with_reducible refine LeO.bind ?_ (fun _ => ?_))
   | exact ih0 _ _ _ _
   | exact ih1 _ _ _ _ _ _ _ _
   | exact ih2 _ _ _ _
   | exact ih3 _ _ _ _ _ _ _
   | exact LeO.none _
   | refine LeO.ite ?_ ?_
   | refine LeO.bind ?_ (fun _ => ?_)
theorem chancelref04_Right.mono : ∀ a0 a1 a2 k, LeO (chancelref04_Right.f k a0 a1 a2) (chancelref04_Right.f (k + 1) a0 a1 a2) := by
 intro a0 a1 a2 k
 obtain ⟨ih0, ih1, ih2, ih3⟩ := chancelref04_Right.mono_l k
 unfold chancelref04_Right.f
 repeat' first
   | (with_reducible exact ih0 _ _ _ _)
   | (with_reducible exact ih1 _ _ _ _ _ _ _ _)
   | (with_reducible exact ih2 _ _ _ _)
   | (with_reducible exact ih3 _ _ _ _ _ _ _)
   | (with_reducible exact LeO.refl _)
   | (with_reducible exact LeO.none _)
   | (with_reducible refine LeO.ite ?_ ?_)
   | (with_reducible refine LeO.bind ?_ (fun _ => ?_))
   | exact ih0 _ _ _ _
   | exact ih1 _ _ _ _ _ _ _ _
   | exact ih2 _ _ _ _
   | exact ih3 _ _ _ _ _ _ _
   | exact LeO.none _
   | refine LeO.ite ?_ ?_
   | refine LeO.bind ?_ (fun _ => ?_)
set_option maxHeartbeats 8000000 in
set_option maxRecDepth 100000 in
theorem chancelref04_Right.calls (k : Nat) (A0_0 : Option Addr) (c0_0 : Nat) (l0_0 : List (S67)) (A0_1 : Option Addr) (c0_1 : Nat) (l0_1 : List (S70)) (a1 : Int) (r : Bool) (w : World) (hr0_0 : Kd.C k67 w A0_0 l0_0.length l0_0) (hc0_0 : l0_0.length ≤ c0_0) (hr0_1 : Kd.C k70 w A0_1 l0_1.length l0_1) (hc0_1 : l0_1.length ≤ c0_1) (h : chancelref04_Right.f k l0_0 l0_1 a1 = some r) :
  Calls Tryd.prog 38 #[.agg #[.slice A0_0 l0_0.length c0_0, .slice A0_1 l0_1.length c0_1], .int .i64 a1] w fun e w' => e = .returned (.bool r) ∧ Below w.heap.size w w' := by
 have hu74 := Tryd.underlying74
 have hu67 := Tryd.underlying67
 have hu70 := Tryd.underlying70
 have HR0_0 := Aside0.mk hr0_0
 have HC0_0 := Aside0.mk hc0_0
 clear hr0_0 hc0_0
 have HR0_1 := Aside0.mk hr0_1
 have HC0_1 := Aside0.mk hc0_1
 clear hr0_1 hc0_1
 have HB := Aside0.mk (Below.refl w.heap.size w)
 have H : (chancelref04_Right.l0 k a1 0 l0_0 l0_1) = some r := h
 clear h
 have H' := Aside0.mk H
 clear H
 go_enter Tryd.func38, Tryd.ntmps38
 go_wp2_with (first|((with_reducible refine gate_dst (N:=2) rfl ?_);refine box_event ?hg (N:=2) ?hd (cs:=#[.slice A0_0 l0_0.length c0_0, .slice A0_1 l0_1.length c0_1]) (t:=74) ?hr ?_;(case hd => rfl);(case hg => rfl);(case hr => first|(go_simp;done)|(go_simp;rfl));intro gb169 hg w3 hbox hb;have n0_:=Aside0.mk (below_step (by repeat (first|(with_reducible first|exact HB.out|apply below_alloc|apply pw_below_drewN|apply below_drew1)|exact HB.out)) hb);have n1_:=Aside0.mk (hbox);have n2_:=Aside0.mk ((by rw [hg];exact (below_size (by repeat (first|(with_reducible first|exact HB.out|apply below_alloc|apply pw_below_drewN|apply below_drew1)|exact HB.out))) : w.heap.size ≤ gb169));have n3_:=Aside0.mk ((by rw [hg];exact (below_size (by repeat (first|(with_reducible first|exact HB.out|apply below_alloc|apply pw_below_drewN|apply below_drew1)|exact HB.out))) : w.heap.size ≤ gb169));clear HB;have HB:=n0_;have BK169:=n1_;have GW169:=n2_;have GE169:=n3_;clear n0_ n1_ n2_ n3_;clear hb hbox hg))
 repeat (go_quiet (first|((with_reducible refine gate_dst (N:=2) rfl ?_);refine box_event ?hg (N:=2) ?hd (cs:=#[.slice A0_0 l0_0.length c0_0, .slice A0_1 l0_1.length c0_1]) (t:=74) ?hr ?_;(case hd => rfl);(case hg => rfl);(case hr => first|(go_simp;done)|(go_simp;rfl));intro gb169 hg w3 hbox hb;have n0_:=Aside0.mk (below_step (by repeat (first|(with_reducible first|exact HB.out|apply below_alloc|apply pw_below_drewN|apply below_drew1)|exact HB.out)) hb);have n1_:=Aside0.mk (hbox);have n2_:=Aside0.mk ((by rw [hg];exact (below_size (by repeat (first|(with_reducible first|exact HB.out|apply below_alloc|apply pw_below_drewN|apply below_drew1)|exact HB.out))) : w.heap.size ≤ gb169));have n3_:=Aside0.mk ((by rw [hg];exact (below_size (by repeat (first|(with_reducible first|exact HB.out|apply below_alloc|apply pw_below_drewN|apply below_drew1)|exact HB.out))) : w.heap.size ≤ gb169));clear HB;have HB:=n0_;have BK169:=n1_;have GW169:=n2_;have GE169:=n3_;clear n0_ n1_ n2_ n3_;clear hb hbox hg));try go_wp2_with (first|((with_reducible refine gate_dst (N:=2) rfl ?_);refine box_event ?hg (N:=2) ?hd (cs:=#[.slice A0_0 l0_0.length c0_0, .slice A0_1 l0_1.length c0_1]) (t:=74) ?hr ?_;(case hd => rfl);(case hg => rfl);(case hr => first|(go_simp;done)|(go_simp;rfl));intro gb169 hg w3 hbox hb;have n0_:=Aside0.mk (below_step (by repeat (first|(with_reducible first|exact HB.out|apply below_alloc|apply pw_below_drewN|apply below_drew1)|exact HB.out)) hb);have n1_:=Aside0.mk (hbox);have n2_:=Aside0.mk ((by rw [hg];exact (below_size (by repeat (first|(with_reducible first|exact HB.out|apply below_alloc|apply pw_below_drewN|apply below_drew1)|exact HB.out))) : w.heap.size ≤ gb169));have n3_:=Aside0.mk ((by rw [hg];exact (below_size (by repeat (first|(with_reducible first|exact HB.out|apply below_alloc|apply pw_below_drewN|apply below_drew1)|exact HB.out))) : w.heap.size ≤ gb169));clear HB;have HB:=n0_;have BK169:=n1_;have GW169:=n2_;have GE169:=n3_;clear n0_ n1_ n2_ n3_;clear hb hbox hg)))
 go_loopg [5] k (fun kq v5 w' => ∃ (x5_1 : Int), v5 = .int .i64 x5_1 ∧ Aside0 (chancelref04_Right.l0 kq a1 x5_1 l0_0 l0_1 = some r) ∧ Aside0 (kq ≤ k) ∧ Aside0 (w'.heap[gb169]? = some (.cells #[(.slice A0_0 l0_0.length c0_0), (.slice A0_1 l0_1.length c0_1)] 74 (0, 0))) ∧ Aside0 (Below w.heap.size w w'))
 case atStart => exact ⟨(0), (by first|rfl|(simp;done)|(simp [*];done)), H', ⟨Nat.le_refl _⟩, ⟨by (with_reducible repeat (first|refine blk_drewN ?_ _|refine blk_drew ?_|refine blk_alloc ?_ _));exact BK169.out⟩, ⟨by repeat (first|(with_reducible first|exact HB.out|apply below_alloc|apply pw_below_drewN|apply below_drew1|refine below_set ?_ GE169.out)|exact HB.out)⟩⟩
 case round =>
  clear H'
  try clear p2
  try clear c3
  obtain ⟨x5_1, rfl, HA, HK1, BK169, HB⟩ := hrel
  cases gk with
  | zero => exact absurd HA.out (by simp [chancelref04_Right.l0])
  | succ k1 =>
   have H := HA.out
   clear HA
   simp only [chancelref04_Right.l0] at H
   by_cases c4 : x5_1 < (l0_0.length : Int)
   ·rw [if_pos c4] at H
    have c4b0 : decide (x5_1 < (l0_0.length : Int)) = true := decide_eq_true c4
    clear c4
    by_cases c5 : 0 ≤ x5_1
    ·rw [if_pos c5] at H
     have c5b0 : decide (0 ≤ x5_1) = true := decide_eq_true c5
     clear c5
     have HC6 := Aside0.mk H
     clear H
     have hcz7_0 : wr.cell? ⟨gb169, 0, none⟩ = some (.slice A0_0 l0_0.length c0_0) := (blk_cell BK169.out 0).trans rfl
     have hcz7_1 : wr.cell? ⟨gb169, 1, none⟩ = some (.slice A0_1 l0_1.length c0_1) := (blk_cell BK169.out 1).trans rfl
     have hfz7_0 := blk_frozen BK169.out 0
     have hfz7_1 := blk_frozen BK169.out 1
     have p170 : 0 ≤ (x5_1 : Int):=of_decide_eq_true (by first|(with_reducible assumption)|assumption)
     have q170 : x5_1 < (l0_0.length : Int):=of_decide_eq_true (by first|(with_reducible assumption)|assumption)
     obtain ⟨ad170, e170, hx170_0, hx170_1, hx170_2⟩ := at_T67 HR0_0.out x5_1 p170 q170
     cases e170
     replace hx170_0 := (HB.out.cell (World.block_lt_of_cell? w _ hx170_0)).trans hx170_0
     replace hx170_1 := (HB.out.cell (World.block_lt_of_cell? w _ hx170_1)).trans hx170_1
     replace hx170_2 := (HB.out.cell (World.block_lt_of_cell? w _ hx170_2)).trans hx170_2
     replace p170 := eq_true p170
     replace q170 := eq_true q170
     go_upto_region 5 with (first|((with_reducible refine gate_dst (N:=6) rfl ?_);refine box_event ?hg (N:=6) ?hd (cs:=#[.int .i64 0, .int .i64 0, .int .i64 0]) (t:=67) ?hr ?_;(case hd => rfl);(case hg => rfl);(case hr => first|(go_simp;done)|(go_simp;rfl));intro gb171 hg w8 hbox hb;have n0_:=Aside0.mk (blk_below (g:=gb169) (o:=.cells #[.slice (some ad170) l0_0.length c0_0, .slice A0_1 l0_1.length c0_1] 74 (0, 0)) (by (with_reducible repeat (first|refine blk_drewN ?_ _|refine blk_drew ?_|refine blk_alloc ?_ _));exact BK169.out) hb);have n1_:=Aside0.mk (below_step (by repeat (first|(with_reducible first|exact HB.out|apply below_alloc|apply pw_below_drewN|apply below_drew1|refine below_set ?_ GE169.out)|exact HB.out)) hb);have n2_:=Aside0.mk (hbox);have n3_:=Aside0.mk ((by rw [hg];exact (below_size (by repeat (first|(with_reducible first|exact HB.out|apply below_alloc|apply pw_below_drewN|apply below_drew1|refine below_set ?_ GE169.out)|exact HB.out))) : w.heap.size ≤ gb171));have n4_:=Aside0.mk ((by rw [hg];exact (below_size (by repeat (first|(with_reducible first|exact HB.out|apply below_alloc|apply pw_below_drewN|apply below_drew1|refine below_set ?_ GE169.out)|exact HB.out))) : w.heap.size ≤ gb171));have n5_:=Aside0.mk ((by rw [hg];exact Nat.ne_of_lt (blk_lt (g:=gb169) (o:=.cells #[.slice (some ad170) l0_0.length c0_0, .slice A0_1 l0_1.length c0_1] 74 (0, 0)) (by (with_reducible repeat (first|refine blk_drewN ?_ _|refine blk_drew ?_|refine blk_alloc ?_ _));exact BK169.out)) : gb169 ≠ gb171));have n6_:=Aside0.mk ((by rw [hg];exact Nat.ne_of_gt (blk_lt (g:=gb169) (o:=.cells #[.slice (some ad170) l0_0.length c0_0, .slice A0_1 l0_1.length c0_1] 74 (0, 0)) (by (with_reducible repeat (first|refine blk_drewN ?_ _|refine blk_drew ?_|refine blk_alloc ?_ _));exact BK169.out)) : gb171 ≠ gb169));clear BK169;clear HB;have BK169:=n0_;have HB:=n1_;have BK171:=n2_;have GW171:=n3_;have GE171:=n4_;have NB169_171:=n5_;have NB171_169:=n6_;clear n0_ n1_ n2_ n3_ n4_ n5_ n6_;clear hb hbox hg;have hnb9:=NB171_169.out;have hnc9:=NB169_171.out;have hcz10_0 : w8.cell? ⟨gb171, 0, none⟩ = some (.int .i64 0):=(blk_cell BK171.out 0).trans rfl;have hcz10_1 : w8.cell? ⟨gb171, 1, none⟩ = some (.int .i64 0):=(blk_cell BK171.out 1).trans rfl;have hcz10_2 : w8.cell? ⟨gb171, 2, none⟩ = some (.int .i64 0):=(blk_cell BK171.out 2).trans rfl;have hfz10_0:=blk_frozen BK171.out 0;have hfz10_1:=blk_frozen BK171.out 1;have hfz10_2:=blk_frozen BK171.out 2))
     repeat (go_quiet (first|((with_reducible refine gate_dst (N:=6) rfl ?_);refine box_event ?hg (N:=6) ?hd (cs:=#[.int .i64 0, .int .i64 0, .int .i64 0]) (t:=67) ?hr ?_;(case hd => rfl);(case hg => rfl);(case hr => first|(go_simp;done)|(go_simp;rfl));intro gb171 hg w8 hbox hb;have n0_:=Aside0.mk (blk_below (g:=gb169) (o:=.cells #[.slice (some ad170) l0_0.length c0_0, .slice A0_1 l0_1.length c0_1] 74 (0, 0)) (by (with_reducible repeat (first|refine blk_drewN ?_ _|refine blk_drew ?_|refine blk_alloc ?_ _));exact BK169.out) hb);have n1_:=Aside0.mk (below_step (by repeat (first|(with_reducible first|exact HB.out|apply below_alloc|apply pw_below_drewN|apply below_drew1|refine below_set ?_ GE169.out)|exact HB.out)) hb);have n2_:=Aside0.mk (hbox);have n3_:=Aside0.mk ((by rw [hg];exact (below_size (by repeat (first|(with_reducible first|exact HB.out|apply below_alloc|apply pw_below_drewN|apply below_drew1|refine below_set ?_ GE169.out)|exact HB.out))) : w.heap.size ≤ gb171));have n4_:=Aside0.mk ((by rw [hg];exact (below_size (by repeat (first|(with_reducible first|exact HB.out|apply below_alloc|apply pw_below_drewN|apply below_drew1|refine below_set ?_ GE169.out)|exact HB.out))) : w.heap.size ≤ gb171));have n5_:=Aside0.mk ((by rw [hg];exact Nat.ne_of_lt (blk_lt (g:=gb169) (o:=.cells #[.slice (some ad170) l0_0.length c0_0, .slice A0_1 l0_1.length c0_1] 74 (0, 0)) (by (with_reducible repeat (first|refine blk_drewN ?_ _|refine blk_drew ?_|refine blk_alloc ?_ _));exact BK169.out)) : gb169 ≠ gb171));have n6_:=Aside0.mk ((by rw [hg];exact Nat.ne_of_gt (blk_lt (g:=gb169) (o:=.cells #[.slice (some ad170) l0_0.length c0_0, .slice A0_1 l0_1.length c0_1] 74 (0, 0)) (by (with_reducible repeat (first|refine blk_drewN ?_ _|refine blk_drew ?_|refine blk_alloc ?_ _));exact BK169.out)) : gb171 ≠ gb169));clear BK169;clear HB;have BK169:=n0_;have HB:=n1_;have BK171:=n2_;have GW171:=n3_;have GE171:=n4_;have NB169_171:=n5_;have NB171_169:=n6_;clear n0_ n1_ n2_ n3_ n4_ n5_ n6_;clear hb hbox hg;have hnb9:=NB171_169.out;have hnc9:=NB169_171.out;have hcz10_0 : w8.cell? ⟨gb171, 0, none⟩ = some (.int .i64 0):=(blk_cell BK171.out 0).trans rfl;have hcz10_1 : w8.cell? ⟨gb171, 1, none⟩ = some (.int .i64 0):=(blk_cell BK171.out 1).trans rfl;have hcz10_2 : w8.cell? ⟨gb171, 2, none⟩ = some (.int .i64 0):=(blk_cell BK171.out 2).trans rfl;have hfz10_0:=blk_frozen BK171.out 0;have hfz10_1:=blk_frozen BK171.out 1;have hfz10_2:=blk_frozen BK171.out 2));go_upto_region 5 with (first|((with_reducible refine gate_dst (N:=6) rfl ?_);refine box_event ?hg (N:=6) ?hd (cs:=#[.int .i64 0, .int .i64 0, .int .i64 0]) (t:=67) ?hr ?_;(case hd => rfl);(case hg => rfl);(case hr => first|(go_simp;done)|(go_simp;rfl));intro gb171 hg w8 hbox hb;have n0_:=Aside0.mk (blk_below (g:=gb169) (o:=.cells #[.slice (some ad170) l0_0.length c0_0, .slice A0_1 l0_1.length c0_1] 74 (0, 0)) (by (with_reducible repeat (first|refine blk_drewN ?_ _|refine blk_drew ?_|refine blk_alloc ?_ _));exact BK169.out) hb);have n1_:=Aside0.mk (below_step (by repeat (first|(with_reducible first|exact HB.out|apply below_alloc|apply pw_below_drewN|apply below_drew1|refine below_set ?_ GE169.out)|exact HB.out)) hb);have n2_:=Aside0.mk (hbox);have n3_:=Aside0.mk ((by rw [hg];exact (below_size (by repeat (first|(with_reducible first|exact HB.out|apply below_alloc|apply pw_below_drewN|apply below_drew1|refine below_set ?_ GE169.out)|exact HB.out))) : w.heap.size ≤ gb171));have n4_:=Aside0.mk ((by rw [hg];exact (below_size (by repeat (first|(with_reducible first|exact HB.out|apply below_alloc|apply pw_below_drewN|apply below_drew1|refine below_set ?_ GE169.out)|exact HB.out))) : w.heap.size ≤ gb171));have n5_:=Aside0.mk ((by rw [hg];exact Nat.ne_of_lt (blk_lt (g:=gb169) (o:=.cells #[.slice (some ad170) l0_0.length c0_0, .slice A0_1 l0_1.length c0_1] 74 (0, 0)) (by (with_reducible repeat (first|refine blk_drewN ?_ _|refine blk_drew ?_|refine blk_alloc ?_ _));exact BK169.out)) : gb169 ≠ gb171));have n6_:=Aside0.mk ((by rw [hg];exact Nat.ne_of_gt (blk_lt (g:=gb169) (o:=.cells #[.slice (some ad170) l0_0.length c0_0, .slice A0_1 l0_1.length c0_1] 74 (0, 0)) (by (with_reducible repeat (first|refine blk_drewN ?_ _|refine blk_drew ?_|refine blk_alloc ?_ _));exact BK169.out)) : gb171 ≠ gb169));clear BK169;clear HB;have BK169:=n0_;have HB:=n1_;have BK171:=n2_;have GW171:=n3_;have GE171:=n4_;have NB169_171:=n5_;have NB171_169:=n6_;clear n0_ n1_ n2_ n3_ n4_ n5_ n6_;clear hb hbox hg;have hnb9:=NB171_169.out;have hnc9:=NB169_171.out;have hcz10_0 : w8.cell? ⟨gb171, 0, none⟩ = some (.int .i64 0):=(blk_cell BK171.out 0).trans rfl;have hcz10_1 : w8.cell? ⟨gb171, 1, none⟩ = some (.int .i64 0):=(blk_cell BK171.out 1).trans rfl;have hcz10_2 : w8.cell? ⟨gb171, 2, none⟩ = some (.int .i64 0):=(blk_cell BK171.out 2).trans rfl;have hfz10_0:=blk_frozen BK171.out 0;have hfz10_1:=blk_frozen BK171.out 1;have hfz10_2:=blk_frozen BK171.out 2)))
     (try simp only [Act.put, List.setIfInBounds_toArray, List.set_cons_zero, List.set_cons_succ])
     go_cut [41] (fun v41 wc => ∃ (kq : Nat) (x41_5 : Bool), v41 = .bool x41_5 ∧ Aside0 (chancelref04_Right.j1 kq a1 x5_1 x41_5 l0_0 l0_1 ((rd_T67 l0_0 x5_1).f0) ((rd_T67 l0_0 x5_1).f1) ((rd_T67 l0_0 x5_1).f2) = some r) ∧ Aside0 (kq ≤ k1) ∧ Aside0 (wc.heap[gb169]? = some (.cells #[(.slice (some ad170) l0_0.length c0_0), (.slice A0_1 l0_1.length c0_1)] 74 (0, 0))) ∧ Aside0 (wc.heap[gb171]? = some (.cells #[.int .i64 ((rd_T67 l0_0 x5_1).f0), .int .i64 ((rd_T67 l0_0 x5_1).f1), .int .i64 ((rd_T67 l0_0 x5_1).f2)] 67 (0, 0))) ∧ Aside0 (Below w.heap.size w wc))
     case first =>
      have H := HC6.out
      clear HC6
      by_cases c11 : ((rd_T67 l0_0 x5_1).f0) ≤ 0
      ·rw [if_pos c11] at H
       have c11b0 : decide (((rd_T67 l0_0 x5_1).f0) ≤ 0) = true := decide_eq_true c11
       clear c11
       (first | rw [c11b0] | (simp only [i64_w, i32_w]; rw [c11b0]) | skip)
       have H' := Aside0.mk H
       clear H
       have hnb12 := NB171_169.out
       have hnc12 := NB169_171.out
       have hcz13_0 : w8.cell? ⟨gb171, 0, none⟩ = some (.int .i64 0) := (blk_cell BK171.out 0).trans rfl
       have hcz13_1 : w8.cell? ⟨gb171, 1, none⟩ = some (.int .i64 0) := (blk_cell BK171.out 1).trans rfl
       have hcz13_2 : w8.cell? ⟨gb171, 2, none⟩ = some (.int .i64 0) := (blk_cell BK171.out 2).trans rfl
       have hfz13_0 := blk_frozen BK171.out 0
       have hfz13_1 := blk_frozen BK171.out 1
       have hfz13_2 := blk_frozen BK171.out 2
       go_wp2
       repeat (go_quiet (fail); try go_wp2)
       go_meet
       case rel => exact ⟨_, (true), (by first|rfl|(simp;done)|(simp [*];done)), H', ⟨by have:=HK1.out;first|omega|exact Nat.le_refl _⟩, ⟨by (with_reducible repeat (first|refine blk_drewN ?_ _|refine blk_drew ?_|refine blk_alloc ?_ _));refine blk_far ?_ NB169_171.out _;(with_reducible repeat (first|refine blk_drewN ?_ _|refine blk_drew ?_|refine blk_alloc ?_ _));refine blk_far ?_ NB169_171.out _;(with_reducible repeat (first|refine blk_drewN ?_ _|refine blk_drew ?_|refine blk_alloc ?_ _));refine blk_far ?_ NB169_171.out _;(with_reducible repeat (first|refine blk_drewN ?_ _|refine blk_drew ?_|refine blk_alloc ?_ _));exact BK169.out⟩, ⟨by (with_reducible repeat (first|refine blk_drewN ?_ _|refine blk_drew ?_|refine blk_alloc ?_ _));refine blk_put (cs:=#[.int .i64 ((rd_T67 l0_0 x5_1).f0), .int .i64 ((rd_T67 l0_0 x5_1).f1), .int .i64 0]) ?_ 2 _ rfl;(with_reducible repeat (first|refine blk_drewN ?_ _|refine blk_drew ?_|refine blk_alloc ?_ _));refine blk_put (cs:=#[.int .i64 ((rd_T67 l0_0 x5_1).f0), .int .i64 0, .int .i64 0]) ?_ 1 _ rfl;(with_reducible repeat (first|refine blk_drewN ?_ _|refine blk_drew ?_|refine blk_alloc ?_ _));refine blk_put (cs:=#[.int .i64 0, .int .i64 0, .int .i64 0]) ?_ 0 _ rfl;(with_reducible repeat (first|refine blk_drewN ?_ _|refine blk_drew ?_|refine blk_alloc ?_ _));exact BK171.out⟩, ⟨by repeat (first|(with_reducible first|exact HB.out|apply below_alloc|apply pw_below_drewN|apply below_drew1|refine below_set ?_ GE169.out|refine below_set ?_ GE171.out)|exact HB.out)⟩⟩
      ·rw [if_neg c11] at H
       have c11b0 : decide (((rd_T67 l0_0 x5_1).f0) ≤ 0) = false := decide_eq_false c11
       clear c11
       (first | rw [c11b0] | (simp only [i64_w, i32_w]; rw [c11b0]) | skip)
       by_cases c14 : ((rd_T67 l0_0 x5_1).f1) < 0
       ·rw [if_pos c14] at H
        have c14b0 : decide (((rd_T67 l0_0 x5_1).f1) < 0) = true := decide_eq_true c14
        clear c14
        have H' := Aside0.mk H
        clear H
        have hnb15 := NB171_169.out
        have hnc15 := NB169_171.out
        have hcz16_0 : w8.cell? ⟨gb171, 0, none⟩ = some (.int .i64 0) := (blk_cell BK171.out 0).trans rfl
        have hcz16_1 : w8.cell? ⟨gb171, 1, none⟩ = some (.int .i64 0) := (blk_cell BK171.out 1).trans rfl
        have hcz16_2 : w8.cell? ⟨gb171, 2, none⟩ = some (.int .i64 0) := (blk_cell BK171.out 2).trans rfl
        have hfz16_0 := blk_frozen BK171.out 0
        have hfz16_1 := blk_frozen BK171.out 1
        have hfz16_2 := blk_frozen BK171.out 2
        go_wp2
        repeat (go_quiet (fail); try go_wp2)
        go_meet
        case rel => exact ⟨_, (true), (by first|rfl|(simp;done)|(simp [*];done)), H', ⟨by have:=HK1.out;first|omega|exact Nat.le_refl _⟩, ⟨by (with_reducible repeat (first|refine blk_drewN ?_ _|refine blk_drew ?_|refine blk_alloc ?_ _));refine blk_far ?_ NB169_171.out _;(with_reducible repeat (first|refine blk_drewN ?_ _|refine blk_drew ?_|refine blk_alloc ?_ _));refine blk_far ?_ NB169_171.out _;(with_reducible repeat (first|refine blk_drewN ?_ _|refine blk_drew ?_|refine blk_alloc ?_ _));refine blk_far ?_ NB169_171.out _;(with_reducible repeat (first|refine blk_drewN ?_ _|refine blk_drew ?_|refine blk_alloc ?_ _));exact BK169.out⟩, ⟨by (with_reducible repeat (first|refine blk_drewN ?_ _|refine blk_drew ?_|refine blk_alloc ?_ _));refine blk_put (cs:=#[.int .i64 ((rd_T67 l0_0 x5_1).f0), .int .i64 ((rd_T67 l0_0 x5_1).f1), .int .i64 0]) ?_ 2 _ rfl;(with_reducible repeat (first|refine blk_drewN ?_ _|refine blk_drew ?_|refine blk_alloc ?_ _));refine blk_put (cs:=#[.int .i64 ((rd_T67 l0_0 x5_1).f0), .int .i64 0, .int .i64 0]) ?_ 1 _ rfl;(with_reducible repeat (first|refine blk_drewN ?_ _|refine blk_drew ?_|refine blk_alloc ?_ _));refine blk_put (cs:=#[.int .i64 0, .int .i64 0, .int .i64 0]) ?_ 0 _ rfl;(with_reducible repeat (first|refine blk_drewN ?_ _|refine blk_drew ?_|refine blk_alloc ?_ _));exact BK171.out⟩, ⟨by repeat (first|(with_reducible first|exact HB.out|apply below_alloc|apply pw_below_drewN|apply below_drew1|refine below_set ?_ GE169.out|refine below_set ?_ GE171.out)|exact HB.out)⟩⟩
       ·rw [if_neg c14] at H
        have c14b0 : decide (((rd_T67 l0_0 x5_1).f1) < 0) = false := decide_eq_false c14
        clear c14
        by_cases c17 : ((rd_T67 l0_0 x5_1).f2) ≤ ((rd_T67 l0_0 x5_1).f1)
        ·rw [if_pos c17] at H
         have c17b0 : decide (((rd_T67 l0_0 x5_1).f2) ≤ ((rd_T67 l0_0 x5_1).f1)) = true := decide_eq_true c17
         clear c17
         have H' := Aside0.mk H
         clear H
         have hnb18 := NB171_169.out
         have hnc18 := NB169_171.out
         have hcz19_0 : w8.cell? ⟨gb171, 0, none⟩ = some (.int .i64 0) := (blk_cell BK171.out 0).trans rfl
         have hcz19_1 : w8.cell? ⟨gb171, 1, none⟩ = some (.int .i64 0) := (blk_cell BK171.out 1).trans rfl
         have hcz19_2 : w8.cell? ⟨gb171, 2, none⟩ = some (.int .i64 0) := (blk_cell BK171.out 2).trans rfl
         have hfz19_0 := blk_frozen BK171.out 0
         have hfz19_1 := blk_frozen BK171.out 1
         have hfz19_2 := blk_frozen BK171.out 2
         go_wp2
         repeat (go_quiet (fail); try go_wp2)
         go_meet
         case rel => exact ⟨_, (true), (by first|rfl|(simp;done)|(simp [*];done)), H', ⟨by have:=HK1.out;first|omega|exact Nat.le_refl _⟩, ⟨by (with_reducible repeat (first|refine blk_drewN ?_ _|refine blk_drew ?_|refine blk_alloc ?_ _));refine blk_far ?_ NB169_171.out _;(with_reducible repeat (first|refine blk_drewN ?_ _|refine blk_drew ?_|refine blk_alloc ?_ _));refine blk_far ?_ NB169_171.out _;(with_reducible repeat (first|refine blk_drewN ?_ _|refine blk_drew ?_|refine blk_alloc ?_ _));refine blk_far ?_ NB169_171.out _;(with_reducible repeat (first|refine blk_drewN ?_ _|refine blk_drew ?_|refine blk_alloc ?_ _));exact BK169.out⟩, ⟨by (with_reducible repeat (first|refine blk_drewN ?_ _|refine blk_drew ?_|refine blk_alloc ?_ _));refine blk_put (cs:=#[.int .i64 ((rd_T67 l0_0 x5_1).f0), .int .i64 ((rd_T67 l0_0 x5_1).f1), .int .i64 0]) ?_ 2 _ rfl;(with_reducible repeat (first|refine blk_drewN ?_ _|refine blk_drew ?_|refine blk_alloc ?_ _));refine blk_put (cs:=#[.int .i64 ((rd_T67 l0_0 x5_1).f0), .int .i64 0, .int .i64 0]) ?_ 1 _ rfl;(with_reducible repeat (first|refine blk_drewN ?_ _|refine blk_drew ?_|refine blk_alloc ?_ _));refine blk_put (cs:=#[.int .i64 0, .int .i64 0, .int .i64 0]) ?_ 0 _ rfl;(with_reducible repeat (first|refine blk_drewN ?_ _|refine blk_drew ?_|refine blk_alloc ?_ _));exact BK171.out⟩, ⟨by repeat (first|(with_reducible first|exact HB.out|apply below_alloc|apply pw_below_drewN|apply below_drew1|refine below_set ?_ GE169.out|refine below_set ?_ GE171.out)|exact HB.out)⟩⟩
        ·rw [if_neg c17] at H
         have c17b0 : decide (((rd_T67 l0_0 x5_1).f2) ≤ ((rd_T67 l0_0 x5_1).f1)) = false := decide_eq_false c17
         clear c17
         have H' := Aside0.mk H
         clear H
         have hnb20 := NB171_169.out
         have hnc20 := NB169_171.out
         have hcz21_0 : w8.cell? ⟨gb171, 0, none⟩ = some (.int .i64 0) := (blk_cell BK171.out 0).trans rfl
         have hcz21_1 : w8.cell? ⟨gb171, 1, none⟩ = some (.int .i64 0) := (blk_cell BK171.out 1).trans rfl
         have hcz21_2 : w8.cell? ⟨gb171, 2, none⟩ = some (.int .i64 0) := (blk_cell BK171.out 2).trans rfl
         have hfz21_0 := blk_frozen BK171.out 0
         have hfz21_1 := blk_frozen BK171.out 1
         have hfz21_2 := blk_frozen BK171.out 2
         go_wp2
         repeat (go_quiet (fail); try go_wp2)
         go_meet
         case rel => exact ⟨_, (decide (((rd_T67 l0_0 x5_1).f2) > a1)), (by first|rfl|(simp;done)|(simp [*];done)), H', ⟨by have:=HK1.out;first|omega|exact Nat.le_refl _⟩, ⟨by (with_reducible repeat (first|refine blk_drewN ?_ _|refine blk_drew ?_|refine blk_alloc ?_ _));refine blk_far ?_ NB169_171.out _;(with_reducible repeat (first|refine blk_drewN ?_ _|refine blk_drew ?_|refine blk_alloc ?_ _));refine blk_far ?_ NB169_171.out _;(with_reducible repeat (first|refine blk_drewN ?_ _|refine blk_drew ?_|refine blk_alloc ?_ _));refine blk_far ?_ NB169_171.out _;(with_reducible repeat (first|refine blk_drewN ?_ _|refine blk_drew ?_|refine blk_alloc ?_ _));exact BK169.out⟩, ⟨by (with_reducible repeat (first|refine blk_drewN ?_ _|refine blk_drew ?_|refine blk_alloc ?_ _));refine blk_put (cs:=#[.int .i64 ((rd_T67 l0_0 x5_1).f0), .int .i64 ((rd_T67 l0_0 x5_1).f1), .int .i64 0]) ?_ 2 _ rfl;(with_reducible repeat (first|refine blk_drewN ?_ _|refine blk_drew ?_|refine blk_alloc ?_ _));refine blk_put (cs:=#[.int .i64 ((rd_T67 l0_0 x5_1).f0), .int .i64 0, .int .i64 0]) ?_ 1 _ rfl;(with_reducible repeat (first|refine blk_drewN ?_ _|refine blk_drew ?_|refine blk_alloc ?_ _));refine blk_put (cs:=#[.int .i64 0, .int .i64 0, .int .i64 0]) ?_ 0 _ rfl;(with_reducible repeat (first|refine blk_drewN ?_ _|refine blk_drew ?_|refine blk_alloc ?_ _));exact BK171.out⟩, ⟨by repeat (first|(with_reducible first|exact HB.out|apply below_alloc|apply pw_below_drewN|apply below_drew1|refine below_set ?_ GE169.out|refine below_set ?_ GE171.out)|exact HB.out)⟩⟩
     case rest =>
      clear HC6
      try clear c1
      try clear p1
      try clear q1
      try clear hx1
      try clear c2
      try clear p2
      try clear c3
      try clear c4
      try clear c4b0
      try clear c5
      try clear c5b0
      try clear c9
      try clear c11
      try clear c11b0
      try clear c12
      try clear c14
      try clear c14b0
      try clear c15
      try clear c17
      try clear c17b0
      try clear p17
      try clear q17
      try clear hx17
      try clear c18
      try clear c20
      try clear hcz10_0
      try clear hcz10_1
      try clear hcz10_2
      try clear hcz13_0
      try clear hcz13_1
      try clear hcz13_2
      try clear hcz16_0
      try clear hcz16_1
      try clear hcz16_2
      try clear hcz19_0
      try clear hcz19_1
      try clear hcz19_2
      try clear hcz21_0
      try clear hcz21_1
      try clear hcz21_2
      try clear hcz7_0
      try clear hcz7_1
      try clear hfz10_0
      try clear hfz10_1
      try clear hfz10_2
      try clear hfz13_0
      try clear hfz13_1
      try clear hfz13_2
      try clear hfz16_0
      try clear hfz16_1
      try clear hfz16_2
      try clear hfz19_0
      try clear hfz19_1
      try clear hfz19_2
      try clear hfz21_0
      try clear hfz21_1
      try clear hfz21_2
      try clear hfz7_0
      try clear hfz7_1
      try clear hx170_0
      try clear hx170_1
      try clear hx170_2
      try clear p170
      try clear p2
      try clear q170
      obtain ⟨kq, x41_5, rfl, HA, HJ5, BK169, BK171, HB⟩ := hcut
      cases kq with
      | zero => exact absurd HA.out (by simp [chancelref04_Right.j1])
      | succ kj5 =>
       have H := HA.out
       clear HA
       simp only [chancelref04_Right.j1] at H
       by_cases c22 : x41_5 = true
       ·subst c22
        have H1 : (some false) = some r := by rw [if_pos rfl] at H; exact H
        clear H
        have H := H1
        clear H1
        obtain rfl := Option.some.inj H
        go_wp2
        repeat (go_quiet (fail); try go_wp2)
        go_ret
        exact ⟨by first|rfl|(simp [errW_none, errW_some] <;> rfl)|(simp [*, errW_none, errW_some] <;> rfl), by repeat (first|(with_reducible first|exact HB.out|apply below_alloc|apply pw_below_drewN|apply below_drew1|refine below_set ?_ GE169.out|refine below_set ?_ GE171.out)|exact HB.out)⟩
       ·replace c22 := Bool.eq_false_iff.mpr c22
        subst c22
        have H1 : (if x5_1 > 0 then (if 0 ≤ (wrap64 (x5_1 - 1)) then (if (wrap64 (x5_1 - 1)) < (l0_0.length : Int) then (if ((rd_T67 l0_0 x5_1).f1) < ((rd_T67 l0_0 (wrap64 (x5_1 - 1))).f2) then (some false) else (if ((rd_T67 l0_0 x5_1).f1) = ((rd_T67 l0_0 (wrap64 (x5_1 - 1))).f2) then (if ((rd_T67 l0_0 x5_1).f0) = ((rd_T67 l0_0 (wrap64 (x5_1 - 1))).f0) then (some false) else (chancelref04_Right.l0 kj5 a1 (wrap64 (x5_1 + 1)) l0_0 l0_1)) else (chancelref04_Right.l0 kj5 a1 (wrap64 (x5_1 + 1)) l0_0 l0_1))) else (none)) else (none)) else (chancelref04_Right.l0 kj5 a1 (wrap64 (x5_1 + 1)) l0_0 l0_1)) = some r := by rw [if_neg (show ¬ (false = true) by decide)] at H; exact H
        clear H
        have H := H1
        clear H1
        by_cases c23 : x5_1 > 0
        ·rw [if_pos c23] at H
         have c23b0 : decide (0 < x5_1) = true := decide_eq_true c23
         clear c23
         obtain ⟨ji24, hji24⟩ : ∃ j_ : Int, (wrap64 (x5_1 - 1)) = j_ := ⟨_, rfl⟩
         replace H : (if 0 ≤ (ji24) then (if (ji24) < (l0_0.length : Int) then (if ((rd_T67 l0_0 x5_1).f1) < ((rd_T67 l0_0 (ji24)).f2) then (some false) else (if ((rd_T67 l0_0 x5_1).f1) = ((rd_T67 l0_0 (ji24)).f2) then (if ((rd_T67 l0_0 x5_1).f0) = ((rd_T67 l0_0 (ji24)).f0) then (some false) else (chancelref04_Right.l0 kj5 a1 (wrap64 (x5_1 + 1)) l0_0 l0_1)) else (chancelref04_Right.l0 kj5 a1 (wrap64 (x5_1 + 1)) l0_0 l0_1))) else (none)) else (none)) = some r := by first | (rw [hji24] at H; exact H) | (simp only [hji24] at H ⊢; exact H)
         have hji24w : (IntKind.i64.wrap (x5_1 - 1)) = ji24 := (i64_w _).trans hji24
         by_cases c25 : 0 ≤ (ji24)
         ·rw [if_pos c25] at H
          have c25b0 : decide (0 ≤ (ji24)) = true := decide_eq_true c25
          clear c25
          by_cases c26 : (ji24) < (l0_0.length : Int)
          ·rw [if_pos c26] at H
           have c26b0 : decide ((ji24) < (l0_0.length : Int)) = true := decide_eq_true c26
           clear c26
           by_cases c27 : ((rd_T67 l0_0 x5_1).f1) < ((rd_T67 l0_0 (ji24)).f2)
           ·rw [if_pos c27] at H
            have c27b0 : decide (((rd_T67 l0_0 x5_1).f1) < ((rd_T67 l0_0 (ji24)).f2)) = true := decide_eq_true c27
            clear c27
            obtain rfl := Option.some.inj H
            have hnb28 := NB171_169.out
            have hnc28 := NB169_171.out
            have hcz29_0 : wc.cell? ⟨gb171, 0, none⟩ = some (.int .i64 ((rd_T67 l0_0 x5_1).f0)) := (blk_cell BK171.out 0).trans rfl
            have hcz29_1 : wc.cell? ⟨gb171, 1, none⟩ = some (.int .i64 ((rd_T67 l0_0 x5_1).f1)) := (blk_cell BK171.out 1).trans rfl
            have hcz29_2 : wc.cell? ⟨gb171, 2, none⟩ = some (.int .i64 ((rd_T67 l0_0 x5_1).f2)) := (blk_cell BK171.out 2).trans rfl
            have hfz29_0 := blk_frozen BK171.out 0
            have hfz29_1 := blk_frozen BK171.out 1
            have hfz29_2 := blk_frozen BK171.out 2
            have hcz30_0 : wc.cell? ⟨gb169, 0, none⟩ = some (.slice (some ad170) l0_0.length c0_0) := (blk_cell BK169.out 0).trans rfl
            have hcz30_1 : wc.cell? ⟨gb169, 1, none⟩ = some (.slice A0_1 l0_1.length c0_1) := (blk_cell BK169.out 1).trans rfl
            have hfz30_0 := blk_frozen BK169.out 0
            have hfz30_1 := blk_frozen BK169.out 1
            have p172 : 0 ≤ ((ji24) : Int):=of_decide_eq_true (by first|(with_reducible assumption)|assumption)
            have q172 : (ji24) < (l0_0.length : Int):=of_decide_eq_true (by first|(with_reducible assumption)|assumption)
            obtain ⟨ad172, e172, hx172_0, hx172_1, hx172_2⟩ := at_T67 HR0_0.out (ji24) p172 q172
            obtain rfl : ad170 = ad172 := (by injection e172)
            replace hx172_0 := (HB.out.cell (World.block_lt_of_cell? w _ hx172_0)).trans hx172_0
            replace hx172_1 := (HB.out.cell (World.block_lt_of_cell? w _ hx172_1)).trans hx172_1
            replace hx172_2 := (HB.out.cell (World.block_lt_of_cell? w _ hx172_2)).trans hx172_2
            replace p172 := eq_true p172
            replace q172 := eq_true q172
            go_wp2
            repeat (go_quiet (fail); try go_wp2)
            go_ret
            exact ⟨by first|rfl|(simp [errW_none, errW_some] <;> rfl)|(simp only [← hji24];first|rfl|(simp [errW_none, errW_some] <;> rfl))|(simp [*, errW_none, errW_some] <;> rfl), by repeat (first|(with_reducible first|exact HB.out|apply below_alloc|apply pw_below_drewN|apply below_drew1|refine below_set ?_ GE169.out|refine below_set ?_ GE171.out)|exact HB.out)⟩
           ·rw [if_neg c27] at H
            have c27b0 : decide (((rd_T67 l0_0 x5_1).f1) < ((rd_T67 l0_0 (ji24)).f2)) = false := decide_eq_false c27
            clear c27
            by_cases c31 : ((rd_T67 l0_0 x5_1).f1) = ((rd_T67 l0_0 (ji24)).f2)
            ·rw [if_pos c31] at H
             have c31b0 : (((rd_T67 l0_0 x5_1).f1) == ((rd_T67 l0_0 (ji24)).f2)) = true := beq_iff_eq.mpr c31
             have c31b1 : (((rd_T67 l0_0 x5_1).f1) != ((rd_T67 l0_0 (ji24)).f2)) = false := bne_eq_false_iff_eq.mpr c31
             clear c31
             by_cases c32 : ((rd_T67 l0_0 x5_1).f0) = ((rd_T67 l0_0 (ji24)).f0)
             ·rw [if_pos c32] at H
              have c32b0 : (((rd_T67 l0_0 x5_1).f0) == ((rd_T67 l0_0 (ji24)).f0)) = true := beq_iff_eq.mpr c32
              have c32b1 : (((rd_T67 l0_0 x5_1).f0) != ((rd_T67 l0_0 (ji24)).f0)) = false := bne_eq_false_iff_eq.mpr c32
              clear c32
              obtain rfl := Option.some.inj H
              have hnb33 := NB171_169.out
              have hnc33 := NB169_171.out
              have hcz34_0 : wc.cell? ⟨gb171, 0, none⟩ = some (.int .i64 ((rd_T67 l0_0 x5_1).f0)) := (blk_cell BK171.out 0).trans rfl
              have hcz34_1 : wc.cell? ⟨gb171, 1, none⟩ = some (.int .i64 ((rd_T67 l0_0 x5_1).f1)) := (blk_cell BK171.out 1).trans rfl
              have hcz34_2 : wc.cell? ⟨gb171, 2, none⟩ = some (.int .i64 ((rd_T67 l0_0 x5_1).f2)) := (blk_cell BK171.out 2).trans rfl
              have hfz34_0 := blk_frozen BK171.out 0
              have hfz34_1 := blk_frozen BK171.out 1
              have hfz34_2 := blk_frozen BK171.out 2
              have hcz35_0 : wc.cell? ⟨gb169, 0, none⟩ = some (.slice (some ad170) l0_0.length c0_0) := (blk_cell BK169.out 0).trans rfl
              have hcz35_1 : wc.cell? ⟨gb169, 1, none⟩ = some (.slice A0_1 l0_1.length c0_1) := (blk_cell BK169.out 1).trans rfl
              have hfz35_0 := blk_frozen BK169.out 0
              have hfz35_1 := blk_frozen BK169.out 1
              have p172 : 0 ≤ ((ji24) : Int):=of_decide_eq_true (by first|(with_reducible assumption)|assumption)
              have q172 : (ji24) < (l0_0.length : Int):=of_decide_eq_true (by first|(with_reducible assumption)|assumption)
              obtain ⟨ad172, e172, hx172_0, hx172_1, hx172_2⟩ := at_T67 HR0_0.out (ji24) p172 q172
              obtain rfl : ad170 = ad172 := (by injection e172)
              replace hx172_0 := (HB.out.cell (World.block_lt_of_cell? w _ hx172_0)).trans hx172_0
              replace hx172_1 := (HB.out.cell (World.block_lt_of_cell? w _ hx172_1)).trans hx172_1
              replace hx172_2 := (HB.out.cell (World.block_lt_of_cell? w _ hx172_2)).trans hx172_2
              replace p172 := eq_true p172
              replace q172 := eq_true q172
              have p173 : 0 ≤ ((ji24) : Int):=of_decide_eq_true (by first|(with_reducible assumption)|assumption)
              have q173 : (ji24) < (l0_0.length : Int):=of_decide_eq_true (by first|(with_reducible assumption)|assumption)
              obtain ⟨ad173, e173, hx173_0, hx173_1, hx173_2⟩ := at_T67 HR0_0.out (ji24) p173 q173
              obtain rfl : ad170 = ad173 := (by injection e173)
              replace hx173_0 := (HB.out.cell (World.block_lt_of_cell? w _ hx173_0)).trans hx173_0
              replace hx173_1 := (HB.out.cell (World.block_lt_of_cell? w _ hx173_1)).trans hx173_1
              replace hx173_2 := (HB.out.cell (World.block_lt_of_cell? w _ hx173_2)).trans hx173_2
              replace p173 := eq_true p173
              replace q173 := eq_true q173
              have p174 : 0 ≤ ((ji24) : Int):=of_decide_eq_true (by first|(with_reducible assumption)|assumption)
              have q174 : (ji24) < (l0_0.length : Int):=of_decide_eq_true (by first|(with_reducible assumption)|assumption)
              obtain ⟨ad174, e174, hx174_0, hx174_1, hx174_2⟩ := at_T67 HR0_0.out (ji24) p174 q174
              obtain rfl : ad170 = ad174 := (by injection e174)
              replace hx174_0 := (HB.out.cell (World.block_lt_of_cell? w _ hx174_0)).trans hx174_0
              replace hx174_1 := (HB.out.cell (World.block_lt_of_cell? w _ hx174_1)).trans hx174_1
              replace hx174_2 := (HB.out.cell (World.block_lt_of_cell? w _ hx174_2)).trans hx174_2
              replace p174 := eq_true p174
              replace q174 := eq_true q174
              go_wp2
              repeat (go_quiet (fail); try go_wp2)
              go_ret
              exact ⟨by first|rfl|(simp [errW_none, errW_some] <;> rfl)|(simp only [← hji24];first|rfl|(simp [errW_none, errW_some] <;> rfl))|(simp [*, errW_none, errW_some] <;> rfl), by repeat (first|(with_reducible first|exact HB.out|apply below_alloc|apply pw_below_drewN|apply below_drew1|refine below_set ?_ GE169.out|refine below_set ?_ GE171.out)|exact HB.out)⟩
             ·rw [if_neg c32] at H
              have c32b0 : (((rd_T67 l0_0 x5_1).f0) == ((rd_T67 l0_0 (ji24)).f0)) = false := beq_eq_false_iff_ne.mpr c32
              have c32b1 : (((rd_T67 l0_0 x5_1).f0) != ((rd_T67 l0_0 (ji24)).f0)) = true := bne_iff_ne.mpr c32
              have H' := Aside0.mk H
              clear H
              have hnb36 := NB171_169.out
              have hnc36 := NB169_171.out
              have hcz37_0 : wc.cell? ⟨gb171, 0, none⟩ = some (.int .i64 ((rd_T67 l0_0 x5_1).f0)) := (blk_cell BK171.out 0).trans rfl
              have hcz37_1 : wc.cell? ⟨gb171, 1, none⟩ = some (.int .i64 ((rd_T67 l0_0 x5_1).f1)) := (blk_cell BK171.out 1).trans rfl
              have hcz37_2 : wc.cell? ⟨gb171, 2, none⟩ = some (.int .i64 ((rd_T67 l0_0 x5_1).f2)) := (blk_cell BK171.out 2).trans rfl
              have hfz37_0 := blk_frozen BK171.out 0
              have hfz37_1 := blk_frozen BK171.out 1
              have hfz37_2 := blk_frozen BK171.out 2
              have hcz38_0 : wc.cell? ⟨gb169, 0, none⟩ = some (.slice (some ad170) l0_0.length c0_0) := (blk_cell BK169.out 0).trans rfl
              have hcz38_1 : wc.cell? ⟨gb169, 1, none⟩ = some (.slice A0_1 l0_1.length c0_1) := (blk_cell BK169.out 1).trans rfl
              have hfz38_0 := blk_frozen BK169.out 0
              have hfz38_1 := blk_frozen BK169.out 1
              have p172 : 0 ≤ ((ji24) : Int):=of_decide_eq_true (by first|(with_reducible assumption)|assumption)
              have q172 : (ji24) < (l0_0.length : Int):=of_decide_eq_true (by first|(with_reducible assumption)|assumption)
              obtain ⟨ad172, e172, hx172_0, hx172_1, hx172_2⟩ := at_T67 HR0_0.out (ji24) p172 q172
              obtain rfl : ad170 = ad172 := (by injection e172)
              replace hx172_0 := (HB.out.cell (World.block_lt_of_cell? w _ hx172_0)).trans hx172_0
              replace hx172_1 := (HB.out.cell (World.block_lt_of_cell? w _ hx172_1)).trans hx172_1
              replace hx172_2 := (HB.out.cell (World.block_lt_of_cell? w _ hx172_2)).trans hx172_2
              replace p172 := eq_true p172
              replace q172 := eq_true q172
              have p173 : 0 ≤ ((ji24) : Int):=of_decide_eq_true (by first|(with_reducible assumption)|assumption)
              have q173 : (ji24) < (l0_0.length : Int):=of_decide_eq_true (by first|(with_reducible assumption)|assumption)
              obtain ⟨ad173, e173, hx173_0, hx173_1, hx173_2⟩ := at_T67 HR0_0.out (ji24) p173 q173
              obtain rfl : ad170 = ad173 := (by injection e173)
              replace hx173_0 := (HB.out.cell (World.block_lt_of_cell? w _ hx173_0)).trans hx173_0
              replace hx173_1 := (HB.out.cell (World.block_lt_of_cell? w _ hx173_1)).trans hx173_1
              replace hx173_2 := (HB.out.cell (World.block_lt_of_cell? w _ hx173_2)).trans hx173_2
              replace p173 := eq_true p173
              replace q173 := eq_true q173
              have p174 : 0 ≤ ((ji24) : Int):=of_decide_eq_true (by first|(with_reducible assumption)|assumption)
              have q174 : (ji24) < (l0_0.length : Int):=of_decide_eq_true (by first|(with_reducible assumption)|assumption)
              obtain ⟨ad174, e174, hx174_0, hx174_1, hx174_2⟩ := at_T67 HR0_0.out (ji24) p174 q174
              obtain rfl : ad170 = ad174 := (by injection e174)
              replace hx174_0 := (HB.out.cell (World.block_lt_of_cell? w _ hx174_0)).trans hx174_0
              replace hx174_1 := (HB.out.cell (World.block_lt_of_cell? w _ hx174_1)).trans hx174_1
              replace hx174_2 := (HB.out.cell (World.block_lt_of_cell? w _ hx174_2)).trans hx174_2
              replace p174 := eq_true p174
              replace q174 := eq_true q174
              go_wp2
              repeat (go_quiet (fail); try go_wp2)
              go_roundg kj5
              case measure => have := HK1.out; have := HJ5.out; omega
              case rel => exact ⟨(wrap64 (x5_1 + 1)), (by first|rfl|(simp;done)|(simp [*];done)), H', ⟨by have:=HK1.out;have:=HJ5.out;omega⟩, ⟨by (with_reducible repeat (first|refine blk_drewN ?_ _|refine blk_drew ?_|refine blk_alloc ?_ _));exact BK169.out⟩, ⟨by repeat (first|(with_reducible first|exact HB.out|apply below_alloc|apply pw_below_drewN|apply below_drew1|refine below_set ?_ GE169.out|refine below_set ?_ GE171.out)|exact HB.out)⟩⟩
            ·rw [if_neg c31] at H
             have c31b0 : (((rd_T67 l0_0 x5_1).f1) == ((rd_T67 l0_0 (ji24)).f2)) = false := beq_eq_false_iff_ne.mpr c31
             have c31b1 : (((rd_T67 l0_0 x5_1).f1) != ((rd_T67 l0_0 (ji24)).f2)) = true := bne_iff_ne.mpr c31
             have H' := Aside0.mk H
             clear H
             have hnb39 := NB171_169.out
             have hnc39 := NB169_171.out
             have hcz40_0 : wc.cell? ⟨gb171, 0, none⟩ = some (.int .i64 ((rd_T67 l0_0 x5_1).f0)) := (blk_cell BK171.out 0).trans rfl
             have hcz40_1 : wc.cell? ⟨gb171, 1, none⟩ = some (.int .i64 ((rd_T67 l0_0 x5_1).f1)) := (blk_cell BK171.out 1).trans rfl
             have hcz40_2 : wc.cell? ⟨gb171, 2, none⟩ = some (.int .i64 ((rd_T67 l0_0 x5_1).f2)) := (blk_cell BK171.out 2).trans rfl
             have hfz40_0 := blk_frozen BK171.out 0
             have hfz40_1 := blk_frozen BK171.out 1
             have hfz40_2 := blk_frozen BK171.out 2
             have hcz41_0 : wc.cell? ⟨gb169, 0, none⟩ = some (.slice (some ad170) l0_0.length c0_0) := (blk_cell BK169.out 0).trans rfl
             have hcz41_1 : wc.cell? ⟨gb169, 1, none⟩ = some (.slice A0_1 l0_1.length c0_1) := (blk_cell BK169.out 1).trans rfl
             have hfz41_0 := blk_frozen BK169.out 0
             have hfz41_1 := blk_frozen BK169.out 1
             have p172 : 0 ≤ ((ji24) : Int):=of_decide_eq_true (by first|(with_reducible assumption)|assumption)
             have q172 : (ji24) < (l0_0.length : Int):=of_decide_eq_true (by first|(with_reducible assumption)|assumption)
             obtain ⟨ad172, e172, hx172_0, hx172_1, hx172_2⟩ := at_T67 HR0_0.out (ji24) p172 q172
             obtain rfl : ad170 = ad172 := (by injection e172)
             replace hx172_0 := (HB.out.cell (World.block_lt_of_cell? w _ hx172_0)).trans hx172_0
             replace hx172_1 := (HB.out.cell (World.block_lt_of_cell? w _ hx172_1)).trans hx172_1
             replace hx172_2 := (HB.out.cell (World.block_lt_of_cell? w _ hx172_2)).trans hx172_2
             replace p172 := eq_true p172
             replace q172 := eq_true q172
             have p173 : 0 ≤ ((ji24) : Int):=of_decide_eq_true (by first|(with_reducible assumption)|assumption)
             have q173 : (ji24) < (l0_0.length : Int):=of_decide_eq_true (by first|(with_reducible assumption)|assumption)
             obtain ⟨ad173, e173, hx173_0, hx173_1, hx173_2⟩ := at_T67 HR0_0.out (ji24) p173 q173
             obtain rfl : ad170 = ad173 := (by injection e173)
             replace hx173_0 := (HB.out.cell (World.block_lt_of_cell? w _ hx173_0)).trans hx173_0
             replace hx173_1 := (HB.out.cell (World.block_lt_of_cell? w _ hx173_1)).trans hx173_1
             replace hx173_2 := (HB.out.cell (World.block_lt_of_cell? w _ hx173_2)).trans hx173_2
             replace p173 := eq_true p173
             replace q173 := eq_true q173
             go_wp2
             repeat (go_quiet (fail); try go_wp2)
             go_roundg kj5
             case measure => have := HK1.out; have := HJ5.out; omega
             case rel => exact ⟨(wrap64 (x5_1 + 1)), (by first|rfl|(simp;done)|(simp [*];done)), H', ⟨by have:=HK1.out;have:=HJ5.out;omega⟩, ⟨by (with_reducible repeat (first|refine blk_drewN ?_ _|refine blk_drew ?_|refine blk_alloc ?_ _));exact BK169.out⟩, ⟨by repeat (first|(with_reducible first|exact HB.out|apply below_alloc|apply pw_below_drewN|apply below_drew1|refine below_set ?_ GE169.out|refine below_set ?_ GE171.out)|exact HB.out)⟩⟩
          ·rw [if_neg c26] at H
           exact absurd H (by simp)
         ·rw [if_neg c25] at H
          exact absurd H (by simp)
        ·rw [if_neg c23] at H
         have c23b0 : decide (0 < x5_1) = false := decide_eq_false c23
         clear c23
         have H' := Aside0.mk H
         clear H
         go_wp2
         repeat (go_quiet (fail); try go_wp2)
         go_roundg kj5
         case measure => have := HK1.out; have := HJ5.out; omega
         case rel => exact ⟨(wrap64 (x5_1 + 1)), (by first|rfl|(simp;done)|(simp [*];done)), H', ⟨by have:=HK1.out;have:=HJ5.out;omega⟩, ⟨by (with_reducible repeat (first|refine blk_drewN ?_ _|refine blk_drew ?_|refine blk_alloc ?_ _));exact BK169.out⟩, ⟨by repeat (first|(with_reducible first|exact HB.out|apply below_alloc|apply pw_below_drewN|apply below_drew1|refine below_set ?_ GE169.out|refine below_set ?_ GE171.out)|exact HB.out)⟩⟩
    ·rw [if_neg c5] at H
     exact absurd H (by simp)
   ·rw [if_neg c4] at H
    have c4b0 : decide (x5_1 < (l0_0.length : Int)) = false := decide_eq_false c4
    clear c4
    have H' := Aside0.mk H
    clear H
    have hcz42_0 : wr.cell? ⟨gb169, 0, none⟩ = some (.slice A0_0 l0_0.length c0_0) := (blk_cell BK169.out 0).trans rfl
    have hcz42_1 : wr.cell? ⟨gb169, 1, none⟩ = some (.slice A0_1 l0_1.length c0_1) := (blk_cell BK169.out 1).trans rfl
    have hfz42_0 := blk_frozen BK169.out 0
    have hfz42_1 := blk_frozen BK169.out 1
    go_wp2
    repeat (go_quiet (fail); try go_wp2)
    go_loopg [7] k1 (fun kq v7 w' => ∃ (x7_2 : Int), v7 = .int .i64 x7_2 ∧ Aside0 (chancelref04_Right.l1 kq a1 x7_2 l0_0 l0_1 = some r) ∧ Aside0 (kq ≤ k1) ∧ Aside0 (w'.heap[gb169]? = some (.cells #[(.slice A0_0 l0_0.length c0_0), (.slice A0_1 l0_1.length c0_1)] 74 (0, 0))) ∧ Aside0 (Below w.heap.size w w'))
    case atStart => exact ⟨(0), (by first|rfl|(simp;done)|(simp [*];done)), H', ⟨Nat.le_refl _⟩, ⟨by (with_reducible repeat (first|refine blk_drewN ?_ _|refine blk_drew ?_|refine blk_alloc ?_ _));exact BK169.out⟩, ⟨by repeat (first|(with_reducible first|exact HB.out|apply below_alloc|apply pw_below_drewN|apply below_drew1|refine below_set ?_ GE169.out)|exact HB.out)⟩⟩
    case round =>
     clear H'
     try clear c1
     try clear p1
     try clear q1
     try clear hx1
     try clear c2
     try clear p2
     try clear c3
     try clear c4
     try clear c4b0
     try clear c5
     try clear c5b0
     try clear p6
     try clear c9
     try clear c11
     try clear c11b0
     try clear c12
     try clear c14
     try clear c14b0
     try clear c15
     try clear c17
     try clear c17b0
     try clear p17
     try clear q17
     try clear hx17
     try clear c18
     try clear c20
     try clear c22
     try clear c23
     try clear c23b0
     try clear c25
     try clear c25b0
     try clear c26
     try clear c26b0
     try clear c27
     try clear c27b0
     try clear c28
     try clear c31
     try clear c31b0
     try clear c31b1
     try clear c32
     try clear c32b0
     try clear c32b1
     try clear c33
     try clear c36
     try clear c38
     try clear c39
     try clear hcz10_0
     try clear hcz10_1
     try clear hcz10_2
     try clear hcz13_0
     try clear hcz13_1
     try clear hcz13_2
     try clear hcz16_0
     try clear hcz16_1
     try clear hcz16_2
     try clear hcz19_0
     try clear hcz19_1
     try clear hcz19_2
     try clear hcz21_0
     try clear hcz21_1
     try clear hcz21_2
     try clear hcz29_0
     try clear hcz29_1
     try clear hcz29_2
     try clear hcz30_0
     try clear hcz30_1
     try clear hcz34_0
     try clear hcz34_1
     try clear hcz34_2
     try clear hcz35_0
     try clear hcz35_1
     try clear hcz37_0
     try clear hcz37_1
     try clear hcz37_2
     try clear hcz38_0
     try clear hcz38_1
     try clear hcz40_0
     try clear hcz40_1
     try clear hcz40_2
     try clear hcz41_0
     try clear hcz41_1
     try clear hcz42_0
     try clear hcz42_1
     try clear hcz7_0
     try clear hcz7_1
     try clear hfz10_0
     try clear hfz10_1
     try clear hfz10_2
     try clear hfz13_0
     try clear hfz13_1
     try clear hfz13_2
     try clear hfz16_0
     try clear hfz16_1
     try clear hfz16_2
     try clear hfz19_0
     try clear hfz19_1
     try clear hfz19_2
     try clear hfz21_0
     try clear hfz21_1
     try clear hfz21_2
     try clear hfz29_0
     try clear hfz29_1
     try clear hfz29_2
     try clear hfz30_0
     try clear hfz30_1
     try clear hfz34_0
     try clear hfz34_1
     try clear hfz34_2
     try clear hfz35_0
     try clear hfz35_1
     try clear hfz37_0
     try clear hfz37_1
     try clear hfz37_2
     try clear hfz38_0
     try clear hfz38_1
     try clear hfz40_0
     try clear hfz40_1
     try clear hfz40_2
     try clear hfz41_0
     try clear hfz41_1
     try clear hfz42_0
     try clear hfz42_1
     try clear hfz7_0
     try clear hfz7_1
     try clear hx170_0
     try clear hx170_1
     try clear hx170_2
     try clear hx172_0
     try clear hx172_1
     try clear hx172_2
     try clear hx173_0
     try clear hx173_1
     try clear hx173_2
     try clear hx174_0
     try clear hx174_1
     try clear hx174_2
     try clear p1
     try clear p17
     try clear p170
     try clear p172
     try clear p173
     try clear p174
     try clear p2
     try clear q1
     try clear q17
     try clear q170
     try clear q172
     try clear q173
     try clear q174
     obtain ⟨x7_2, rfl, HA, HK2, BK169, HB⟩ := hrel
     cases gk with
     | zero => exact absurd HA.out (by simp [chancelref04_Right.l1])
     | succ k2 =>
      have H := HA.out
      clear HA
      simp only [chancelref04_Right.l1] at H
      by_cases c43 : x7_2 < (l0_1.length : Int)
      ·rw [if_pos c43] at H
       have c43b0 : decide (x7_2 < (l0_1.length : Int)) = true := decide_eq_true c43
       clear c43
       by_cases c44 : 0 ≤ x7_2
       ·rw [if_pos c44] at H
        have c44b0 : decide (0 ≤ x7_2) = true := decide_eq_true c44
        clear c44
        have HC45 := Aside0.mk H
        clear H
        have hcz46_0 : wr.cell? ⟨gb169, 0, none⟩ = some (.slice A0_0 l0_0.length c0_0) := (blk_cell BK169.out 0).trans rfl
        have hcz46_1 : wr.cell? ⟨gb169, 1, none⟩ = some (.slice A0_1 l0_1.length c0_1) := (blk_cell BK169.out 1).trans rfl
        have hfz46_0 := blk_frozen BK169.out 0
        have hfz46_1 := blk_frozen BK169.out 1
        have p175 : 0 ≤ (x7_2 : Int):=of_decide_eq_true (by first|(with_reducible assumption)|assumption)
        have q175 : x7_2 < (l0_1.length : Int):=of_decide_eq_true (by first|(with_reducible assumption)|assumption)
        obtain ⟨ad175, e175, hx175_0, hx175_1⟩ := at_T70 HR0_1.out x7_2 p175 q175
        cases e175
        replace hx175_0 := (HB.out.cell (World.block_lt_of_cell? w _ hx175_0)).trans hx175_0
        replace hx175_1 := (HB.out.cell (World.block_lt_of_cell? w _ hx175_1)).trans hx175_1
        replace p175 := eq_true p175
        replace q175 := eq_true q175
        go_upto_region 13 with (first|((with_reducible refine gate_dst (N:=8) rfl ?_);refine box_event ?hg (N:=8) ?hd (cs:=#[.int .i64 0, .int .i64 0]) (t:=70) ?hr ?_;(case hd => rfl);(case hg => rfl);(case hr => first|(go_simp;done)|(go_simp;rfl));intro gb176 hg w47 hbox hb;have n0_:=Aside0.mk (blk_below (g:=gb169) (o:=.cells #[.slice A0_0 l0_0.length c0_0, .slice (some ad175) l0_1.length c0_1] 74 (0, 0)) (by (with_reducible repeat (first|refine blk_drewN ?_ _|refine blk_drew ?_|refine blk_alloc ?_ _));exact BK169.out) hb);have n1_:=Aside0.mk (below_step (by repeat (first|(with_reducible first|exact HB.out|apply below_alloc|apply pw_below_drewN|apply below_drew1|refine below_set ?_ GE169.out)|exact HB.out)) hb);have n2_:=Aside0.mk (hbox);have n3_:=Aside0.mk ((by rw [hg];exact (below_size (by repeat (first|(with_reducible first|exact HB.out|apply below_alloc|apply pw_below_drewN|apply below_drew1|refine below_set ?_ GE169.out)|exact HB.out))) : w.heap.size ≤ gb176));have n4_:=Aside0.mk ((by rw [hg];exact (below_size (by repeat (first|(with_reducible first|exact HB.out|apply below_alloc|apply pw_below_drewN|apply below_drew1|refine below_set ?_ GE169.out)|exact HB.out))) : w.heap.size ≤ gb176));have n5_:=Aside0.mk ((by rw [hg];exact Nat.ne_of_lt (blk_lt (g:=gb169) (o:=.cells #[.slice A0_0 l0_0.length c0_0, .slice (some ad175) l0_1.length c0_1] 74 (0, 0)) (by (with_reducible repeat (first|refine blk_drewN ?_ _|refine blk_drew ?_|refine blk_alloc ?_ _));exact BK169.out)) : gb169 ≠ gb176));have n6_:=Aside0.mk ((by rw [hg];exact Nat.ne_of_gt (blk_lt (g:=gb169) (o:=.cells #[.slice A0_0 l0_0.length c0_0, .slice (some ad175) l0_1.length c0_1] 74 (0, 0)) (by (with_reducible repeat (first|refine blk_drewN ?_ _|refine blk_drew ?_|refine blk_alloc ?_ _));exact BK169.out)) : gb176 ≠ gb169));clear BK169;clear HB;have BK169:=n0_;have HB:=n1_;have BK176:=n2_;have GW176:=n3_;have GE176:=n4_;have NB169_176:=n5_;have NB176_169:=n6_;clear n0_ n1_ n2_ n3_ n4_ n5_ n6_;clear hb hbox hg;have hnb48:=NB176_169.out;have hnc48:=NB169_176.out;have hcz49_0 : w47.cell? ⟨gb176, 0, none⟩ = some (.int .i64 0):=(blk_cell BK176.out 0).trans rfl;have hcz49_1 : w47.cell? ⟨gb176, 1, none⟩ = some (.int .i64 0):=(blk_cell BK176.out 1).trans rfl;have hfz49_0:=blk_frozen BK176.out 0;have hfz49_1:=blk_frozen BK176.out 1))
        repeat (go_quiet (first|((with_reducible refine gate_dst (N:=8) rfl ?_);refine box_event ?hg (N:=8) ?hd (cs:=#[.int .i64 0, .int .i64 0]) (t:=70) ?hr ?_;(case hd => rfl);(case hg => rfl);(case hr => first|(go_simp;done)|(go_simp;rfl));intro gb176 hg w47 hbox hb;have n0_:=Aside0.mk (blk_below (g:=gb169) (o:=.cells #[.slice A0_0 l0_0.length c0_0, .slice (some ad175) l0_1.length c0_1] 74 (0, 0)) (by (with_reducible repeat (first|refine blk_drewN ?_ _|refine blk_drew ?_|refine blk_alloc ?_ _));exact BK169.out) hb);have n1_:=Aside0.mk (below_step (by repeat (first|(with_reducible first|exact HB.out|apply below_alloc|apply pw_below_drewN|apply below_drew1|refine below_set ?_ GE169.out)|exact HB.out)) hb);have n2_:=Aside0.mk (hbox);have n3_:=Aside0.mk ((by rw [hg];exact (below_size (by repeat (first|(with_reducible first|exact HB.out|apply below_alloc|apply pw_below_drewN|apply below_drew1|refine below_set ?_ GE169.out)|exact HB.out))) : w.heap.size ≤ gb176));have n4_:=Aside0.mk ((by rw [hg];exact (below_size (by repeat (first|(with_reducible first|exact HB.out|apply below_alloc|apply pw_below_drewN|apply below_drew1|refine below_set ?_ GE169.out)|exact HB.out))) : w.heap.size ≤ gb176));have n5_:=Aside0.mk ((by rw [hg];exact Nat.ne_of_lt (blk_lt (g:=gb169) (o:=.cells #[.slice A0_0 l0_0.length c0_0, .slice (some ad175) l0_1.length c0_1] 74 (0, 0)) (by (with_reducible repeat (first|refine blk_drewN ?_ _|refine blk_drew ?_|refine blk_alloc ?_ _));exact BK169.out)) : gb169 ≠ gb176));have n6_:=Aside0.mk ((by rw [hg];exact Nat.ne_of_gt (blk_lt (g:=gb169) (o:=.cells #[.slice A0_0 l0_0.length c0_0, .slice (some ad175) l0_1.length c0_1] 74 (0, 0)) (by (with_reducible repeat (first|refine blk_drewN ?_ _|refine blk_drew ?_|refine blk_alloc ?_ _));exact BK169.out)) : gb176 ≠ gb169));clear BK169;clear HB;have BK169:=n0_;have HB:=n1_;have BK176:=n2_;have GW176:=n3_;have GE176:=n4_;have NB169_176:=n5_;have NB176_169:=n6_;clear n0_ n1_ n2_ n3_ n4_ n5_ n6_;clear hb hbox hg;have hnb48:=NB176_169.out;have hnc48:=NB169_176.out;have hcz49_0 : w47.cell? ⟨gb176, 0, none⟩ = some (.int .i64 0):=(blk_cell BK176.out 0).trans rfl;have hcz49_1 : w47.cell? ⟨gb176, 1, none⟩ = some (.int .i64 0):=(blk_cell BK176.out 1).trans rfl;have hfz49_0:=blk_frozen BK176.out 0;have hfz49_1:=blk_frozen BK176.out 1));go_upto_region 13 with (first|((with_reducible refine gate_dst (N:=8) rfl ?_);refine box_event ?hg (N:=8) ?hd (cs:=#[.int .i64 0, .int .i64 0]) (t:=70) ?hr ?_;(case hd => rfl);(case hg => rfl);(case hr => first|(go_simp;done)|(go_simp;rfl));intro gb176 hg w47 hbox hb;have n0_:=Aside0.mk (blk_below (g:=gb169) (o:=.cells #[.slice A0_0 l0_0.length c0_0, .slice (some ad175) l0_1.length c0_1] 74 (0, 0)) (by (with_reducible repeat (first|refine blk_drewN ?_ _|refine blk_drew ?_|refine blk_alloc ?_ _));exact BK169.out) hb);have n1_:=Aside0.mk (below_step (by repeat (first|(with_reducible first|exact HB.out|apply below_alloc|apply pw_below_drewN|apply below_drew1|refine below_set ?_ GE169.out)|exact HB.out)) hb);have n2_:=Aside0.mk (hbox);have n3_:=Aside0.mk ((by rw [hg];exact (below_size (by repeat (first|(with_reducible first|exact HB.out|apply below_alloc|apply pw_below_drewN|apply below_drew1|refine below_set ?_ GE169.out)|exact HB.out))) : w.heap.size ≤ gb176));have n4_:=Aside0.mk ((by rw [hg];exact (below_size (by repeat (first|(with_reducible first|exact HB.out|apply below_alloc|apply pw_below_drewN|apply below_drew1|refine below_set ?_ GE169.out)|exact HB.out))) : w.heap.size ≤ gb176));have n5_:=Aside0.mk ((by rw [hg];exact Nat.ne_of_lt (blk_lt (g:=gb169) (o:=.cells #[.slice A0_0 l0_0.length c0_0, .slice (some ad175) l0_1.length c0_1] 74 (0, 0)) (by (with_reducible repeat (first|refine blk_drewN ?_ _|refine blk_drew ?_|refine blk_alloc ?_ _));exact BK169.out)) : gb169 ≠ gb176));have n6_:=Aside0.mk ((by rw [hg];exact Nat.ne_of_gt (blk_lt (g:=gb169) (o:=.cells #[.slice A0_0 l0_0.length c0_0, .slice (some ad175) l0_1.length c0_1] 74 (0, 0)) (by (with_reducible repeat (first|refine blk_drewN ?_ _|refine blk_drew ?_|refine blk_alloc ?_ _));exact BK169.out)) : gb176 ≠ gb169));clear BK169;clear HB;have BK169:=n0_;have HB:=n1_;have BK176:=n2_;have GW176:=n3_;have GE176:=n4_;have NB169_176:=n5_;have NB176_169:=n6_;clear n0_ n1_ n2_ n3_ n4_ n5_ n6_;clear hb hbox hg;have hnb48:=NB176_169.out;have hnc48:=NB169_176.out;have hcz49_0 : w47.cell? ⟨gb176, 0, none⟩ = some (.int .i64 0):=(blk_cell BK176.out 0).trans rfl;have hcz49_1 : w47.cell? ⟨gb176, 1, none⟩ = some (.int .i64 0):=(blk_cell BK176.out 1).trans rfl;have hfz49_0:=blk_frozen BK176.out 0;have hfz49_1:=blk_frozen BK176.out 1)))
        (try simp only [Act.put, List.setIfInBounds_toArray, List.set_cons_zero, List.set_cons_succ])
        go_cut [105] (fun v105 wc => ∃ (kq : Nat) (x105_44 : Bool), v105 = .bool x105_44 ∧ Aside0 (chancelref04_Right.j3 kq a1 x7_2 x105_44 l0_0 l0_1 ((rd_T70 l0_1 x7_2).f0) ((rd_T70 l0_1 x7_2).f1) = some r) ∧ Aside0 (kq ≤ k2) ∧ Aside0 (wc.heap[gb169]? = some (.cells #[(.slice A0_0 l0_0.length c0_0), (.slice (some ad175) l0_1.length c0_1)] 74 (0, 0))) ∧ Aside0 (wc.heap[gb176]? = some (.cells #[.int .i64 ((rd_T70 l0_1 x7_2).f0), .int .i64 ((rd_T70 l0_1 x7_2).f1)] 70 (0, 0))) ∧ Aside0 (Below w.heap.size w wc))
        case first =>
         have H := HC45.out
         clear HC45
         by_cases c50 : ((rd_T70 l0_1 x7_2).f0) ≤ 0
         ·rw [if_pos c50] at H
          have c50b0 : decide (((rd_T70 l0_1 x7_2).f0) ≤ 0) = true := decide_eq_true c50
          clear c50
          (first | rw [c50b0] | (simp only [i64_w, i32_w]; rw [c50b0]) | skip)
          have H' := Aside0.mk H
          clear H
          have hnb51 := NB176_169.out
          have hnc51 := NB169_176.out
          have hcz52_0 : w47.cell? ⟨gb176, 0, none⟩ = some (.int .i64 0) := (blk_cell BK176.out 0).trans rfl
          have hcz52_1 : w47.cell? ⟨gb176, 1, none⟩ = some (.int .i64 0) := (blk_cell BK176.out 1).trans rfl
          have hfz52_0 := blk_frozen BK176.out 0
          have hfz52_1 := blk_frozen BK176.out 1
          go_wp2
          repeat (go_quiet (fail); try go_wp2)
          go_meet
          case rel => exact ⟨_, (true), (by first|rfl|(simp;done)|(simp [*];done)), H', ⟨by have:=HK1.out;have:=HK2.out;first|omega|exact Nat.le_refl _⟩, ⟨by (with_reducible repeat (first|refine blk_drewN ?_ _|refine blk_drew ?_|refine blk_alloc ?_ _));refine blk_far ?_ NB169_176.out _;(with_reducible repeat (first|refine blk_drewN ?_ _|refine blk_drew ?_|refine blk_alloc ?_ _));refine blk_far ?_ NB169_176.out _;(with_reducible repeat (first|refine blk_drewN ?_ _|refine blk_drew ?_|refine blk_alloc ?_ _));exact BK169.out⟩, ⟨by (with_reducible repeat (first|refine blk_drewN ?_ _|refine blk_drew ?_|refine blk_alloc ?_ _));refine blk_put (cs:=#[.int .i64 ((rd_T70 l0_1 x7_2).f0), .int .i64 0]) ?_ 1 _ rfl;(with_reducible repeat (first|refine blk_drewN ?_ _|refine blk_drew ?_|refine blk_alloc ?_ _));refine blk_put (cs:=#[.int .i64 0, .int .i64 0]) ?_ 0 _ rfl;(with_reducible repeat (first|refine blk_drewN ?_ _|refine blk_drew ?_|refine blk_alloc ?_ _));exact BK176.out⟩, ⟨by repeat (first|(with_reducible first|exact HB.out|apply below_alloc|apply pw_below_drewN|apply below_drew1|refine below_set ?_ GE169.out|refine below_set ?_ GE176.out)|exact HB.out)⟩⟩
         ·rw [if_neg c50] at H
          have c50b0 : decide (((rd_T70 l0_1 x7_2).f0) ≤ 0) = false := decide_eq_false c50
          clear c50
          (first | rw [c50b0] | (simp only [i64_w, i32_w]; rw [c50b0]) | skip)
          by_cases c53 : ((rd_T70 l0_1 x7_2).f1) < 0
          ·rw [if_pos c53] at H
           have c53b0 : decide (((rd_T70 l0_1 x7_2).f1) < 0) = true := decide_eq_true c53
           clear c53
           have H' := Aside0.mk H
           clear H
           have hnb54 := NB176_169.out
           have hnc54 := NB169_176.out
           have hcz55_0 : w47.cell? ⟨gb176, 0, none⟩ = some (.int .i64 0) := (blk_cell BK176.out 0).trans rfl
           have hcz55_1 : w47.cell? ⟨gb176, 1, none⟩ = some (.int .i64 0) := (blk_cell BK176.out 1).trans rfl
           have hfz55_0 := blk_frozen BK176.out 0
           have hfz55_1 := blk_frozen BK176.out 1
           go_wp2
           repeat (go_quiet (fail); try go_wp2)
           go_meet
           case rel => exact ⟨_, (true), (by first|rfl|(simp;done)|(simp [*];done)), H', ⟨by have:=HK1.out;have:=HK2.out;first|omega|exact Nat.le_refl _⟩, ⟨by (with_reducible repeat (first|refine blk_drewN ?_ _|refine blk_drew ?_|refine blk_alloc ?_ _));refine blk_far ?_ NB169_176.out _;(with_reducible repeat (first|refine blk_drewN ?_ _|refine blk_drew ?_|refine blk_alloc ?_ _));refine blk_far ?_ NB169_176.out _;(with_reducible repeat (first|refine blk_drewN ?_ _|refine blk_drew ?_|refine blk_alloc ?_ _));exact BK169.out⟩, ⟨by (with_reducible repeat (first|refine blk_drewN ?_ _|refine blk_drew ?_|refine blk_alloc ?_ _));refine blk_put (cs:=#[.int .i64 ((rd_T70 l0_1 x7_2).f0), .int .i64 0]) ?_ 1 _ rfl;(with_reducible repeat (first|refine blk_drewN ?_ _|refine blk_drew ?_|refine blk_alloc ?_ _));refine blk_put (cs:=#[.int .i64 0, .int .i64 0]) ?_ 0 _ rfl;(with_reducible repeat (first|refine blk_drewN ?_ _|refine blk_drew ?_|refine blk_alloc ?_ _));exact BK176.out⟩, ⟨by repeat (first|(with_reducible first|exact HB.out|apply below_alloc|apply pw_below_drewN|apply below_drew1|refine below_set ?_ GE169.out|refine below_set ?_ GE176.out)|exact HB.out)⟩⟩
          ·rw [if_neg c53] at H
           have c53b0 : decide (((rd_T70 l0_1 x7_2).f1) < 0) = false := decide_eq_false c53
           clear c53
           have H' := Aside0.mk H
           clear H
           have hnb56 := NB176_169.out
           have hnc56 := NB169_176.out
           have hcz57_0 : w47.cell? ⟨gb176, 0, none⟩ = some (.int .i64 0) := (blk_cell BK176.out 0).trans rfl
           have hcz57_1 : w47.cell? ⟨gb176, 1, none⟩ = some (.int .i64 0) := (blk_cell BK176.out 1).trans rfl
           have hfz57_0 := blk_frozen BK176.out 0
           have hfz57_1 := blk_frozen BK176.out 1
           go_wp2
           repeat (go_quiet (fail); try go_wp2)
           go_meet
           case rel => exact ⟨_, (decide (((rd_T70 l0_1 x7_2).f1) > a1)), (by first|rfl|(simp;done)|(simp [*];done)), H', ⟨by have:=HK1.out;have:=HK2.out;first|omega|exact Nat.le_refl _⟩, ⟨by (with_reducible repeat (first|refine blk_drewN ?_ _|refine blk_drew ?_|refine blk_alloc ?_ _));refine blk_far ?_ NB169_176.out _;(with_reducible repeat (first|refine blk_drewN ?_ _|refine blk_drew ?_|refine blk_alloc ?_ _));refine blk_far ?_ NB169_176.out _;(with_reducible repeat (first|refine blk_drewN ?_ _|refine blk_drew ?_|refine blk_alloc ?_ _));exact BK169.out⟩, ⟨by (with_reducible repeat (first|refine blk_drewN ?_ _|refine blk_drew ?_|refine blk_alloc ?_ _));refine blk_put (cs:=#[.int .i64 ((rd_T70 l0_1 x7_2).f0), .int .i64 0]) ?_ 1 _ rfl;(with_reducible repeat (first|refine blk_drewN ?_ _|refine blk_drew ?_|refine blk_alloc ?_ _));refine blk_put (cs:=#[.int .i64 0, .int .i64 0]) ?_ 0 _ rfl;(with_reducible repeat (first|refine blk_drewN ?_ _|refine blk_drew ?_|refine blk_alloc ?_ _));exact BK176.out⟩, ⟨by repeat (first|(with_reducible first|exact HB.out|apply below_alloc|apply pw_below_drewN|apply below_drew1|refine below_set ?_ GE169.out|refine below_set ?_ GE176.out)|exact HB.out)⟩⟩
        case rest =>
         clear HC45
         try clear c1
         try clear p1
         try clear q1
         try clear hx1
         try clear c2
         try clear p2
         try clear c3
         try clear c4
         try clear c4b0
         try clear c5
         try clear c5b0
         try clear p6
         try clear c9
         try clear c11
         try clear c11b0
         try clear c12
         try clear c14
         try clear c14b0
         try clear c15
         try clear c17
         try clear c17b0
         try clear p17
         try clear q17
         try clear hx17
         try clear c18
         try clear c20
         try clear c22
         try clear c23
         try clear c23b0
         try clear c25
         try clear c25b0
         try clear c26
         try clear c26b0
         try clear c27
         try clear c27b0
         try clear c28
         try clear c31
         try clear c31b0
         try clear c31b1
         try clear c32
         try clear c32b0
         try clear c32b1
         try clear c33
         try clear c36
         try clear c38
         try clear c39
         try clear c43
         try clear c43b0
         try clear c44
         try clear c44b0
         try clear c48
         try clear c50
         try clear c50b0
         try clear c51
         try clear c53
         try clear c53b0
         try clear c54
         try clear c56
         try clear hcz10_0
         try clear hcz10_1
         try clear hcz10_2
         try clear hcz13_0
         try clear hcz13_1
         try clear hcz13_2
         try clear hcz16_0
         try clear hcz16_1
         try clear hcz16_2
         try clear hcz19_0
         try clear hcz19_1
         try clear hcz19_2
         try clear hcz21_0
         try clear hcz21_1
         try clear hcz21_2
         try clear hcz29_0
         try clear hcz29_1
         try clear hcz29_2
         try clear hcz30_0
         try clear hcz30_1
         try clear hcz34_0
         try clear hcz34_1
         try clear hcz34_2
         try clear hcz35_0
         try clear hcz35_1
         try clear hcz37_0
         try clear hcz37_1
         try clear hcz37_2
         try clear hcz38_0
         try clear hcz38_1
         try clear hcz40_0
         try clear hcz40_1
         try clear hcz40_2
         try clear hcz41_0
         try clear hcz41_1
         try clear hcz42_0
         try clear hcz42_1
         try clear hcz46_0
         try clear hcz46_1
         try clear hcz49_0
         try clear hcz49_1
         try clear hcz52_0
         try clear hcz52_1
         try clear hcz55_0
         try clear hcz55_1
         try clear hcz57_0
         try clear hcz57_1
         try clear hcz7_0
         try clear hcz7_1
         try clear hfz10_0
         try clear hfz10_1
         try clear hfz10_2
         try clear hfz13_0
         try clear hfz13_1
         try clear hfz13_2
         try clear hfz16_0
         try clear hfz16_1
         try clear hfz16_2
         try clear hfz19_0
         try clear hfz19_1
         try clear hfz19_2
         try clear hfz21_0
         try clear hfz21_1
         try clear hfz21_2
         try clear hfz29_0
         try clear hfz29_1
         try clear hfz29_2
         try clear hfz30_0
         try clear hfz30_1
         try clear hfz34_0
         try clear hfz34_1
         try clear hfz34_2
         try clear hfz35_0
         try clear hfz35_1
         try clear hfz37_0
         try clear hfz37_1
         try clear hfz37_2
         try clear hfz38_0
         try clear hfz38_1
         try clear hfz40_0
         try clear hfz40_1
         try clear hfz40_2
         try clear hfz41_0
         try clear hfz41_1
         try clear hfz42_0
         try clear hfz42_1
         try clear hfz46_0
         try clear hfz46_1
         try clear hfz49_0
         try clear hfz49_1
         try clear hfz52_0
         try clear hfz52_1
         try clear hfz55_0
         try clear hfz55_1
         try clear hfz57_0
         try clear hfz57_1
         try clear hfz7_0
         try clear hfz7_1
         try clear hx170_0
         try clear hx170_1
         try clear hx170_2
         try clear hx172_0
         try clear hx172_1
         try clear hx172_2
         try clear hx173_0
         try clear hx173_1
         try clear hx173_2
         try clear hx174_0
         try clear hx174_1
         try clear hx174_2
         try clear hx175_0
         try clear hx175_1
         try clear p1
         try clear p17
         try clear p170
         try clear p172
         try clear p173
         try clear p174
         try clear p175
         try clear p2
         try clear p6
         try clear q1
         try clear q17
         try clear q170
         try clear q172
         try clear q173
         try clear q174
         try clear q175
         obtain ⟨kq, x105_44, rfl, HA, HJ44, BK169, BK176, HB⟩ := hcut
         cases kq with
         | zero => exact absurd HA.out (by simp [chancelref04_Right.j3])
         | succ kj44 =>
          have H := HA.out
          clear HA
          simp only [chancelref04_Right.j3] at H
          by_cases c58 : x105_44 = true
          ·subst c58
           have H1 : (some false) = some r := by rw [if_pos rfl] at H; exact H
           clear H
           have H := H1
           clear H1
           obtain rfl := Option.some.inj H
           go_wp2
           repeat (go_quiet (fail); try go_wp2)
           go_ret
           exact ⟨by first|rfl|(simp [errW_none, errW_some] <;> rfl)|(simp [*, errW_none, errW_some] <;> rfl), by repeat (first|(with_reducible first|exact HB.out|apply below_alloc|apply pw_below_drewN|apply below_drew1|refine below_set ?_ GE169.out|refine below_set ?_ GE176.out)|exact HB.out)⟩
          ·replace c58 := Bool.eq_false_iff.mpr c58
           subst c58
           have H1 : (if x7_2 > 0 then (if 0 ≤ (wrap64 (x7_2 - 1)) then (if (wrap64 (x7_2 - 1)) < (l0_1.length : Int) then (if ((rd_T70 l0_1 x7_2).f1) < ((rd_T70 l0_1 (wrap64 (x7_2 - 1))).f1) then (some false) else (if ((rd_T70 l0_1 x7_2).f1) = ((rd_T70 l0_1 (wrap64 (x7_2 - 1))).f1) then (if ((rd_T70 l0_1 x7_2).f0) ≤ ((rd_T70 l0_1 (wrap64 (x7_2 - 1))).f0) then (some false) else (chancelref04_Right.l1 kj44 a1 (wrap64 (x7_2 + 1)) l0_0 l0_1)) else (chancelref04_Right.l1 kj44 a1 (wrap64 (x7_2 + 1)) l0_0 l0_1))) else (none)) else (none)) else (chancelref04_Right.l1 kj44 a1 (wrap64 (x7_2 + 1)) l0_0 l0_1)) = some r := by rw [if_neg (show ¬ (false = true) by decide)] at H; exact H
           clear H
           have H := H1
           clear H1
           by_cases c59 : x7_2 > 0
           ·rw [if_pos c59] at H
            have c59b0 : decide (0 < x7_2) = true := decide_eq_true c59
            clear c59
            obtain ⟨ji60, hji60⟩ : ∃ j_ : Int, (wrap64 (x7_2 - 1)) = j_ := ⟨_, rfl⟩
            replace H : (if 0 ≤ (ji60) then (if (ji60) < (l0_1.length : Int) then (if ((rd_T70 l0_1 x7_2).f1) < ((rd_T70 l0_1 (ji60)).f1) then (some false) else (if ((rd_T70 l0_1 x7_2).f1) = ((rd_T70 l0_1 (ji60)).f1) then (if ((rd_T70 l0_1 x7_2).f0) ≤ ((rd_T70 l0_1 (ji60)).f0) then (some false) else (chancelref04_Right.l1 kj44 a1 (wrap64 (x7_2 + 1)) l0_0 l0_1)) else (chancelref04_Right.l1 kj44 a1 (wrap64 (x7_2 + 1)) l0_0 l0_1))) else (none)) else (none)) = some r := by first | (rw [hji60] at H; exact H) | (simp only [hji60] at H ⊢; exact H)
            have hji60w : (IntKind.i64.wrap (x7_2 - 1)) = ji60 := (i64_w _).trans hji60
            by_cases c61 : 0 ≤ (ji60)
            ·rw [if_pos c61] at H
             have c61b0 : decide (0 ≤ (ji60)) = true := decide_eq_true c61
             clear c61
             by_cases c62 : (ji60) < (l0_1.length : Int)
             ·rw [if_pos c62] at H
              have c62b0 : decide ((ji60) < (l0_1.length : Int)) = true := decide_eq_true c62
              clear c62
              by_cases c63 : ((rd_T70 l0_1 x7_2).f1) < ((rd_T70 l0_1 (ji60)).f1)
              ·rw [if_pos c63] at H
               have c63b0 : decide (((rd_T70 l0_1 x7_2).f1) < ((rd_T70 l0_1 (ji60)).f1)) = true := decide_eq_true c63
               clear c63
               obtain rfl := Option.some.inj H
               have hnb64 := NB176_169.out
               have hnc64 := NB169_176.out
               have hcz65_0 : wc.cell? ⟨gb176, 0, none⟩ = some (.int .i64 ((rd_T70 l0_1 x7_2).f0)) := (blk_cell BK176.out 0).trans rfl
               have hcz65_1 : wc.cell? ⟨gb176, 1, none⟩ = some (.int .i64 ((rd_T70 l0_1 x7_2).f1)) := (blk_cell BK176.out 1).trans rfl
               have hfz65_0 := blk_frozen BK176.out 0
               have hfz65_1 := blk_frozen BK176.out 1
               have hcz66_0 : wc.cell? ⟨gb169, 0, none⟩ = some (.slice A0_0 l0_0.length c0_0) := (blk_cell BK169.out 0).trans rfl
               have hcz66_1 : wc.cell? ⟨gb169, 1, none⟩ = some (.slice (some ad175) l0_1.length c0_1) := (blk_cell BK169.out 1).trans rfl
               have hfz66_0 := blk_frozen BK169.out 0
               have hfz66_1 := blk_frozen BK169.out 1
               have p177 : 0 ≤ ((ji60) : Int):=of_decide_eq_true (by first|(with_reducible assumption)|assumption)
               have q177 : (ji60) < (l0_1.length : Int):=of_decide_eq_true (by first|(with_reducible assumption)|assumption)
               obtain ⟨ad177, e177, hx177_0, hx177_1⟩ := at_T70 HR0_1.out (ji60) p177 q177
               obtain rfl : ad175 = ad177 := (by injection e177)
               replace hx177_0 := (HB.out.cell (World.block_lt_of_cell? w _ hx177_0)).trans hx177_0
               replace hx177_1 := (HB.out.cell (World.block_lt_of_cell? w _ hx177_1)).trans hx177_1
               replace p177 := eq_true p177
               replace q177 := eq_true q177
               go_wp2
               repeat (go_quiet (fail); try go_wp2)
               go_ret
               exact ⟨by first|rfl|(simp [errW_none, errW_some] <;> rfl)|(simp only [← hji60];first|rfl|(simp [errW_none, errW_some] <;> rfl))|(simp [*, errW_none, errW_some] <;> rfl), by repeat (first|(with_reducible first|exact HB.out|apply below_alloc|apply pw_below_drewN|apply below_drew1|refine below_set ?_ GE169.out|refine below_set ?_ GE176.out)|exact HB.out)⟩
              ·rw [if_neg c63] at H
               have c63b0 : decide (((rd_T70 l0_1 x7_2).f1) < ((rd_T70 l0_1 (ji60)).f1)) = false := decide_eq_false c63
               clear c63
               by_cases c67 : ((rd_T70 l0_1 x7_2).f1) = ((rd_T70 l0_1 (ji60)).f1)
               ·rw [if_pos c67] at H
                have c67b0 : (((rd_T70 l0_1 x7_2).f1) == ((rd_T70 l0_1 (ji60)).f1)) = true := beq_iff_eq.mpr c67
                have c67b1 : (((rd_T70 l0_1 x7_2).f1) != ((rd_T70 l0_1 (ji60)).f1)) = false := bne_eq_false_iff_eq.mpr c67
                clear c67
                by_cases c68 : ((rd_T70 l0_1 x7_2).f0) ≤ ((rd_T70 l0_1 (ji60)).f0)
                ·rw [if_pos c68] at H
                 have c68b0 : decide (((rd_T70 l0_1 x7_2).f0) ≤ ((rd_T70 l0_1 (ji60)).f0)) = true := decide_eq_true c68
                 clear c68
                 obtain rfl := Option.some.inj H
                 have hnb69 := NB176_169.out
                 have hnc69 := NB169_176.out
                 have hcz70_0 : wc.cell? ⟨gb176, 0, none⟩ = some (.int .i64 ((rd_T70 l0_1 x7_2).f0)) := (blk_cell BK176.out 0).trans rfl
                 have hcz70_1 : wc.cell? ⟨gb176, 1, none⟩ = some (.int .i64 ((rd_T70 l0_1 x7_2).f1)) := (blk_cell BK176.out 1).trans rfl
                 have hfz70_0 := blk_frozen BK176.out 0
                 have hfz70_1 := blk_frozen BK176.out 1
                 have hcz71_0 : wc.cell? ⟨gb169, 0, none⟩ = some (.slice A0_0 l0_0.length c0_0) := (blk_cell BK169.out 0).trans rfl
                 have hcz71_1 : wc.cell? ⟨gb169, 1, none⟩ = some (.slice (some ad175) l0_1.length c0_1) := (blk_cell BK169.out 1).trans rfl
                 have hfz71_0 := blk_frozen BK169.out 0
                 have hfz71_1 := blk_frozen BK169.out 1
                 have p177 : 0 ≤ ((ji60) : Int):=of_decide_eq_true (by first|(with_reducible assumption)|assumption)
                 have q177 : (ji60) < (l0_1.length : Int):=of_decide_eq_true (by first|(with_reducible assumption)|assumption)
                 obtain ⟨ad177, e177, hx177_0, hx177_1⟩ := at_T70 HR0_1.out (ji60) p177 q177
                 obtain rfl : ad175 = ad177 := (by injection e177)
                 replace hx177_0 := (HB.out.cell (World.block_lt_of_cell? w _ hx177_0)).trans hx177_0
                 replace hx177_1 := (HB.out.cell (World.block_lt_of_cell? w _ hx177_1)).trans hx177_1
                 replace p177 := eq_true p177
                 replace q177 := eq_true q177
                 have p178 : 0 ≤ ((ji60) : Int):=of_decide_eq_true (by first|(with_reducible assumption)|assumption)
                 have q178 : (ji60) < (l0_1.length : Int):=of_decide_eq_true (by first|(with_reducible assumption)|assumption)
                 obtain ⟨ad178, e178, hx178_0, hx178_1⟩ := at_T70 HR0_1.out (ji60) p178 q178
                 obtain rfl : ad175 = ad178 := (by injection e178)
                 replace hx178_0 := (HB.out.cell (World.block_lt_of_cell? w _ hx178_0)).trans hx178_0
                 replace hx178_1 := (HB.out.cell (World.block_lt_of_cell? w _ hx178_1)).trans hx178_1
                 replace p178 := eq_true p178
                 replace q178 := eq_true q178
                 have p179 : 0 ≤ ((ji60) : Int):=of_decide_eq_true (by first|(with_reducible assumption)|assumption)
                 have q179 : (ji60) < (l0_1.length : Int):=of_decide_eq_true (by first|(with_reducible assumption)|assumption)
                 obtain ⟨ad179, e179, hx179_0, hx179_1⟩ := at_T70 HR0_1.out (ji60) p179 q179
                 obtain rfl : ad175 = ad179 := (by injection e179)
                 replace hx179_0 := (HB.out.cell (World.block_lt_of_cell? w _ hx179_0)).trans hx179_0
                 replace hx179_1 := (HB.out.cell (World.block_lt_of_cell? w _ hx179_1)).trans hx179_1
                 replace p179 := eq_true p179
                 replace q179 := eq_true q179
                 go_wp2
                 repeat (go_quiet (fail); try go_wp2)
                 go_ret
                 exact ⟨by first|rfl|(simp [errW_none, errW_some] <;> rfl)|(simp only [← hji60];first|rfl|(simp [errW_none, errW_some] <;> rfl))|(simp [*, errW_none, errW_some] <;> rfl), by repeat (first|(with_reducible first|exact HB.out|apply below_alloc|apply pw_below_drewN|apply below_drew1|refine below_set ?_ GE169.out|refine below_set ?_ GE176.out)|exact HB.out)⟩
                ·rw [if_neg c68] at H
                 have c68b0 : decide (((rd_T70 l0_1 x7_2).f0) ≤ ((rd_T70 l0_1 (ji60)).f0)) = false := decide_eq_false c68
                 clear c68
                 have H' := Aside0.mk H
                 clear H
                 have hnb72 := NB176_169.out
                 have hnc72 := NB169_176.out
                 have hcz73_0 : wc.cell? ⟨gb176, 0, none⟩ = some (.int .i64 ((rd_T70 l0_1 x7_2).f0)) := (blk_cell BK176.out 0).trans rfl
                 have hcz73_1 : wc.cell? ⟨gb176, 1, none⟩ = some (.int .i64 ((rd_T70 l0_1 x7_2).f1)) := (blk_cell BK176.out 1).trans rfl
                 have hfz73_0 := blk_frozen BK176.out 0
                 have hfz73_1 := blk_frozen BK176.out 1
                 have hcz74_0 : wc.cell? ⟨gb169, 0, none⟩ = some (.slice A0_0 l0_0.length c0_0) := (blk_cell BK169.out 0).trans rfl
                 have hcz74_1 : wc.cell? ⟨gb169, 1, none⟩ = some (.slice (some ad175) l0_1.length c0_1) := (blk_cell BK169.out 1).trans rfl
                 have hfz74_0 := blk_frozen BK169.out 0
                 have hfz74_1 := blk_frozen BK169.out 1
                 have p177 : 0 ≤ ((ji60) : Int):=of_decide_eq_true (by first|(with_reducible assumption)|assumption)
                 have q177 : (ji60) < (l0_1.length : Int):=of_decide_eq_true (by first|(with_reducible assumption)|assumption)
                 obtain ⟨ad177, e177, hx177_0, hx177_1⟩ := at_T70 HR0_1.out (ji60) p177 q177
                 obtain rfl : ad175 = ad177 := (by injection e177)
                 replace hx177_0 := (HB.out.cell (World.block_lt_of_cell? w _ hx177_0)).trans hx177_0
                 replace hx177_1 := (HB.out.cell (World.block_lt_of_cell? w _ hx177_1)).trans hx177_1
                 replace p177 := eq_true p177
                 replace q177 := eq_true q177
                 have p178 : 0 ≤ ((ji60) : Int):=of_decide_eq_true (by first|(with_reducible assumption)|assumption)
                 have q178 : (ji60) < (l0_1.length : Int):=of_decide_eq_true (by first|(with_reducible assumption)|assumption)
                 obtain ⟨ad178, e178, hx178_0, hx178_1⟩ := at_T70 HR0_1.out (ji60) p178 q178
                 obtain rfl : ad175 = ad178 := (by injection e178)
                 replace hx178_0 := (HB.out.cell (World.block_lt_of_cell? w _ hx178_0)).trans hx178_0
                 replace hx178_1 := (HB.out.cell (World.block_lt_of_cell? w _ hx178_1)).trans hx178_1
                 replace p178 := eq_true p178
                 replace q178 := eq_true q178
                 have p179 : 0 ≤ ((ji60) : Int):=of_decide_eq_true (by first|(with_reducible assumption)|assumption)
                 have q179 : (ji60) < (l0_1.length : Int):=of_decide_eq_true (by first|(with_reducible assumption)|assumption)
                 obtain ⟨ad179, e179, hx179_0, hx179_1⟩ := at_T70 HR0_1.out (ji60) p179 q179
                 obtain rfl : ad175 = ad179 := (by injection e179)
                 replace hx179_0 := (HB.out.cell (World.block_lt_of_cell? w _ hx179_0)).trans hx179_0
                 replace hx179_1 := (HB.out.cell (World.block_lt_of_cell? w _ hx179_1)).trans hx179_1
                 replace p179 := eq_true p179
                 replace q179 := eq_true q179
                 go_wp2
                 repeat (go_quiet (fail); try go_wp2)
                 go_roundg kj44
                 case measure => have := HK1.out; have := HK2.out; have := HJ44.out; omega
                 case rel => exact ⟨(wrap64 (x7_2 + 1)), (by first|rfl|(simp;done)|(simp [*];done)), H', ⟨by have:=HK1.out;have:=HK2.out;have:=HJ44.out;omega⟩, ⟨by (with_reducible repeat (first|refine blk_drewN ?_ _|refine blk_drew ?_|refine blk_alloc ?_ _));exact BK169.out⟩, ⟨by repeat (first|(with_reducible first|exact HB.out|apply below_alloc|apply pw_below_drewN|apply below_drew1|refine below_set ?_ GE169.out|refine below_set ?_ GE176.out)|exact HB.out)⟩⟩
               ·rw [if_neg c67] at H
                have c67b0 : (((rd_T70 l0_1 x7_2).f1) == ((rd_T70 l0_1 (ji60)).f1)) = false := beq_eq_false_iff_ne.mpr c67
                have c67b1 : (((rd_T70 l0_1 x7_2).f1) != ((rd_T70 l0_1 (ji60)).f1)) = true := bne_iff_ne.mpr c67
                have H' := Aside0.mk H
                clear H
                have hnb75 := NB176_169.out
                have hnc75 := NB169_176.out
                have hcz76_0 : wc.cell? ⟨gb176, 0, none⟩ = some (.int .i64 ((rd_T70 l0_1 x7_2).f0)) := (blk_cell BK176.out 0).trans rfl
                have hcz76_1 : wc.cell? ⟨gb176, 1, none⟩ = some (.int .i64 ((rd_T70 l0_1 x7_2).f1)) := (blk_cell BK176.out 1).trans rfl
                have hfz76_0 := blk_frozen BK176.out 0
                have hfz76_1 := blk_frozen BK176.out 1
                have hcz77_0 : wc.cell? ⟨gb169, 0, none⟩ = some (.slice A0_0 l0_0.length c0_0) := (blk_cell BK169.out 0).trans rfl
                have hcz77_1 : wc.cell? ⟨gb169, 1, none⟩ = some (.slice (some ad175) l0_1.length c0_1) := (blk_cell BK169.out 1).trans rfl
                have hfz77_0 := blk_frozen BK169.out 0
                have hfz77_1 := blk_frozen BK169.out 1
                have p177 : 0 ≤ ((ji60) : Int):=of_decide_eq_true (by first|(with_reducible assumption)|assumption)
                have q177 : (ji60) < (l0_1.length : Int):=of_decide_eq_true (by first|(with_reducible assumption)|assumption)
                obtain ⟨ad177, e177, hx177_0, hx177_1⟩ := at_T70 HR0_1.out (ji60) p177 q177
                obtain rfl : ad175 = ad177 := (by injection e177)
                replace hx177_0 := (HB.out.cell (World.block_lt_of_cell? w _ hx177_0)).trans hx177_0
                replace hx177_1 := (HB.out.cell (World.block_lt_of_cell? w _ hx177_1)).trans hx177_1
                replace p177 := eq_true p177
                replace q177 := eq_true q177
                have p178 : 0 ≤ ((ji60) : Int):=of_decide_eq_true (by first|(with_reducible assumption)|assumption)
                have q178 : (ji60) < (l0_1.length : Int):=of_decide_eq_true (by first|(with_reducible assumption)|assumption)
                obtain ⟨ad178, e178, hx178_0, hx178_1⟩ := at_T70 HR0_1.out (ji60) p178 q178
                obtain rfl : ad175 = ad178 := (by injection e178)
                replace hx178_0 := (HB.out.cell (World.block_lt_of_cell? w _ hx178_0)).trans hx178_0
                replace hx178_1 := (HB.out.cell (World.block_lt_of_cell? w _ hx178_1)).trans hx178_1
                replace p178 := eq_true p178
                replace q178 := eq_true q178
                go_wp2
                repeat (go_quiet (fail); try go_wp2)
                go_roundg kj44
                case measure => have := HK1.out; have := HK2.out; have := HJ44.out; omega
                case rel => exact ⟨(wrap64 (x7_2 + 1)), (by first|rfl|(simp;done)|(simp [*];done)), H', ⟨by have:=HK1.out;have:=HK2.out;have:=HJ44.out;omega⟩, ⟨by (with_reducible repeat (first|refine blk_drewN ?_ _|refine blk_drew ?_|refine blk_alloc ?_ _));exact BK169.out⟩, ⟨by repeat (first|(with_reducible first|exact HB.out|apply below_alloc|apply pw_below_drewN|apply below_drew1|refine below_set ?_ GE169.out|refine below_set ?_ GE176.out)|exact HB.out)⟩⟩
             ·rw [if_neg c62] at H
              exact absurd H (by simp)
            ·rw [if_neg c61] at H
             exact absurd H (by simp)
           ·rw [if_neg c59] at H
            have c59b0 : decide (0 < x7_2) = false := decide_eq_false c59
            clear c59
            have H' := Aside0.mk H
            clear H
            go_wp2
            repeat (go_quiet (fail); try go_wp2)
            go_roundg kj44
            case measure => have := HK1.out; have := HK2.out; have := HJ44.out; omega
            case rel => exact ⟨(wrap64 (x7_2 + 1)), (by first|rfl|(simp;done)|(simp [*];done)), H', ⟨by have:=HK1.out;have:=HK2.out;have:=HJ44.out;omega⟩, ⟨by (with_reducible repeat (first|refine blk_drewN ?_ _|refine blk_drew ?_|refine blk_alloc ?_ _));exact BK169.out⟩, ⟨by repeat (first|(with_reducible first|exact HB.out|apply below_alloc|apply pw_below_drewN|apply below_drew1|refine below_set ?_ GE169.out|refine below_set ?_ GE176.out)|exact HB.out)⟩⟩
       ·rw [if_neg c44] at H
        exact absurd H (by simp)
      ·rw [if_neg c43] at H
       have c43b0 : decide (x7_2 < (l0_1.length : Int)) = false := decide_eq_false c43
       clear c43
       obtain rfl := Option.some.inj H
       have hcz78_0 : wr.cell? ⟨gb169, 0, none⟩ = some (.slice A0_0 l0_0.length c0_0) := (blk_cell BK169.out 0).trans rfl
       have hcz78_1 : wr.cell? ⟨gb169, 1, none⟩ = some (.slice A0_1 l0_1.length c0_1) := (blk_cell BK169.out 1).trans rfl
       have hfz78_0 := blk_frozen BK169.out 0
       have hfz78_1 := blk_frozen BK169.out 1
       go_wp2
       repeat (go_quiet (fail); try go_wp2)
       go_ret
       exact ⟨by first|rfl|(simp [errW_none, errW_some] <;> rfl)|(simp [*, errW_none, errW_some] <;> rfl), by repeat (first|(with_reducible first|exact HB.out|apply below_alloc|apply pw_below_drewN|apply below_drew1|refine below_set ?_ GE169.out)|exact HB.out)⟩

end Go.Proofs.YtjphmebhofkhcaaDoor.PSegAll
