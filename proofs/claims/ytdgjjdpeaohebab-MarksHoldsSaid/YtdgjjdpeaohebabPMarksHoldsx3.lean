-- Written by a program of this session around the given print (and over contracts of this session): not checked by anybody but Lean.
import Derived.Test.YtdgjjdpeaohebabPMarksHoldsx0
namespace Go.Proofs.Ytdgjjdpeaohebab.PMarksHolds
open Go.RowKit Go.Proofs.YtdgjjdpeaohebabW.PrintWords Go.Proofs.YtdgjjdpeaohebabW.PrintLast Go.Proofs.YtdgjjdpeaohebabW.PrintMore
attribute [local go_sem] max2_int min2_int max_two min_two max_three min_three max_four min_four   -- for this text's walks alone
set_option linter.unusedVariables false
set_option linter.unusedSimpArgs false

/-! ### chancelref04_Right: function 12 -/
mutual
def chancelref04_Right.l0 : Nat → Int → Int → List (S34) → List (S48) → Option (Bool)
 | 0, _, _, _, _ => none
 | k + 1, x1, x5, x143000, x143001 => if x5 < (x143000.length : Int) then (if 0 ≤ x5 then (if ((rd_T34 x143000 x5).f0) ≤ 0 then (chancelref04_Right.j1 k x1 x5 true x143000 x143001 ((rd_T34 x143000 x5).f0) ((rd_T34 x143000 x5).f1) ((rd_T34 x143000 x5).f2)) else (if ((rd_T34 x143000 x5).f1) < 0 then (chancelref04_Right.j1 k x1 x5 true x143000 x143001 ((rd_T34 x143000 x5).f0) ((rd_T34 x143000 x5).f1) ((rd_T34 x143000 x5).f2)) else (if ((rd_T34 x143000 x5).f2) ≤ ((rd_T34 x143000 x5).f1) then (chancelref04_Right.j1 k x1 x5 true x143000 x143001 ((rd_T34 x143000 x5).f0) ((rd_T34 x143000 x5).f1) ((rd_T34 x143000 x5).f2)) else (chancelref04_Right.j1 k x1 x5 (decide (((rd_T34 x143000 x5).f2) > x1)) x143000 x143001 ((rd_T34 x143000 x5).f0) ((rd_T34 x143000 x5).f1) ((rd_T34 x143000 x5).f2))))) else (none)) else (chancelref04_Right.l1 k x1 0 x143000 x143001)
def chancelref04_Right.j1 : Nat → Int → Int → Bool → List (S34) → List (S48) → Int → Int → Int → Option (Bool)
 | 0, _, _, _, _, _, _, _, _ => none
 | k + 1, x1, x5, x41, x143000, x143001, x145000, x145001, x145002 => if x41 = true then (some false) else (if x5 > 0 then (if 0 ≤ (wrap64 (x5 - 1)) then (if (wrap64 (x5 - 1)) < (x143000.length : Int) then (if x145001 < ((rd_T34 x143000 (wrap64 (x5 - 1))).f2) then (some false) else (if x145001 = ((rd_T34 x143000 (wrap64 (x5 - 1))).f2) then (if x145000 = ((rd_T34 x143000 (wrap64 (x5 - 1))).f0) then (some false) else (chancelref04_Right.l0 k x1 (wrap64 (x5 + 1)) x143000 x143001)) else (chancelref04_Right.l0 k x1 (wrap64 (x5 + 1)) x143000 x143001))) else (none)) else (none)) else (chancelref04_Right.l0 k x1 (wrap64 (x5 + 1)) x143000 x143001))
def chancelref04_Right.l1 : Nat → Int → Int → List (S34) → List (S48) → Option (Bool)
 | 0, _, _, _, _ => none
 | k + 1, x1, x7, x143000, x143001 => if x7 < (x143001.length : Int) then (if 0 ≤ x7 then (if ((rd_T48 x143001 x7).f0) ≤ 0 then (chancelref04_Right.j3 k x1 x7 true x143000 x143001 ((rd_T48 x143001 x7).f0) ((rd_T48 x143001 x7).f1)) else (if ((rd_T48 x143001 x7).f1) < 0 then (chancelref04_Right.j3 k x1 x7 true x143000 x143001 ((rd_T48 x143001 x7).f0) ((rd_T48 x143001 x7).f1)) else (chancelref04_Right.j3 k x1 x7 (decide (((rd_T48 x143001 x7).f1) > x1)) x143000 x143001 ((rd_T48 x143001 x7).f0) ((rd_T48 x143001 x7).f1)))) else (none)) else (some true)
def chancelref04_Right.j3 : Nat → Int → Int → Bool → List (S34) → List (S48) → Int → Int → Option (Bool)
 | 0, _, _, _, _, _, _, _ => none
 | k + 1, x1, x7, x105, x143000, x143001, x150000, x150001 => if x105 = true then (some false) else (if x7 > 0 then (if 0 ≤ (wrap64 (x7 - 1)) then (if (wrap64 (x7 - 1)) < (x143001.length : Int) then (if x150001 < ((rd_T48 x143001 (wrap64 (x7 - 1))).f1) then (some false) else (if x150001 = ((rd_T48 x143001 (wrap64 (x7 - 1))).f1) then (if x150000 ≤ ((rd_T48 x143001 (wrap64 (x7 - 1))).f0) then (some false) else (chancelref04_Right.l1 k x1 (wrap64 (x7 + 1)) x143000 x143001)) else (chancelref04_Right.l1 k x1 (wrap64 (x7 + 1)) x143000 x143001))) else (none)) else (none)) else (chancelref04_Right.l1 k x1 (wrap64 (x7 + 1)) x143000 x143001))
end
def chancelref04_Right.f (k : Nat) (l0_0 : List (S34)) (l0_1 : List (S48)) (a1 : Int) : Option (Bool) := chancelref04_Right.l0 k a1 0 l0_0 l0_1
theorem chancelref04_Right.mono_l : ∀ k, (∀ y0 y1 y2 y3, LeO (chancelref04_Right.l0 k y0 y1 y2 y3) (chancelref04_Right.l0 (k + 1) y0 y1 y2 y3)) ∧ (∀ y0 y1 y2 y3 y4 y5 y6 y7, LeO (chancelref04_Right.j1 k y0 y1 y2 y3 y4 y5 y6 y7) (chancelref04_Right.j1 (k + 1) y0 y1 y2 y3 y4 y5 y6 y7)) ∧ (∀ y0 y1 y2 y3, LeO (chancelref04_Right.l1 k y0 y1 y2 y3) (chancelref04_Right.l1 (k + 1) y0 y1 y2 y3)) ∧ (∀ y0 y1 y2 y3 y4 y5 y6, LeO (chancelref04_Right.j3 k y0 y1 y2 y3 y4 y5 y6) (chancelref04_Right.j3 (k + 1) y0 y1 y2 y3 y4 y5 y6))
 | 0 => ⟨fun _ _ _ _ r h => by simp [chancelref04_Right.l0] at h, fun _ _ _ _ _ _ _ _ r h => by simp [chancelref04_Right.j1] at h, fun _ _ _ _ r h => by simp [chancelref04_Right.l1] at h, fun _ _ _ _ _ _ _ r h => by simp [chancelref04_Right.j3] at h⟩
 | k + 1 => by
  obtain ⟨ih0, ih1, ih2, ih3⟩ := chancelref04_Right.mono_l k
  refine ⟨?_, ?_, ?_, ?_⟩
  ·intro y0 y1 y2 y3
   unfold chancelref04_Right.l0
   repeat' first
   | (with_reducible exact ih0 _ _ _ _)
   | (with_reducible exact ih1 _ _ _ _ _ _ _ _)
   | (with_reducible exact ih2 _ _ _ _)
   | (with_reducible exact ih3 _ _ _ _ _ _ _)
   | (with_reducible exact LeO.refl _)
   | (with_reducible exact LeO.none _)
   | (with_reducible refine LeO.ite ?_ ?_)
   | (with_reducible refine LeO.bind ?_ (fun _ => ?_))
   | exact ih0 _ _ _ _
   | exact ih1 _ _ _ _ _ _ _ _
   | exact ih2 _ _ _ _
   | exact ih3 _ _ _ _ _ _ _
   | exact LeO.none _
   | refine LeO.ite ?_ ?_
   | refine LeO.bind ?_ (fun _ => ?_)
  ·intro y0 y1 y2 y3 y4 y5 y6 y7
   unfold chancelref04_Right.j1
   repeat' first
   | (with_reducible exact ih0 _ _ _ _)
   | (with_reducible exact ih1 _ _ _ _ _ _ _ _)
   | (with_reducible exact ih2 _ _ _ _)
   | (with_reducible exact ih3 _ _ _ _ _ _ _)
   | (with_reducible exact LeO.refl _)
   | (with_reducible exact LeO.none _)
   | (with_reducible refine LeO.ite ?_ ?_)
   | (with_reducible refine LeO.bind ?_ (fun _ => ?_))
   | exact ih0 _ _ _ _
   | exact ih1 _ _ _ _ _ _ _ _
   | exact ih2 _ _ _ _
   | exact ih3 _ _ _ _ _ _ _
   | exact LeO.none _
   | refine LeO.ite ?_ ?_
   | refine LeO.bind ?_ (fun _ => ?_)
  ·intro y0 y1 y2 y3
   unfold chancelref04_Right.l1
   repeat' first
   | (with_reducible exact ih0 _ _ _ _)
   | (with_reducible exact ih1 _ _ _ _ _ _ _ _)
   | (with_reducible exact ih2 _ _ _ _)
   | (with_reducible exact ih3 _ _ _ _ _ _ _)
   | (with_reducible exact LeO.refl _)
   | (with_reducible exact LeO.none _)
   | (with_reducible refine LeO.ite ?_ ?_)
   | (with_reducible refine LeO.bind ?_ (fun _ => ?_))
   | exact ih0 _ _ _ _
   | exact ih1 _ _ _ _ _ _ _ _
   | exact ih2 _ _ _ _
   | exact ih3 _ _ _ _ _ _ _
   | exact LeO.none _
   | refine LeO.ite ?_ ?_
   | refine LeO.bind ?_ (fun _ => ?_)
  ·intro y0 y1 y2 y3 y4 y5 y6
   unfold chancelref04_Right.j3
   repeat' first
   | (with_reducible exact ih0 _ _ _ _)
   | (with_reducible exact ih1 _ _ _ _ _ _ _ _)
   | (with_reducible exact ih2 _ _ _ _)
   | (with_reducible exact ih3 _ _ _ _ _ _ _)
   | (with_reducible exact LeO.refl _)
   | (with_reducible exact LeO.none _)
   | (with_reducible refine LeO.ite ?_ ?_)
   | (with_reducible refine LeO.bind ?_ (fun _ => ?_))
   | exact ih0 _ _ _ _
   | exact ih1 _ _ _ _ _ _ _ _
   | exact ih2 _ _ _ _
   | exact ih3 _ _ _ _ _ _ _
   | exact LeO.none _
   | refine LeO.ite ?_ ?_
   | refine LeO.bind ?_ (fun _ => ?_)
theorem chancelref04_Right.mono : ∀ a0 a1 a2 k, LeO (chancelref04_Right.f k a0 a1 a2) (chancelref04_Right.f (k + 1) a0 a1 a2) := by
 intro a0 a1 a2 k
 obtain ⟨ih0, ih1, ih2, ih3⟩ := chancelref04_Right.mono_l k
 unfold chancelref04_Right.f
 repeat' first
   | (with_reducible exact ih0 _ _ _ _)
   | (with_reducible exact ih1 _ _ _ _ _ _ _ _)
   | (with_reducible exact ih2 _ _ _ _)
   | (with_reducible exact ih3 _ _ _ _ _ _ _)
   | (with_reducible exact LeO.refl _)
   | (with_reducible exact LeO.none _)
   | (with_reducible refine LeO.ite ?_ ?_)
   | (with_reducible refine LeO.bind ?_ (fun _ => ?_))
   | exact ih0 _ _ _ _
   | exact ih1 _ _ _ _ _ _ _ _
   | exact ih2 _ _ _ _
   | exact ih3 _ _ _ _ _ _ _
   | exact LeO.none _
   | refine LeO.ite ?_ ?_
   | refine LeO.bind ?_ (fun _ => ?_)
set_option maxHeartbeats 8000000 in
set_option maxRecDepth 100000 in
theorem chancelref04_Right.calls (k : Nat) (A0_0 : Option Addr) (c0_0 : Nat) (l0_0 : List (S34)) (A0_1 : Option Addr) (c0_1 : Nat) (l0_1 : List (S48)) (a1 : Int) (r : Bool) (w : World) (hr0_0 : Kd.C k34 w A0_0 l0_0.length l0_0) (hc0_0 : l0_0.length ≤ c0_0) (hr0_1 : Kd.C k48 w A0_1 l0_1.length l0_1) (hc0_1 : l0_1.length ≤ c0_1) (h : chancelref04_Right.f k l0_0 l0_1 a1 = some r) :
  Calls Try.prog 12 #[.agg #[.slice A0_0 l0_0.length c0_0, .slice A0_1 l0_1.length c0_1], .int .i64 a1] w fun e w' => e = .returned (.bool r) ∧ Below w.heap.size w w' := by
 have hu30 := Try.underlying30
 have hu34 := Try.underlying34
 have hu48 := Try.underlying48
 have HR0_0 := Aside0.mk hr0_0
 have HC0_0 := Aside0.mk hc0_0
 clear hr0_0 hc0_0
 have HR0_1 := Aside0.mk hr0_1
 have HC0_1 := Aside0.mk hc0_1
 clear hr0_1 hc0_1
 have HB := Aside0.mk (Below.refl w.heap.size w)
 have H : (chancelref04_Right.l0 k a1 0 l0_0 l0_1) = some r := h
 clear h
 have H' := Aside0.mk H
 clear H
 go_enter Try.func12, Try.ntmps12
 go_wp2_with (first|((with_reducible refine gate_dst (N:=2) rfl ?_);refine box_event ?hg (N:=2) ?hd (cs:=#[.slice A0_0 l0_0.length c0_0, .slice A0_1 l0_1.length c0_1]) (t:=30) ?hr ?_;(case hd => rfl);(case hg => rfl);(case hr => first|(go_simp;done)|(go_simp;rfl));intro gb142 hg w3 hbox hb;have n0_:=Aside0.mk (below_step (by repeat (first|(with_reducible first|exact HB.out|apply below_alloc|apply pw_below_drewN|apply below_drew1)|exact HB.out)) hb);have n1_:=Aside0.mk (hbox);have n2_:=Aside0.mk ((by rw [hg];exact (below_size (by repeat (first|(with_reducible first|exact HB.out|apply below_alloc|apply pw_below_drewN|apply below_drew1)|exact HB.out))) : w.heap.size ≤ gb142));have n3_:=Aside0.mk ((by rw [hg];exact (below_size (by repeat (first|(with_reducible first|exact HB.out|apply below_alloc|apply pw_below_drewN|apply below_drew1)|exact HB.out))) : w.heap.size ≤ gb142));clear HB;have HB:=n0_;have BK142:=n1_;have GW142:=n2_;have GE142:=n3_;clear n0_ n1_ n2_ n3_;clear hb hbox hg))
 repeat (go_quiet (first|((with_reducible refine gate_dst (N:=2) rfl ?_);refine box_event ?hg (N:=2) ?hd (cs:=#[.slice A0_0 l0_0.length c0_0, .slice A0_1 l0_1.length c0_1]) (t:=30) ?hr ?_;(case hd => rfl);(case hg => rfl);(case hr => first|(go_simp;done)|(go_simp;rfl));intro gb142 hg w3 hbox hb;have n0_:=Aside0.mk (below_step (by repeat (first|(with_reducible first|exact HB.out|apply below_alloc|apply pw_below_drewN|apply below_drew1)|exact HB.out)) hb);have n1_:=Aside0.mk (hbox);have n2_:=Aside0.mk ((by rw [hg];exact (below_size (by repeat (first|(with_reducible first|exact HB.out|apply below_alloc|apply pw_below_drewN|apply below_drew1)|exact HB.out))) : w.heap.size ≤ gb142));have n3_:=Aside0.mk ((by rw [hg];exact (below_size (by repeat (first|(with_reducible first|exact HB.out|apply below_alloc|apply pw_below_drewN|apply below_drew1)|exact HB.out))) : w.heap.size ≤ gb142));clear HB;have HB:=n0_;have BK142:=n1_;have GW142:=n2_;have GE142:=n3_;clear n0_ n1_ n2_ n3_;clear hb hbox hg));try go_wp2_with (first|((with_reducible refine gate_dst (N:=2) rfl ?_);refine box_event ?hg (N:=2) ?hd (cs:=#[.slice A0_0 l0_0.length c0_0, .slice A0_1 l0_1.length c0_1]) (t:=30) ?hr ?_;(case hd => rfl);(case hg => rfl);(case hr => first|(go_simp;done)|(go_simp;rfl));intro gb142 hg w3 hbox hb;have n0_:=Aside0.mk (below_step (by repeat (first|(with_reducible first|exact HB.out|apply below_alloc|apply pw_below_drewN|apply below_drew1)|exact HB.out)) hb);have n1_:=Aside0.mk (hbox);have n2_:=Aside0.mk ((by rw [hg];exact (below_size (by repeat (first|(with_reducible first|exact HB.out|apply below_alloc|apply pw_below_drewN|apply below_drew1)|exact HB.out))) : w.heap.size ≤ gb142));have n3_:=Aside0.mk ((by rw [hg];exact (below_size (by repeat (first|(with_reducible first|exact HB.out|apply below_alloc|apply pw_below_drewN|apply below_drew1)|exact HB.out))) : w.heap.size ≤ gb142));clear HB;have HB:=n0_;have BK142:=n1_;have GW142:=n2_;have GE142:=n3_;clear n0_ n1_ n2_ n3_;clear hb hbox hg)))
 go_loopg [5] k (fun kq v5 w' => ∃ (x5_1 : Int), v5 = .int .i64 x5_1 ∧ Aside0 (chancelref04_Right.l0 kq a1 x5_1 l0_0 l0_1 = some r) ∧ Aside0 (kq ≤ k) ∧ Aside0 (w'.heap[gb142]? = some (.cells #[(.slice A0_0 l0_0.length c0_0), (.slice A0_1 l0_1.length c0_1)] 30 (0, 0))) ∧ Aside0 (Below w.heap.size w w'))
 case atStart => exact ⟨(0), (by first|rfl|(simp;done)|(simp [*];done)), H', ⟨Nat.le_refl _⟩, ⟨by (with_reducible repeat (first|refine blk_drewN ?_ _|refine blk_drew ?_|refine blk_alloc ?_ _));exact BK142.out⟩, ⟨by repeat (first|(with_reducible first|exact HB.out|apply below_alloc|apply pw_below_drewN|apply below_drew1|refine below_set ?_ GE142.out)|exact HB.out)⟩⟩
 case round =>
  clear H'
  try clear c1
  try clear p2
  obtain ⟨x5_1, rfl, HA, HK1, BK142, HB⟩ := hrel
  cases gk with
  | zero => exact absurd HA.out (by simp [chancelref04_Right.l0])
  | succ k1 =>
   have H := HA.out
   clear HA
   simp only [chancelref04_Right.l0] at H
   by_cases c4 : x5_1 < (l0_0.length : Int)
   ·rw [if_pos c4] at H
    have c4b0 : decide (x5_1 < (l0_0.length : Int)) = true := decide_eq_true c4
    clear c4
    by_cases c5 : 0 ≤ x5_1
    ·rw [if_pos c5] at H
     have c5b0 : decide (0 ≤ x5_1) = true := decide_eq_true c5
     clear c5
     have HC6 := Aside0.mk H
     clear H
     have hcz7_0 : wr.cell? ⟨gb142, 0, none⟩ = some (.slice A0_0 l0_0.length c0_0) := (blk_cell BK142.out 0).trans rfl
     have hcz7_1 : wr.cell? ⟨gb142, 1, none⟩ = some (.slice A0_1 l0_1.length c0_1) := (blk_cell BK142.out 1).trans rfl
     have hfz7_0 := blk_frozen BK142.out 0
     have hfz7_1 := blk_frozen BK142.out 1
     have p143 : 0 ≤ (x5_1 : Int):=of_decide_eq_true (by first|(with_reducible assumption)|assumption)
     have q143 : x5_1 < (l0_0.length : Int):=of_decide_eq_true (by first|(with_reducible assumption)|assumption)
     obtain ⟨ad143, e143, hx143_0, hx143_1, hx143_2⟩ := at_T34 HR0_0.out x5_1 p143 q143
     cases e143
     replace hx143_0 := (HB.out.cell (World.block_lt_of_cell? w _ hx143_0)).trans hx143_0
     replace hx143_1 := (HB.out.cell (World.block_lt_of_cell? w _ hx143_1)).trans hx143_1
     replace hx143_2 := (HB.out.cell (World.block_lt_of_cell? w _ hx143_2)).trans hx143_2
     replace p143 := eq_true p143
     replace q143 := eq_true q143
     go_upto_region 5 with (first|((with_reducible refine gate_dst (N:=6) rfl ?_);refine box_event ?hg (N:=6) ?hd (cs:=#[.int .i64 0, .int .i64 0, .int .i64 0]) (t:=34) ?hr ?_;(case hd => rfl);(case hg => rfl);(case hr => first|(go_simp;done)|(go_simp;rfl));intro gb144 hg w8 hbox hb;have n0_:=Aside0.mk (blk_below (g:=gb142) (o:=.cells #[.slice (some ad143) l0_0.length c0_0, .slice A0_1 l0_1.length c0_1] 30 (0, 0)) (by (with_reducible repeat (first|refine blk_drewN ?_ _|refine blk_drew ?_|refine blk_alloc ?_ _));exact BK142.out) hb);have n1_:=Aside0.mk (below_step (by repeat (first|(with_reducible first|exact HB.out|apply below_alloc|apply pw_below_drewN|apply below_drew1|refine below_set ?_ GE142.out)|exact HB.out)) hb);have n2_:=Aside0.mk (hbox);have n3_:=Aside0.mk ((by rw [hg];exact (below_size (by repeat (first|(with_reducible first|exact HB.out|apply below_alloc|apply pw_below_drewN|apply below_drew1|refine below_set ?_ GE142.out)|exact HB.out))) : w.heap.size ≤ gb144));have n4_:=Aside0.mk ((by rw [hg];exact (below_size (by repeat (first|(with_reducible first|exact HB.out|apply below_alloc|apply pw_below_drewN|apply below_drew1|refine below_set ?_ GE142.out)|exact HB.out))) : w.heap.size ≤ gb144));have n5_:=Aside0.mk ((by rw [hg];exact Nat.ne_of_lt (blk_lt (g:=gb142) (o:=.cells #[.slice (some ad143) l0_0.length c0_0, .slice A0_1 l0_1.length c0_1] 30 (0, 0)) (by (with_reducible repeat (first|refine blk_drewN ?_ _|refine blk_drew ?_|refine blk_alloc ?_ _));exact BK142.out)) : gb142 ≠ gb144));have n6_:=Aside0.mk ((by rw [hg];exact Nat.ne_of_gt (blk_lt (g:=gb142) (o:=.cells #[.slice (some ad143) l0_0.length c0_0, .slice A0_1 l0_1.length c0_1] 30 (0, 0)) (by (with_reducible repeat (first|refine blk_drewN ?_ _|refine blk_drew ?_|refine blk_alloc ?_ _));exact BK142.out)) : gb144 ≠ gb142));clear BK142;clear HB;have BK142:=n0_;have HB:=n1_;have BK144:=n2_;have GW144:=n3_;have GE144:=n4_;have NB142_144:=n5_;have NB144_142:=n6_;clear n0_ n1_ n2_ n3_ n4_ n5_ n6_;clear hb hbox hg;have hnb9:=NB144_142.out;have hnc9:=NB142_144.out;have hcz10_0 : w8.cell? ⟨gb144, 0, none⟩ = some (.int .i64 0):=(blk_cell BK144.out 0).trans rfl;have hcz10_1 : w8.cell? ⟨gb144, 1, none⟩ = some (.int .i64 0):=(blk_cell BK144.out 1).trans rfl;have hcz10_2 : w8.cell? ⟨gb144, 2, none⟩ = some (.int .i64 0):=(blk_cell BK144.out 2).trans rfl;have hfz10_0:=blk_frozen BK144.out 0;have hfz10_1:=blk_frozen BK144.out 1;have hfz10_2:=blk_frozen BK144.out 2))
     repeat (go_quiet (first|((with_reducible refine gate_dst (N:=6) rfl ?_);refine box_event ?hg (N:=6) ?hd (cs:=#[.int .i64 0, .int .i64 0, .int .i64 0]) (t:=34) ?hr ?_;(case hd => rfl);(case hg => rfl);(case hr => first|(go_simp;done)|(go_simp;rfl));intro gb144 hg w8 hbox hb;have n0_:=Aside0.mk (blk_below (g:=gb142) (o:=.cells #[.slice (some ad143) l0_0.length c0_0, .slice A0_1 l0_1.length c0_1] 30 (0, 0)) (by (with_reducible repeat (first|refine blk_drewN ?_ _|refine blk_drew ?_|refine blk_alloc ?_ _));exact BK142.out) hb);have n1_:=Aside0.mk (below_step (by repeat (first|(with_reducible first|exact HB.out|apply below_alloc|apply pw_below_drewN|apply below_drew1|refine below_set ?_ GE142.out)|exact HB.out)) hb);have n2_:=Aside0.mk (hbox);have n3_:=Aside0.mk ((by rw [hg];exact (below_size (by repeat (first|(with_reducible first|exact HB.out|apply below_alloc|apply pw_below_drewN|apply below_drew1|refine below_set ?_ GE142.out)|exact HB.out))) : w.heap.size ≤ gb144));have n4_:=Aside0.mk ((by rw [hg];exact (below_size (by repeat (first|(with_reducible first|exact HB.out|apply below_alloc|apply pw_below_drewN|apply below_drew1|refine below_set ?_ GE142.out)|exact HB.out))) : w.heap.size ≤ gb144));have n5_:=Aside0.mk ((by rw [hg];exact Nat.ne_of_lt (blk_lt (g:=gb142) (o:=.cells #[.slice (some ad143) l0_0.length c0_0, .slice A0_1 l0_1.length c0_1] 30 (0, 0)) (by (with_reducible repeat (first|refine blk_drewN ?_ _|refine blk_drew ?_|refine blk_alloc ?_ _));exact BK142.out)) : gb142 ≠ gb144));have n6_:=Aside0.mk ((by rw [hg];exact Nat.ne_of_gt (blk_lt (g:=gb142) (o:=.cells #[.slice (some ad143) l0_0.length c0_0, .slice A0_1 l0_1.length c0_1] 30 (0, 0)) (by (with_reducible repeat (first|refine blk_drewN ?_ _|refine blk_drew ?_|refine blk_alloc ?_ _));exact BK142.out)) : gb144 ≠ gb142));clear BK142;clear HB;have BK142:=n0_;have HB:=n1_;have BK144:=n2_;have GW144:=n3_;have GE144:=n4_;have NB142_144:=n5_;have NB144_142:=n6_;clear n0_ n1_ n2_ n3_ n4_ n5_ n6_;clear hb hbox hg;have hnb9:=NB144_142.out;have hnc9:=NB142_144.out;have hcz10_0 : w8.cell? ⟨gb144, 0, none⟩ = some (.int .i64 0):=(blk_cell BK144.out 0).trans rfl;have hcz10_1 : w8.cell? ⟨gb144, 1, none⟩ = some (.int .i64 0):=(blk_cell BK144.out 1).trans rfl;have hcz10_2 : w8.cell? ⟨gb144, 2, none⟩ = some (.int .i64 0):=(blk_cell BK144.out 2).trans rfl;have hfz10_0:=blk_frozen BK144.out 0;have hfz10_1:=blk_frozen BK144.out 1;have hfz10_2:=blk_frozen BK144.out 2));go_upto_region 5 with (first|((with_reducible refine gate_dst (N:=6) rfl ?_);refine box_event ?hg (N:=6) ?hd (cs:=#[.int .i64 0, .int .i64 0, .int .i64 0]) (t:=34) ?hr ?_;(case hd => rfl);(case hg => rfl);(case hr => first|(go_simp;done)|(go_simp;rfl));intro gb144 hg w8 hbox hb;have n0_:=Aside0.mk (blk_below (g:=gb142) (o:=.cells #[.slice (some ad143) l0_0.length c0_0, .slice A0_1 l0_1.length c0_1] 30 (0, 0)) (by (with_reducible repeat (first|refine blk_drewN ?_ _|refine blk_drew ?_|refine blk_alloc ?_ _));exact BK142.out) hb);have n1_:=Aside0.mk (below_step (by repeat (first|(with_reducible first|exact HB.out|apply below_alloc|apply pw_below_drewN|apply below_drew1|refine below_set ?_ GE142.out)|exact HB.out)) hb);have n2_:=Aside0.mk (hbox);have n3_:=Aside0.mk ((by rw [hg];exact (below_size (by repeat (first|(with_reducible first|exact HB.out|apply below_alloc|apply pw_below_drewN|apply below_drew1|refine below_set ?_ GE142.out)|exact HB.out))) : w.heap.size ≤ gb144));have n4_:=Aside0.mk ((by rw [hg];exact (below_size (by repeat (first|(with_reducible first|exact HB.out|apply below_alloc|apply pw_below_drewN|apply below_drew1|refine below_set ?_ GE142.out)|exact HB.out))) : w.heap.size ≤ gb144));have n5_:=Aside0.mk ((by rw [hg];exact Nat.ne_of_lt (blk_lt (g:=gb142) (o:=.cells #[.slice (some ad143) l0_0.length c0_0, .slice A0_1 l0_1.length c0_1] 30 (0, 0)) (by (with_reducible repeat (first|refine blk_drewN ?_ _|refine blk_drew ?_|refine blk_alloc ?_ _));exact BK142.out)) : gb142 ≠ gb144));have n6_:=Aside0.mk ((by rw [hg];exact Nat.ne_of_gt (blk_lt (g:=gb142) (o:=.cells #[.slice (some ad143) l0_0.length c0_0, .slice A0_1 l0_1.length c0_1] 30 (0, 0)) (by (with_reducible repeat (first|refine blk_drewN ?_ _|refine blk_drew ?_|refine blk_alloc ?_ _));exact BK142.out)) : gb144 ≠ gb142));clear BK142;clear HB;have BK142:=n0_;have HB:=n1_;have BK144:=n2_;have GW144:=n3_;have GE144:=n4_;have NB142_144:=n5_;have NB144_142:=n6_;clear n0_ n1_ n2_ n3_ n4_ n5_ n6_;clear hb hbox hg;have hnb9:=NB144_142.out;have hnc9:=NB142_144.out;have hcz10_0 : w8.cell? ⟨gb144, 0, none⟩ = some (.int .i64 0):=(blk_cell BK144.out 0).trans rfl;have hcz10_1 : w8.cell? ⟨gb144, 1, none⟩ = some (.int .i64 0):=(blk_cell BK144.out 1).trans rfl;have hcz10_2 : w8.cell? ⟨gb144, 2, none⟩ = some (.int .i64 0):=(blk_cell BK144.out 2).trans rfl;have hfz10_0:=blk_frozen BK144.out 0;have hfz10_1:=blk_frozen BK144.out 1;have hfz10_2:=blk_frozen BK144.out 2)))
     (try simp only [Act.put, List.setIfInBounds_toArray, List.set_cons_zero, List.set_cons_succ])
     go_cut [41] (fun v41 wc => ∃ (kq : Nat) (x41_5 : Bool), v41 = .bool x41_5 ∧ Aside0 (chancelref04_Right.j1 kq a1 x5_1 x41_5 l0_0 l0_1 ((rd_T34 l0_0 x5_1).f0) ((rd_T34 l0_0 x5_1).f1) ((rd_T34 l0_0 x5_1).f2) = some r) ∧ Aside0 (kq ≤ k1) ∧ Aside0 (wc.heap[gb142]? = some (.cells #[(.slice (some ad143) l0_0.length c0_0), (.slice A0_1 l0_1.length c0_1)] 30 (0, 0))) ∧ Aside0 (wc.heap[gb144]? = some (.cells #[.int .i64 ((rd_T34 l0_0 x5_1).f0), .int .i64 ((rd_T34 l0_0 x5_1).f1), .int .i64 ((rd_T34 l0_0 x5_1).f2)] 34 (0, 0))) ∧ Aside0 (Below w.heap.size w wc))
     case first =>
      have H := HC6.out
      clear HC6
      by_cases c11 : ((rd_T34 l0_0 x5_1).f0) ≤ 0
      ·rw [if_pos c11] at H
       have c11b0 : decide (((rd_T34 l0_0 x5_1).f0) ≤ 0) = true := decide_eq_true c11
       clear c11
       (first | rw [c11b0] | (simp only [i64_w, i32_w]; rw [c11b0]) | skip)
       have H' := Aside0.mk H
       clear H
       have hnb12 := NB144_142.out
       have hnc12 := NB142_144.out
       have hcz13_0 : w8.cell? ⟨gb144, 0, none⟩ = some (.int .i64 0) := (blk_cell BK144.out 0).trans rfl
       have hcz13_1 : w8.cell? ⟨gb144, 1, none⟩ = some (.int .i64 0) := (blk_cell BK144.out 1).trans rfl
       have hcz13_2 : w8.cell? ⟨gb144, 2, none⟩ = some (.int .i64 0) := (blk_cell BK144.out 2).trans rfl
       have hfz13_0 := blk_frozen BK144.out 0
       have hfz13_1 := blk_frozen BK144.out 1
       have hfz13_2 := blk_frozen BK144.out 2
       go_wp2
       repeat (go_quiet (fail); try go_wp2)
       go_meet
       case rel => exact ⟨_, (true), (by first|rfl|(simp;done)|(simp [*];done)), H', ⟨by have:=HK1.out;first|omega|exact Nat.le_refl _⟩, ⟨by (with_reducible repeat (first|refine blk_drewN ?_ _|refine blk_drew ?_|refine blk_alloc ?_ _));refine blk_far ?_ NB142_144.out _;(with_reducible repeat (first|refine blk_drewN ?_ _|refine blk_drew ?_|refine blk_alloc ?_ _));refine blk_far ?_ NB142_144.out _;(with_reducible repeat (first|refine blk_drewN ?_ _|refine blk_drew ?_|refine blk_alloc ?_ _));refine blk_far ?_ NB142_144.out _;(with_reducible repeat (first|refine blk_drewN ?_ _|refine blk_drew ?_|refine blk_alloc ?_ _));exact BK142.out⟩, ⟨by (with_reducible repeat (first|refine blk_drewN ?_ _|refine blk_drew ?_|refine blk_alloc ?_ _));refine blk_put (cs:=#[.int .i64 ((rd_T34 l0_0 x5_1).f0), .int .i64 ((rd_T34 l0_0 x5_1).f1), .int .i64 0]) ?_ 2 _ rfl;(with_reducible repeat (first|refine blk_drewN ?_ _|refine blk_drew ?_|refine blk_alloc ?_ _));refine blk_put (cs:=#[.int .i64 ((rd_T34 l0_0 x5_1).f0), .int .i64 0, .int .i64 0]) ?_ 1 _ rfl;(with_reducible repeat (first|refine blk_drewN ?_ _|refine blk_drew ?_|refine blk_alloc ?_ _));refine blk_put (cs:=#[.int .i64 0, .int .i64 0, .int .i64 0]) ?_ 0 _ rfl;(with_reducible repeat (first|refine blk_drewN ?_ _|refine blk_drew ?_|refine blk_alloc ?_ _));exact BK144.out⟩, ⟨by repeat (first|(with_reducible first|exact HB.out|apply below_alloc|apply pw_below_drewN|apply below_drew1|refine below_set ?_ GE142.out|refine below_set ?_ GE144.out)|exact HB.out)⟩⟩
      ·rw [if_neg c11] at H
       have c11b0 : decide (((rd_T34 l0_0 x5_1).f0) ≤ 0) = false := decide_eq_false c11
       clear c11
       (first | rw [c11b0] | (simp only [i64_w, i32_w]; rw [c11b0]) | skip)
       by_cases c14 : ((rd_T34 l0_0 x5_1).f1) < 0
       ·rw [if_pos c14] at H
        have c14b0 : decide (((rd_T34 l0_0 x5_1).f1) < 0) = true := decide_eq_true c14
        clear c14
        have H' := Aside0.mk H
        clear H
        have hnb15 := NB144_142.out
        have hnc15 := NB142_144.out
        have hcz16_0 : w8.cell? ⟨gb144, 0, none⟩ = some (.int .i64 0) := (blk_cell BK144.out 0).trans rfl
        have hcz16_1 : w8.cell? ⟨gb144, 1, none⟩ = some (.int .i64 0) := (blk_cell BK144.out 1).trans rfl
        have hcz16_2 : w8.cell? ⟨gb144, 2, none⟩ = some (.int .i64 0) := (blk_cell BK144.out 2).trans rfl
        have hfz16_0 := blk_frozen BK144.out 0
        have hfz16_1 := blk_frozen BK144.out 1
        have hfz16_2 := blk_frozen BK144.out 2
        go_wp2
        repeat (go_quiet (fail); try go_wp2)
        go_meet
        case rel => exact ⟨_, (true), (by first|rfl|(simp;done)|(simp [*];done)), H', ⟨by have:=HK1.out;first|omega|exact Nat.le_refl _⟩, ⟨by (with_reducible repeat (first|refine blk_drewN ?_ _|refine blk_drew ?_|refine blk_alloc ?_ _));refine blk_far ?_ NB142_144.out _;(with_reducible repeat (first|refine blk_drewN ?_ _|refine blk_drew ?_|refine blk_alloc ?_ _));refine blk_far ?_ NB142_144.out _;(with_reducible repeat (first|refine blk_drewN ?_ _|refine blk_drew ?_|refine blk_alloc ?_ _));refine blk_far ?_ NB142_144.out _;(with_reducible repeat (first|refine blk_drewN ?_ _|refine blk_drew ?_|refine blk_alloc ?_ _));exact BK142.out⟩, ⟨by (with_reducible repeat (first|refine blk_drewN ?_ _|refine blk_drew ?_|refine blk_alloc ?_ _));refine blk_put (cs:=#[.int .i64 ((rd_T34 l0_0 x5_1).f0), .int .i64 ((rd_T34 l0_0 x5_1).f1), .int .i64 0]) ?_ 2 _ rfl;(with_reducible repeat (first|refine blk_drewN ?_ _|refine blk_drew ?_|refine blk_alloc ?_ _));refine blk_put (cs:=#[.int .i64 ((rd_T34 l0_0 x5_1).f0), .int .i64 0, .int .i64 0]) ?_ 1 _ rfl;(with_reducible repeat (first|refine blk_drewN ?_ _|refine blk_drew ?_|refine blk_alloc ?_ _));refine blk_put (cs:=#[.int .i64 0, .int .i64 0, .int .i64 0]) ?_ 0 _ rfl;(with_reducible repeat (first|refine blk_drewN ?_ _|refine blk_drew ?_|refine blk_alloc ?_ _));exact BK144.out⟩, ⟨by repeat (first|(with_reducible first|exact HB.out|apply below_alloc|apply pw_below_drewN|apply below_drew1|refine below_set ?_ GE142.out|refine below_set ?_ GE144.out)|exact HB.out)⟩⟩
       ·rw [if_neg c14] at H
        have c14b0 : decide (((rd_T34 l0_0 x5_1).f1) < 0) = false := decide_eq_false c14
        clear c14
        by_cases c17 : ((rd_T34 l0_0 x5_1).f2) ≤ ((rd_T34 l0_0 x5_1).f1)
        ·rw [if_pos c17] at H
         have c17b0 : decide (((rd_T34 l0_0 x5_1).f2) ≤ ((rd_T34 l0_0 x5_1).f1)) = true := decide_eq_true c17
         clear c17
         have H' := Aside0.mk H
         clear H
         have hnb18 := NB144_142.out
         have hnc18 := NB142_144.out
         have hcz19_0 : w8.cell? ⟨gb144, 0, none⟩ = some (.int .i64 0) := (blk_cell BK144.out 0).trans rfl
         have hcz19_1 : w8.cell? ⟨gb144, 1, none⟩ = some (.int .i64 0) := (blk_cell BK144.out 1).trans rfl
         have hcz19_2 : w8.cell? ⟨gb144, 2, none⟩ = some (.int .i64 0) := (blk_cell BK144.out 2).trans rfl
         have hfz19_0 := blk_frozen BK144.out 0
         have hfz19_1 := blk_frozen BK144.out 1
         have hfz19_2 := blk_frozen BK144.out 2
         go_wp2
         repeat (go_quiet (fail); try go_wp2)
         go_meet
         case rel => exact ⟨_, (true), (by first|rfl|(simp;done)|(simp [*];done)), H', ⟨by have:=HK1.out;first|omega|exact Nat.le_refl _⟩, ⟨by (with_reducible repeat (first|refine blk_drewN ?_ _|refine blk_drew ?_|refine blk_alloc ?_ _));refine blk_far ?_ NB142_144.out _;(with_reducible repeat (first|refine blk_drewN ?_ _|refine blk_drew ?_|refine blk_alloc ?_ _));refine blk_far ?_ NB142_144.out _;(with_reducible repeat (first|refine blk_drewN ?_ _|refine blk_drew ?_|refine blk_alloc ?_ _));refine blk_far ?_ NB142_144.out _;(with_reducible repeat (first|refine blk_drewN ?_ _|refine blk_drew ?_|refine blk_alloc ?_ _));exact BK142.out⟩, ⟨by (with_reducible repeat (first|refine blk_drewN ?_ _|refine blk_drew ?_|refine blk_alloc ?_ _));refine blk_put (cs:=#[.int .i64 ((rd_T34 l0_0 x5_1).f0), .int .i64 ((rd_T34 l0_0 x5_1).f1), .int .i64 0]) ?_ 2 _ rfl;(with_reducible repeat (first|refine blk_drewN ?_ _|refine blk_drew ?_|refine blk_alloc ?_ _));refine blk_put (cs:=#[.int .i64 ((rd_T34 l0_0 x5_1).f0), .int .i64 0, .int .i64 0]) ?_ 1 _ rfl;(with_reducible repeat (first|refine blk_drewN ?_ _|refine blk_drew ?_|refine blk_alloc ?_ _));refine blk_put (cs:=#[.int .i64 0, .int .i64 0, .int .i64 0]) ?_ 0 _ rfl;(with_reducible repeat (first|refine blk_drewN ?_ _|refine blk_drew ?_|refine blk_alloc ?_ _));exact BK144.out⟩, ⟨by repeat (first|(with_reducible first|exact HB.out|apply below_alloc|apply pw_below_drewN|apply below_drew1|refine below_set ?_ GE142.out|refine below_set ?_ GE144.out)|exact HB.out)⟩⟩
        ·rw [if_neg c17] at H
         have c17b0 : decide (((rd_T34 l0_0 x5_1).f2) ≤ ((rd_T34 l0_0 x5_1).f1)) = false := decide_eq_false c17
         clear c17
         have H' := Aside0.mk H
         clear H
         have hnb20 := NB144_142.out
         have hnc20 := NB142_144.out
         have hcz21_0 : w8.cell? ⟨gb144, 0, none⟩ = some (.int .i64 0) := (blk_cell BK144.out 0).trans rfl
         have hcz21_1 : w8.cell? ⟨gb144, 1, none⟩ = some (.int .i64 0) := (blk_cell BK144.out 1).trans rfl
         have hcz21_2 : w8.cell? ⟨gb144, 2, none⟩ = some (.int .i64 0) := (blk_cell BK144.out 2).trans rfl
         have hfz21_0 := blk_frozen BK144.out 0
         have hfz21_1 := blk_frozen BK144.out 1
         have hfz21_2 := blk_frozen BK144.out 2
         go_wp2
         repeat (go_quiet (fail); try go_wp2)
         go_meet
         case rel => exact ⟨_, (decide (((rd_T34 l0_0 x5_1).f2) > a1)), (by first|rfl|(simp;done)|(simp [*];done)), H', ⟨by have:=HK1.out;first|omega|exact Nat.le_refl _⟩, ⟨by (with_reducible repeat (first|refine blk_drewN ?_ _|refine blk_drew ?_|refine blk_alloc ?_ _));refine blk_far ?_ NB142_144.out _;(with_reducible repeat (first|refine blk_drewN ?_ _|refine blk_drew ?_|refine blk_alloc ?_ _));refine blk_far ?_ NB142_144.out _;(with_reducible repeat (first|refine blk_drewN ?_ _|refine blk_drew ?_|refine blk_alloc ?_ _));refine blk_far ?_ NB142_144.out _;(with_reducible repeat (first|refine blk_drewN ?_ _|refine blk_drew ?_|refine blk_alloc ?_ _));exact BK142.out⟩, ⟨by (with_reducible repeat (first|refine blk_drewN ?_ _|refine blk_drew ?_|refine blk_alloc ?_ _));refine blk_put (cs:=#[.int .i64 ((rd_T34 l0_0 x5_1).f0), .int .i64 ((rd_T34 l0_0 x5_1).f1), .int .i64 0]) ?_ 2 _ rfl;(with_reducible repeat (first|refine blk_drewN ?_ _|refine blk_drew ?_|refine blk_alloc ?_ _));refine blk_put (cs:=#[.int .i64 ((rd_T34 l0_0 x5_1).f0), .int .i64 0, .int .i64 0]) ?_ 1 _ rfl;(with_reducible repeat (first|refine blk_drewN ?_ _|refine blk_drew ?_|refine blk_alloc ?_ _));refine blk_put (cs:=#[.int .i64 0, .int .i64 0, .int .i64 0]) ?_ 0 _ rfl;(with_reducible repeat (first|refine blk_drewN ?_ _|refine blk_drew ?_|refine blk_alloc ?_ _));exact BK144.out⟩, ⟨by repeat (first|(with_reducible first|exact HB.out|apply below_alloc|apply pw_below_drewN|apply below_drew1|refine below_set ?_ GE142.out|refine below_set ?_ GE144.out)|exact HB.out)⟩⟩
     case rest =>
      clear HC6
      try clear c1
      try clear p1
      try clear q1
      try clear hx1
      try clear c2
      try clear p2
      try clear c4
      try clear c4b0
      try clear c5
      try clear c5b0
      try clear c9
      try clear c11
      try clear c11b0
      try clear c12
      try clear c14
      try clear c14b0
      try clear p14
      try clear q14
      try clear hx14
      try clear c15
      try clear c17
      try clear c17b0
      try clear c18
      try clear c20
      try clear hcz10_0
      try clear hcz10_1
      try clear hcz10_2
      try clear hcz13_0
      try clear hcz13_1
      try clear hcz13_2
      try clear hcz16_0
      try clear hcz16_1
      try clear hcz16_2
      try clear hcz19_0
      try clear hcz19_1
      try clear hcz19_2
      try clear hcz21_0
      try clear hcz21_1
      try clear hcz21_2
      try clear hcz7_0
      try clear hcz7_1
      try clear hfz10_0
      try clear hfz10_1
      try clear hfz10_2
      try clear hfz13_0
      try clear hfz13_1
      try clear hfz13_2
      try clear hfz16_0
      try clear hfz16_1
      try clear hfz16_2
      try clear hfz19_0
      try clear hfz19_1
      try clear hfz19_2
      try clear hfz21_0
      try clear hfz21_1
      try clear hfz21_2
      try clear hfz7_0
      try clear hfz7_1
      try clear hx143_0
      try clear hx143_1
      try clear hx143_2
      try clear p143
      try clear p2
      try clear q143
      obtain ⟨kq, x41_5, rfl, HA, HJ5, BK142, BK144, HB⟩ := hcut
      cases kq with
      | zero => exact absurd HA.out (by simp [chancelref04_Right.j1])
      | succ kj5 =>
       have H := HA.out
       clear HA
       simp only [chancelref04_Right.j1] at H
       by_cases c22 : x41_5 = true
       ·subst c22
        have H1 : (some false) = some r := by rw [if_pos rfl] at H; exact H
        clear H
        have H := H1
        clear H1
        obtain rfl := Option.some.inj H
        go_wp2
        repeat (go_quiet (fail); try go_wp2)
        go_ret
        exact ⟨by first|rfl|(simp [errW_none, errW_some] <;> rfl)|(simp [*, errW_none, errW_some] <;> rfl), by repeat (first|(with_reducible first|exact HB.out|apply below_alloc|apply pw_below_drewN|apply below_drew1|refine below_set ?_ GE142.out|refine below_set ?_ GE144.out)|exact HB.out)⟩
       ·replace c22 := Bool.eq_false_iff.mpr c22
        subst c22
        have H1 : (if x5_1 > 0 then (if 0 ≤ (wrap64 (x5_1 - 1)) then (if (wrap64 (x5_1 - 1)) < (l0_0.length : Int) then (if ((rd_T34 l0_0 x5_1).f1) < ((rd_T34 l0_0 (wrap64 (x5_1 - 1))).f2) then (some false) else (if ((rd_T34 l0_0 x5_1).f1) = ((rd_T34 l0_0 (wrap64 (x5_1 - 1))).f2) then (if ((rd_T34 l0_0 x5_1).f0) = ((rd_T34 l0_0 (wrap64 (x5_1 - 1))).f0) then (some false) else (chancelref04_Right.l0 kj5 a1 (wrap64 (x5_1 + 1)) l0_0 l0_1)) else (chancelref04_Right.l0 kj5 a1 (wrap64 (x5_1 + 1)) l0_0 l0_1))) else (none)) else (none)) else (chancelref04_Right.l0 kj5 a1 (wrap64 (x5_1 + 1)) l0_0 l0_1)) = some r := by rw [if_neg (show ¬ (false = true) by decide)] at H; exact H
        clear H
        have H := H1
        clear H1
        by_cases c23 : x5_1 > 0
        ·rw [if_pos c23] at H
         have c23b0 : decide (0 < x5_1) = true := decide_eq_true c23
         clear c23
         obtain ⟨ji24, hji24⟩ : ∃ j_ : Int, (wrap64 (x5_1 - 1)) = j_ := ⟨_, rfl⟩
         replace H : (if 0 ≤ (ji24) then (if (ji24) < (l0_0.length : Int) then (if ((rd_T34 l0_0 x5_1).f1) < ((rd_T34 l0_0 (ji24)).f2) then (some false) else (if ((rd_T34 l0_0 x5_1).f1) = ((rd_T34 l0_0 (ji24)).f2) then (if ((rd_T34 l0_0 x5_1).f0) = ((rd_T34 l0_0 (ji24)).f0) then (some false) else (chancelref04_Right.l0 kj5 a1 (wrap64 (x5_1 + 1)) l0_0 l0_1)) else (chancelref04_Right.l0 kj5 a1 (wrap64 (x5_1 + 1)) l0_0 l0_1))) else (none)) else (none)) = some r := by first | (rw [hji24] at H; exact H) | (simp only [hji24] at H ⊢; exact H)
         have hji24w : (IntKind.i64.wrap (x5_1 - 1)) = ji24 := (i64_w _).trans hji24
         by_cases c25 : 0 ≤ (ji24)
         ·rw [if_pos c25] at H
          have c25b0 : decide (0 ≤ (ji24)) = true := decide_eq_true c25
          clear c25
          by_cases c26 : (ji24) < (l0_0.length : Int)
          ·rw [if_pos c26] at H
           have c26b0 : decide ((ji24) < (l0_0.length : Int)) = true := decide_eq_true c26
           clear c26
           by_cases c27 : ((rd_T34 l0_0 x5_1).f1) < ((rd_T34 l0_0 (ji24)).f2)
           ·rw [if_pos c27] at H
            have c27b0 : decide (((rd_T34 l0_0 x5_1).f1) < ((rd_T34 l0_0 (ji24)).f2)) = true := decide_eq_true c27
            clear c27
            obtain rfl := Option.some.inj H
            have hnb28 := NB144_142.out
            have hnc28 := NB142_144.out
            have hcz29_0 : wc.cell? ⟨gb144, 0, none⟩ = some (.int .i64 ((rd_T34 l0_0 x5_1).f0)) := (blk_cell BK144.out 0).trans rfl
            have hcz29_1 : wc.cell? ⟨gb144, 1, none⟩ = some (.int .i64 ((rd_T34 l0_0 x5_1).f1)) := (blk_cell BK144.out 1).trans rfl
            have hcz29_2 : wc.cell? ⟨gb144, 2, none⟩ = some (.int .i64 ((rd_T34 l0_0 x5_1).f2)) := (blk_cell BK144.out 2).trans rfl
            have hfz29_0 := blk_frozen BK144.out 0
            have hfz29_1 := blk_frozen BK144.out 1
            have hfz29_2 := blk_frozen BK144.out 2
            have hcz30_0 : wc.cell? ⟨gb142, 0, none⟩ = some (.slice (some ad143) l0_0.length c0_0) := (blk_cell BK142.out 0).trans rfl
            have hcz30_1 : wc.cell? ⟨gb142, 1, none⟩ = some (.slice A0_1 l0_1.length c0_1) := (blk_cell BK142.out 1).trans rfl
            have hfz30_0 := blk_frozen BK142.out 0
            have hfz30_1 := blk_frozen BK142.out 1
            have p145 : 0 ≤ ((ji24) : Int):=of_decide_eq_true (by first|(with_reducible assumption)|assumption)
            have q145 : (ji24) < (l0_0.length : Int):=of_decide_eq_true (by first|(with_reducible assumption)|assumption)
            obtain ⟨ad145, e145, hx145_0, hx145_1, hx145_2⟩ := at_T34 HR0_0.out (ji24) p145 q145
            obtain rfl : ad143 = ad145 := (by injection e145)
            replace hx145_0 := (HB.out.cell (World.block_lt_of_cell? w _ hx145_0)).trans hx145_0
            replace hx145_1 := (HB.out.cell (World.block_lt_of_cell? w _ hx145_1)).trans hx145_1
            replace hx145_2 := (HB.out.cell (World.block_lt_of_cell? w _ hx145_2)).trans hx145_2
            replace p145 := eq_true p145
            replace q145 := eq_true q145
            go_wp2
            repeat (go_quiet (fail); try go_wp2)
            go_ret
            exact ⟨by first|rfl|(simp [errW_none, errW_some] <;> rfl)|(simp only [← hji24];first|rfl|(simp [errW_none, errW_some] <;> rfl))|(simp [*, errW_none, errW_some] <;> rfl), by repeat (first|(with_reducible first|exact HB.out|apply below_alloc|apply pw_below_drewN|apply below_drew1|refine below_set ?_ GE142.out|refine below_set ?_ GE144.out)|exact HB.out)⟩
           ·rw [if_neg c27] at H
            have c27b0 : decide (((rd_T34 l0_0 x5_1).f1) < ((rd_T34 l0_0 (ji24)).f2)) = false := decide_eq_false c27
            clear c27
            by_cases c31 : ((rd_T34 l0_0 x5_1).f1) = ((rd_T34 l0_0 (ji24)).f2)
            ·rw [if_pos c31] at H
             have c31b0 : (((rd_T34 l0_0 x5_1).f1) == ((rd_T34 l0_0 (ji24)).f2)) = true := beq_iff_eq.mpr c31
             have c31b1 : (((rd_T34 l0_0 x5_1).f1) != ((rd_T34 l0_0 (ji24)).f2)) = false := bne_eq_false_iff_eq.mpr c31
             clear c31
             by_cases c32 : ((rd_T34 l0_0 x5_1).f0) = ((rd_T34 l0_0 (ji24)).f0)
             ·rw [if_pos c32] at H
              have c32b0 : (((rd_T34 l0_0 x5_1).f0) == ((rd_T34 l0_0 (ji24)).f0)) = true := beq_iff_eq.mpr c32
              have c32b1 : (((rd_T34 l0_0 x5_1).f0) != ((rd_T34 l0_0 (ji24)).f0)) = false := bne_eq_false_iff_eq.mpr c32
              clear c32
              obtain rfl := Option.some.inj H
              have hnb33 := NB144_142.out
              have hnc33 := NB142_144.out
              have hcz34_0 : wc.cell? ⟨gb144, 0, none⟩ = some (.int .i64 ((rd_T34 l0_0 x5_1).f0)) := (blk_cell BK144.out 0).trans rfl
              have hcz34_1 : wc.cell? ⟨gb144, 1, none⟩ = some (.int .i64 ((rd_T34 l0_0 x5_1).f1)) := (blk_cell BK144.out 1).trans rfl
              have hcz34_2 : wc.cell? ⟨gb144, 2, none⟩ = some (.int .i64 ((rd_T34 l0_0 x5_1).f2)) := (blk_cell BK144.out 2).trans rfl
              have hfz34_0 := blk_frozen BK144.out 0
              have hfz34_1 := blk_frozen BK144.out 1
              have hfz34_2 := blk_frozen BK144.out 2
              have hcz35_0 : wc.cell? ⟨gb142, 0, none⟩ = some (.slice (some ad143) l0_0.length c0_0) := (blk_cell BK142.out 0).trans rfl
              have hcz35_1 : wc.cell? ⟨gb142, 1, none⟩ = some (.slice A0_1 l0_1.length c0_1) := (blk_cell BK142.out 1).trans rfl
              have hfz35_0 := blk_frozen BK142.out 0
              have hfz35_1 := blk_frozen BK142.out 1
              have p145 : 0 ≤ ((ji24) : Int):=of_decide_eq_true (by first|(with_reducible assumption)|assumption)
              have q145 : (ji24) < (l0_0.length : Int):=of_decide_eq_true (by first|(with_reducible assumption)|assumption)
              obtain ⟨ad145, e145, hx145_0, hx145_1, hx145_2⟩ := at_T34 HR0_0.out (ji24) p145 q145
              obtain rfl : ad143 = ad145 := (by injection e145)
              replace hx145_0 := (HB.out.cell (World.block_lt_of_cell? w _ hx145_0)).trans hx145_0
              replace hx145_1 := (HB.out.cell (World.block_lt_of_cell? w _ hx145_1)).trans hx145_1
              replace hx145_2 := (HB.out.cell (World.block_lt_of_cell? w _ hx145_2)).trans hx145_2
              replace p145 := eq_true p145
              replace q145 := eq_true q145
              have p146 : 0 ≤ ((ji24) : Int):=of_decide_eq_true (by first|(with_reducible assumption)|assumption)
              have q146 : (ji24) < (l0_0.length : Int):=of_decide_eq_true (by first|(with_reducible assumption)|assumption)
              obtain ⟨ad146, e146, hx146_0, hx146_1, hx146_2⟩ := at_T34 HR0_0.out (ji24) p146 q146
              obtain rfl : ad143 = ad146 := (by injection e146)
              replace hx146_0 := (HB.out.cell (World.block_lt_of_cell? w _ hx146_0)).trans hx146_0
              replace hx146_1 := (HB.out.cell (World.block_lt_of_cell? w _ hx146_1)).trans hx146_1
              replace hx146_2 := (HB.out.cell (World.block_lt_of_cell? w _ hx146_2)).trans hx146_2
              replace p146 := eq_true p146
              replace q146 := eq_true q146
              have p147 : 0 ≤ ((ji24) : Int):=of_decide_eq_true (by first|(with_reducible assumption)|assumption)
              have q147 : (ji24) < (l0_0.length : Int):=of_decide_eq_true (by first|(with_reducible assumption)|assumption)
              obtain ⟨ad147, e147, hx147_0, hx147_1, hx147_2⟩ := at_T34 HR0_0.out (ji24) p147 q147
              obtain rfl : ad143 = ad147 := (by injection e147)
              replace hx147_0 := (HB.out.cell (World.block_lt_of_cell? w _ hx147_0)).trans hx147_0
              replace hx147_1 := (HB.out.cell (World.block_lt_of_cell? w _ hx147_1)).trans hx147_1
              replace hx147_2 := (HB.out.cell (World.block_lt_of_cell? w _ hx147_2)).trans hx147_2
              replace p147 := eq_true p147
              replace q147 := eq_true q147
              go_wp2
              repeat (go_quiet (fail); try go_wp2)
              go_ret
              exact ⟨by first|rfl|(simp [errW_none, errW_some] <;> rfl)|(simp only [← hji24];first|rfl|(simp [errW_none, errW_some] <;> rfl))|(simp [*, errW_none, errW_some] <;> rfl), by repeat (first|(with_reducible first|exact HB.out|apply below_alloc|apply pw_below_drewN|apply below_drew1|refine below_set ?_ GE142.out|refine below_set ?_ GE144.out)|exact HB.out)⟩
             ·rw [if_neg c32] at H
              have c32b0 : (((rd_T34 l0_0 x5_1).f0) == ((rd_T34 l0_0 (ji24)).f0)) = false := beq_eq_false_iff_ne.mpr c32
              have c32b1 : (((rd_T34 l0_0 x5_1).f0) != ((rd_T34 l0_0 (ji24)).f0)) = true := bne_iff_ne.mpr c32
              have H' := Aside0.mk H
              clear H
              have hnb36 := NB144_142.out
              have hnc36 := NB142_144.out
              have hcz37_0 : wc.cell? ⟨gb144, 0, none⟩ = some (.int .i64 ((rd_T34 l0_0 x5_1).f0)) := (blk_cell BK144.out 0).trans rfl
              have hcz37_1 : wc.cell? ⟨gb144, 1, none⟩ = some (.int .i64 ((rd_T34 l0_0 x5_1).f1)) := (blk_cell BK144.out 1).trans rfl
              have hcz37_2 : wc.cell? ⟨gb144, 2, none⟩ = some (.int .i64 ((rd_T34 l0_0 x5_1).f2)) := (blk_cell BK144.out 2).trans rfl
              have hfz37_0 := blk_frozen BK144.out 0
              have hfz37_1 := blk_frozen BK144.out 1
              have hfz37_2 := blk_frozen BK144.out 2
              have hcz38_0 : wc.cell? ⟨gb142, 0, none⟩ = some (.slice (some ad143) l0_0.length c0_0) := (blk_cell BK142.out 0).trans rfl
              have hcz38_1 : wc.cell? ⟨gb142, 1, none⟩ = some (.slice A0_1 l0_1.length c0_1) := (blk_cell BK142.out 1).trans rfl
              have hfz38_0 := blk_frozen BK142.out 0
              have hfz38_1 := blk_frozen BK142.out 1
              have p145 : 0 ≤ ((ji24) : Int):=of_decide_eq_true (by first|(with_reducible assumption)|assumption)
              have q145 : (ji24) < (l0_0.length : Int):=of_decide_eq_true (by first|(with_reducible assumption)|assumption)
              obtain ⟨ad145, e145, hx145_0, hx145_1, hx145_2⟩ := at_T34 HR0_0.out (ji24) p145 q145
              obtain rfl : ad143 = ad145 := (by injection e145)
              replace hx145_0 := (HB.out.cell (World.block_lt_of_cell? w _ hx145_0)).trans hx145_0
              replace hx145_1 := (HB.out.cell (World.block_lt_of_cell? w _ hx145_1)).trans hx145_1
              replace hx145_2 := (HB.out.cell (World.block_lt_of_cell? w _ hx145_2)).trans hx145_2
              replace p145 := eq_true p145
              replace q145 := eq_true q145
              have p146 : 0 ≤ ((ji24) : Int):=of_decide_eq_true (by first|(with_reducible assumption)|assumption)
              have q146 : (ji24) < (l0_0.length : Int):=of_decide_eq_true (by first|(with_reducible assumption)|assumption)
              obtain ⟨ad146, e146, hx146_0, hx146_1, hx146_2⟩ := at_T34 HR0_0.out (ji24) p146 q146
              obtain rfl : ad143 = ad146 := (by injection e146)
              replace hx146_0 := (HB.out.cell (World.block_lt_of_cell? w _ hx146_0)).trans hx146_0
              replace hx146_1 := (HB.out.cell (World.block_lt_of_cell? w _ hx146_1)).trans hx146_1
              replace hx146_2 := (HB.out.cell (World.block_lt_of_cell? w _ hx146_2)).trans hx146_2
              replace p146 := eq_true p146
              replace q146 := eq_true q146
              have p147 : 0 ≤ ((ji24) : Int):=of_decide_eq_true (by first|(with_reducible assumption)|assumption)
              have q147 : (ji24) < (l0_0.length : Int):=of_decide_eq_true (by first|(with_reducible assumption)|assumption)
              obtain ⟨ad147, e147, hx147_0, hx147_1, hx147_2⟩ := at_T34 HR0_0.out (ji24) p147 q147
              obtain rfl : ad143 = ad147 := (by injection e147)
              replace hx147_0 := (HB.out.cell (World.block_lt_of_cell? w _ hx147_0)).trans hx147_0
              replace hx147_1 := (HB.out.cell (World.block_lt_of_cell? w _ hx147_1)).trans hx147_1
              replace hx147_2 := (HB.out.cell (World.block_lt_of_cell? w _ hx147_2)).trans hx147_2
              replace p147 := eq_true p147
              replace q147 := eq_true q147
              go_wp2
              repeat (go_quiet (fail); try go_wp2)
              go_roundg kj5
              case measure => have := HK1.out; have := HJ5.out; omega
              case rel => exact ⟨(wrap64 (x5_1 + 1)), (by first|rfl|(simp;done)|(simp [*];done)), H', ⟨by have:=HK1.out;have:=HJ5.out;omega⟩, ⟨by (with_reducible repeat (first|refine blk_drewN ?_ _|refine blk_drew ?_|refine blk_alloc ?_ _));exact BK142.out⟩, ⟨by repeat (first|(with_reducible first|exact HB.out|apply below_alloc|apply pw_below_drewN|apply below_drew1|refine below_set ?_ GE142.out|refine below_set ?_ GE144.out)|exact HB.out)⟩⟩
            ·rw [if_neg c31] at H
             have c31b0 : (((rd_T34 l0_0 x5_1).f1) == ((rd_T34 l0_0 (ji24)).f2)) = false := beq_eq_false_iff_ne.mpr c31
             have c31b1 : (((rd_T34 l0_0 x5_1).f1) != ((rd_T34 l0_0 (ji24)).f2)) = true := bne_iff_ne.mpr c31
             have H' := Aside0.mk H
             clear H
             have hnb39 := NB144_142.out
             have hnc39 := NB142_144.out
             have hcz40_0 : wc.cell? ⟨gb144, 0, none⟩ = some (.int .i64 ((rd_T34 l0_0 x5_1).f0)) := (blk_cell BK144.out 0).trans rfl
             have hcz40_1 : wc.cell? ⟨gb144, 1, none⟩ = some (.int .i64 ((rd_T34 l0_0 x5_1).f1)) := (blk_cell BK144.out 1).trans rfl
             have hcz40_2 : wc.cell? ⟨gb144, 2, none⟩ = some (.int .i64 ((rd_T34 l0_0 x5_1).f2)) := (blk_cell BK144.out 2).trans rfl
             have hfz40_0 := blk_frozen BK144.out 0
             have hfz40_1 := blk_frozen BK144.out 1
             have hfz40_2 := blk_frozen BK144.out 2
             have hcz41_0 : wc.cell? ⟨gb142, 0, none⟩ = some (.slice (some ad143) l0_0.length c0_0) := (blk_cell BK142.out 0).trans rfl
             have hcz41_1 : wc.cell? ⟨gb142, 1, none⟩ = some (.slice A0_1 l0_1.length c0_1) := (blk_cell BK142.out 1).trans rfl
             have hfz41_0 := blk_frozen BK142.out 0
             have hfz41_1 := blk_frozen BK142.out 1
             have p145 : 0 ≤ ((ji24) : Int):=of_decide_eq_true (by first|(with_reducible assumption)|assumption)
             have q145 : (ji24) < (l0_0.length : Int):=of_decide_eq_true (by first|(with_reducible assumption)|assumption)
             obtain ⟨ad145, e145, hx145_0, hx145_1, hx145_2⟩ := at_T34 HR0_0.out (ji24) p145 q145
             obtain rfl : ad143 = ad145 := (by injection e145)
             replace hx145_0 := (HB.out.cell (World.block_lt_of_cell? w _ hx145_0)).trans hx145_0
             replace hx145_1 := (HB.out.cell (World.block_lt_of_cell? w _ hx145_1)).trans hx145_1
             replace hx145_2 := (HB.out.cell (World.block_lt_of_cell? w _ hx145_2)).trans hx145_2
             replace p145 := eq_true p145
             replace q145 := eq_true q145
             have p146 : 0 ≤ ((ji24) : Int):=of_decide_eq_true (by first|(with_reducible assumption)|assumption)
             have q146 : (ji24) < (l0_0.length : Int):=of_decide_eq_true (by first|(with_reducible assumption)|assumption)
             obtain ⟨ad146, e146, hx146_0, hx146_1, hx146_2⟩ := at_T34 HR0_0.out (ji24) p146 q146
             obtain rfl : ad143 = ad146 := (by injection e146)
             replace hx146_0 := (HB.out.cell (World.block_lt_of_cell? w _ hx146_0)).trans hx146_0
             replace hx146_1 := (HB.out.cell (World.block_lt_of_cell? w _ hx146_1)).trans hx146_1
             replace hx146_2 := (HB.out.cell (World.block_lt_of_cell? w _ hx146_2)).trans hx146_2
             replace p146 := eq_true p146
             replace q146 := eq_true q146
             go_wp2
             repeat (go_quiet (fail); try go_wp2)
             go_roundg kj5
             case measure => have := HK1.out; have := HJ5.out; omega
             case rel => exact ⟨(wrap64 (x5_1 + 1)), (by first|rfl|(simp;done)|(simp [*];done)), H', ⟨by have:=HK1.out;have:=HJ5.out;omega⟩, ⟨by (with_reducible repeat (first|refine blk_drewN ?_ _|refine blk_drew ?_|refine blk_alloc ?_ _));exact BK142.out⟩, ⟨by repeat (first|(with_reducible first|exact HB.out|apply below_alloc|apply pw_below_drewN|apply below_drew1|refine below_set ?_ GE142.out|refine below_set ?_ GE144.out)|exact HB.out)⟩⟩
          ·rw [if_neg c26] at H
           exact absurd H (by simp)
         ·rw [if_neg c25] at H
          exact absurd H (by simp)
        ·rw [if_neg c23] at H
         have c23b0 : decide (0 < x5_1) = false := decide_eq_false c23
         clear c23
         have H' := Aside0.mk H
         clear H
         go_wp2
         repeat (go_quiet (fail); try go_wp2)
         go_roundg kj5
         case measure => have := HK1.out; have := HJ5.out; omega
         case rel => exact ⟨(wrap64 (x5_1 + 1)), (by first|rfl|(simp;done)|(simp [*];done)), H', ⟨by have:=HK1.out;have:=HJ5.out;omega⟩, ⟨by (with_reducible repeat (first|refine blk_drewN ?_ _|refine blk_drew ?_|refine blk_alloc ?_ _));exact BK142.out⟩, ⟨by repeat (first|(with_reducible first|exact HB.out|apply below_alloc|apply pw_below_drewN|apply below_drew1|refine below_set ?_ GE142.out|refine below_set ?_ GE144.out)|exact HB.out)⟩⟩
    ·rw [if_neg c5] at H
     exact absurd H (by simp)
   ·rw [if_neg c4] at H
    have c4b0 : decide (x5_1 < (l0_0.length : Int)) = false := decide_eq_false c4
    clear c4
    have H' := Aside0.mk H
    clear H
    have hcz42_0 : wr.cell? ⟨gb142, 0, none⟩ = some (.slice A0_0 l0_0.length c0_0) := (blk_cell BK142.out 0).trans rfl
    have hcz42_1 : wr.cell? ⟨gb142, 1, none⟩ = some (.slice A0_1 l0_1.length c0_1) := (blk_cell BK142.out 1).trans rfl
    have hfz42_0 := blk_frozen BK142.out 0
    have hfz42_1 := blk_frozen BK142.out 1
    go_wp2
    repeat (go_quiet (fail); try go_wp2)
    go_loopg [7] k1 (fun kq v7 w' => ∃ (x7_2 : Int), v7 = .int .i64 x7_2 ∧ Aside0 (chancelref04_Right.l1 kq a1 x7_2 l0_0 l0_1 = some r) ∧ Aside0 (kq ≤ k1) ∧ Aside0 (w'.heap[gb142]? = some (.cells #[(.slice A0_0 l0_0.length c0_0), (.slice A0_1 l0_1.length c0_1)] 30 (0, 0))) ∧ Aside0 (Below w.heap.size w w'))
    case atStart => exact ⟨(0), (by first|rfl|(simp;done)|(simp [*];done)), H', ⟨Nat.le_refl _⟩, ⟨by (with_reducible repeat (first|refine blk_drewN ?_ _|refine blk_drew ?_|refine blk_alloc ?_ _));exact BK142.out⟩, ⟨by repeat (first|(with_reducible first|exact HB.out|apply below_alloc|apply pw_below_drewN|apply below_drew1|refine below_set ?_ GE142.out)|exact HB.out)⟩⟩
    case round =>
     clear H'
     try clear c1
     try clear p1
     try clear q1
     try clear hx1
     try clear c2
     try clear p2
     try clear c3
     try clear c4
     try clear c4b0
     try clear c5
     try clear c5b0
     try clear p6
     try clear c9
     try clear c11
     try clear c11b0
     try clear c12
     try clear c14
     try clear c14b0
     try clear p14
     try clear q14
     try clear hx14
     try clear c15
     try clear c17
     try clear c17b0
     try clear c18
     try clear c20
     try clear c22
     try clear c23
     try clear c23b0
     try clear c25
     try clear c25b0
     try clear c26
     try clear c26b0
     try clear c27
     try clear c27b0
     try clear c28
     try clear c31
     try clear c31b0
     try clear c31b1
     try clear c32
     try clear c32b0
     try clear c32b1
     try clear c33
     try clear c36
     try clear c39
     try clear hcz10_0
     try clear hcz10_1
     try clear hcz10_2
     try clear hcz13_0
     try clear hcz13_1
     try clear hcz13_2
     try clear hcz16_0
     try clear hcz16_1
     try clear hcz16_2
     try clear hcz19_0
     try clear hcz19_1
     try clear hcz19_2
     try clear hcz21_0
     try clear hcz21_1
     try clear hcz21_2
     try clear hcz29_0
     try clear hcz29_1
     try clear hcz29_2
     try clear hcz30_0
     try clear hcz30_1
     try clear hcz34_0
     try clear hcz34_1
     try clear hcz34_2
     try clear hcz35_0
     try clear hcz35_1
     try clear hcz37_0
     try clear hcz37_1
     try clear hcz37_2
     try clear hcz38_0
     try clear hcz38_1
     try clear hcz40_0
     try clear hcz40_1
     try clear hcz40_2
     try clear hcz41_0
     try clear hcz41_1
     try clear hcz42_0
     try clear hcz42_1
     try clear hcz7_0
     try clear hcz7_1
     try clear hfz10_0
     try clear hfz10_1
     try clear hfz10_2
     try clear hfz13_0
     try clear hfz13_1
     try clear hfz13_2
     try clear hfz16_0
     try clear hfz16_1
     try clear hfz16_2
     try clear hfz19_0
     try clear hfz19_1
     try clear hfz19_2
     try clear hfz21_0
     try clear hfz21_1
     try clear hfz21_2
     try clear hfz29_0
     try clear hfz29_1
     try clear hfz29_2
     try clear hfz30_0
     try clear hfz30_1
     try clear hfz34_0
     try clear hfz34_1
     try clear hfz34_2
     try clear hfz35_0
     try clear hfz35_1
     try clear hfz37_0
     try clear hfz37_1
     try clear hfz37_2
     try clear hfz38_0
     try clear hfz38_1
     try clear hfz40_0
     try clear hfz40_1
     try clear hfz40_2
     try clear hfz41_0
     try clear hfz41_1
     try clear hfz42_0
     try clear hfz42_1
     try clear hfz7_0
     try clear hfz7_1
     try clear hx143_0
     try clear hx143_1
     try clear hx143_2
     try clear hx145_0
     try clear hx145_1
     try clear hx145_2
     try clear hx146_0
     try clear hx146_1
     try clear hx146_2
     try clear hx147_0
     try clear hx147_1
     try clear hx147_2
     try clear p1
     try clear p14
     try clear p143
     try clear p145
     try clear p146
     try clear p147
     try clear p2
     try clear q1
     try clear q14
     try clear q143
     try clear q145
     try clear q146
     try clear q147
     obtain ⟨x7_2, rfl, HA, HK2, BK142, HB⟩ := hrel
     cases gk with
     | zero => exact absurd HA.out (by simp [chancelref04_Right.l1])
     | succ k2 =>
      have H := HA.out
      clear HA
      simp only [chancelref04_Right.l1] at H
      by_cases c43 : x7_2 < (l0_1.length : Int)
      ·rw [if_pos c43] at H
       have c43b0 : decide (x7_2 < (l0_1.length : Int)) = true := decide_eq_true c43
       clear c43
       by_cases c44 : 0 ≤ x7_2
       ·rw [if_pos c44] at H
        have c44b0 : decide (0 ≤ x7_2) = true := decide_eq_true c44
        clear c44
        have HC45 := Aside0.mk H
        clear H
        have hcz46_0 : wr.cell? ⟨gb142, 0, none⟩ = some (.slice A0_0 l0_0.length c0_0) := (blk_cell BK142.out 0).trans rfl
        have hcz46_1 : wr.cell? ⟨gb142, 1, none⟩ = some (.slice A0_1 l0_1.length c0_1) := (blk_cell BK142.out 1).trans rfl
        have hfz46_0 := blk_frozen BK142.out 0
        have hfz46_1 := blk_frozen BK142.out 1
        have p148 : 0 ≤ (x7_2 : Int):=of_decide_eq_true (by first|(with_reducible assumption)|assumption)
        have q148 : x7_2 < (l0_1.length : Int):=of_decide_eq_true (by first|(with_reducible assumption)|assumption)
        obtain ⟨ad148, e148, hx148_0, hx148_1⟩ := at_T48 HR0_1.out x7_2 p148 q148
        cases e148
        replace hx148_0 := (HB.out.cell (World.block_lt_of_cell? w _ hx148_0)).trans hx148_0
        replace hx148_1 := (HB.out.cell (World.block_lt_of_cell? w _ hx148_1)).trans hx148_1
        replace p148 := eq_true p148
        replace q148 := eq_true q148
        go_upto_region 13 with (first|((with_reducible refine gate_dst (N:=8) rfl ?_);refine box_event ?hg (N:=8) ?hd (cs:=#[.int .i64 0, .int .i64 0]) (t:=48) ?hr ?_;(case hd => rfl);(case hg => rfl);(case hr => first|(go_simp;done)|(go_simp;rfl));intro gb149 hg w47 hbox hb;have n0_:=Aside0.mk (blk_below (g:=gb142) (o:=.cells #[.slice A0_0 l0_0.length c0_0, .slice (some ad148) l0_1.length c0_1] 30 (0, 0)) (by (with_reducible repeat (first|refine blk_drewN ?_ _|refine blk_drew ?_|refine blk_alloc ?_ _));exact BK142.out) hb);have n1_:=Aside0.mk (below_step (by repeat (first|(with_reducible first|exact HB.out|apply below_alloc|apply pw_below_drewN|apply below_drew1|refine below_set ?_ GE142.out)|exact HB.out)) hb);have n2_:=Aside0.mk (hbox);have n3_:=Aside0.mk ((by rw [hg];exact (below_size (by repeat (first|(with_reducible first|exact HB.out|apply below_alloc|apply pw_below_drewN|apply below_drew1|refine below_set ?_ GE142.out)|exact HB.out))) : w.heap.size ≤ gb149));have n4_:=Aside0.mk ((by rw [hg];exact (below_size (by repeat (first|(with_reducible first|exact HB.out|apply below_alloc|apply pw_below_drewN|apply below_drew1|refine below_set ?_ GE142.out)|exact HB.out))) : w.heap.size ≤ gb149));have n5_:=Aside0.mk ((by rw [hg];exact Nat.ne_of_lt (blk_lt (g:=gb142) (o:=.cells #[.slice A0_0 l0_0.length c0_0, .slice (some ad148) l0_1.length c0_1] 30 (0, 0)) (by (with_reducible repeat (first|refine blk_drewN ?_ _|refine blk_drew ?_|refine blk_alloc ?_ _));exact BK142.out)) : gb142 ≠ gb149));have n6_:=Aside0.mk ((by rw [hg];exact Nat.ne_of_gt (blk_lt (g:=gb142) (o:=.cells #[.slice A0_0 l0_0.length c0_0, .slice (some ad148) l0_1.length c0_1] 30 (0, 0)) (by (with_reducible repeat (first|refine blk_drewN ?_ _|refine blk_drew ?_|refine blk_alloc ?_ _));exact BK142.out)) : gb149 ≠ gb142));clear BK142;clear HB;have BK142:=n0_;have HB:=n1_;have BK149:=n2_;have GW149:=n3_;have GE149:=n4_;have NB142_149:=n5_;have NB149_142:=n6_;clear n0_ n1_ n2_ n3_ n4_ n5_ n6_;clear hb hbox hg;have hnb48:=NB149_142.out;have hnc48:=NB142_149.out;have hcz49_0 : w47.cell? ⟨gb149, 0, none⟩ = some (.int .i64 0):=(blk_cell BK149.out 0).trans rfl;have hcz49_1 : w47.cell? ⟨gb149, 1, none⟩ = some (.int .i64 0):=(blk_cell BK149.out 1).trans rfl;have hfz49_0:=blk_frozen BK149.out 0;have hfz49_1:=blk_frozen BK149.out 1))
        repeat (go_quiet (first|((with_reducible refine gate_dst (N:=8) rfl ?_);refine box_event ?hg (N:=8) ?hd (cs:=#[.int .i64 0, .int .i64 0]) (t:=48) ?hr ?_;(case hd => rfl);(case hg => rfl);(case hr => first|(go_simp;done)|(go_simp;rfl));intro gb149 hg w47 hbox hb;have n0_:=Aside0.mk (blk_below (g:=gb142) (o:=.cells #[.slice A0_0 l0_0.length c0_0, .slice (some ad148) l0_1.length c0_1] 30 (0, 0)) (by (with_reducible repeat (first|refine blk_drewN ?_ _|refine blk_drew ?_|refine blk_alloc ?_ _));exact BK142.out) hb);have n1_:=Aside0.mk (below_step (by repeat (first|(with_reducible first|exact HB.out|apply below_alloc|apply pw_below_drewN|apply below_drew1|refine below_set ?_ GE142.out)|exact HB.out)) hb);have n2_:=Aside0.mk (hbox);have n3_:=Aside0.mk ((by rw [hg];exact (below_size (by repeat (first|(with_reducible first|exact HB.out|apply below_alloc|apply pw_below_drewN|apply below_drew1|refine below_set ?_ GE142.out)|exact HB.out))) : w.heap.size ≤ gb149));have n4_:=Aside0.mk ((by rw [hg];exact (below_size (by repeat (first|(with_reducible first|exact HB.out|apply below_alloc|apply pw_below_drewN|apply below_drew1|refine below_set ?_ GE142.out)|exact HB.out))) : w.heap.size ≤ gb149));have n5_:=Aside0.mk ((by rw [hg];exact Nat.ne_of_lt (blk_lt (g:=gb142) (o:=.cells #[.slice A0_0 l0_0.length c0_0, .slice (some ad148) l0_1.length c0_1] 30 (0, 0)) (by (with_reducible repeat (first|refine blk_drewN ?_ _|refine blk_drew ?_|refine blk_alloc ?_ _));exact BK142.out)) : gb142 ≠ gb149));have n6_:=Aside0.mk ((by rw [hg];exact Nat.ne_of_gt (blk_lt (g:=gb142) (o:=.cells #[.slice A0_0 l0_0.length c0_0, .slice (some ad148) l0_1.length c0_1] 30 (0, 0)) (by (with_reducible repeat (first|refine blk_drewN ?_ _|refine blk_drew ?_|refine blk_alloc ?_ _));exact BK142.out)) : gb149 ≠ gb142));clear BK142;clear HB;have BK142:=n0_;have HB:=n1_;have BK149:=n2_;have GW149:=n3_;have GE149:=n4_;have NB142_149:=n5_;have NB149_142:=n6_;clear n0_ n1_ n2_ n3_ n4_ n5_ n6_;clear hb hbox hg;have hnb48:=NB149_142.out;have hnc48:=NB142_149.out;have hcz49_0 : w47.cell? ⟨gb149, 0, none⟩ = some (.int .i64 0):=(blk_cell BK149.out 0).trans rfl;have hcz49_1 : w47.cell? ⟨gb149, 1, none⟩ = some (.int .i64 0):=(blk_cell BK149.out 1).trans rfl;have hfz49_0:=blk_frozen BK149.out 0;have hfz49_1:=blk_frozen BK149.out 1));go_upto_region 13 with (first|((with_reducible refine gate_dst (N:=8) rfl ?_);refine box_event ?hg (N:=8) ?hd (cs:=#[.int .i64 0, .int .i64 0]) (t:=48) ?hr ?_;(case hd => rfl);(case hg => rfl);(case hr => first|(go_simp;done)|(go_simp;rfl));intro gb149 hg w47 hbox hb;have n0_:=Aside0.mk (blk_below (g:=gb142) (o:=.cells #[.slice A0_0 l0_0.length c0_0, .slice (some ad148) l0_1.length c0_1] 30 (0, 0)) (by (with_reducible repeat (first|refine blk_drewN ?_ _|refine blk_drew ?_|refine blk_alloc ?_ _));exact BK142.out) hb);have n1_:=Aside0.mk (below_step (by repeat (first|(with_reducible first|exact HB.out|apply below_alloc|apply pw_below_drewN|apply below_drew1|refine below_set ?_ GE142.out)|exact HB.out)) hb);have n2_:=Aside0.mk (hbox);have n3_:=Aside0.mk ((by rw [hg];exact (below_size (by repeat (first|(with_reducible first|exact HB.out|apply below_alloc|apply pw_below_drewN|apply below_drew1|refine below_set ?_ GE142.out)|exact HB.out))) : w.heap.size ≤ gb149));have n4_:=Aside0.mk ((by rw [hg];exact (below_size (by repeat (first|(with_reducible first|exact HB.out|apply below_alloc|apply pw_below_drewN|apply below_drew1|refine below_set ?_ GE142.out)|exact HB.out))) : w.heap.size ≤ gb149));have n5_:=Aside0.mk ((by rw [hg];exact Nat.ne_of_lt (blk_lt (g:=gb142) (o:=.cells #[.slice A0_0 l0_0.length c0_0, .slice (some ad148) l0_1.length c0_1] 30 (0, 0)) (by (with_reducible repeat (first|refine blk_drewN ?_ _|refine blk_drew ?_|refine blk_alloc ?_ _));exact BK142.out)) : gb142 ≠ gb149));have n6_:=Aside0.mk ((by rw [hg];exact Nat.ne_of_gt (blk_lt (g:=gb142) (o:=.cells #[.slice A0_0 l0_0.length c0_0, .slice (some ad148) l0_1.length c0_1] 30 (0, 0)) (by (with_reducible repeat (first|refine blk_drewN ?_ _|refine blk_drew ?_|refine blk_alloc ?_ _));exact BK142.out)) : gb149 ≠ gb142));clear BK142;clear HB;have BK142:=n0_;have HB:=n1_;have BK149:=n2_;have GW149:=n3_;have GE149:=n4_;have NB142_149:=n5_;have NB149_142:=n6_;clear n0_ n1_ n2_ n3_ n4_ n5_ n6_;clear hb hbox hg;have hnb48:=NB149_142.out;have hnc48:=NB142_149.out;have hcz49_0 : w47.cell? ⟨gb149, 0, none⟩ = some (.int .i64 0):=(blk_cell BK149.out 0).trans rfl;have hcz49_1 : w47.cell? ⟨gb149, 1, none⟩ = some (.int .i64 0):=(blk_cell BK149.out 1).trans rfl;have hfz49_0:=blk_frozen BK149.out 0;have hfz49_1:=blk_frozen BK149.out 1)))
        (try simp only [Act.put, List.setIfInBounds_toArray, List.set_cons_zero, List.set_cons_succ])
        go_cut [105] (fun v105 wc => ∃ (kq : Nat) (x105_44 : Bool), v105 = .bool x105_44 ∧ Aside0 (chancelref04_Right.j3 kq a1 x7_2 x105_44 l0_0 l0_1 ((rd_T48 l0_1 x7_2).f0) ((rd_T48 l0_1 x7_2).f1) = some r) ∧ Aside0 (kq ≤ k2) ∧ Aside0 (wc.heap[gb142]? = some (.cells #[(.slice A0_0 l0_0.length c0_0), (.slice (some ad148) l0_1.length c0_1)] 30 (0, 0))) ∧ Aside0 (wc.heap[gb149]? = some (.cells #[.int .i64 ((rd_T48 l0_1 x7_2).f0), .int .i64 ((rd_T48 l0_1 x7_2).f1)] 48 (0, 0))) ∧ Aside0 (Below w.heap.size w wc))
        case first =>
         have H := HC45.out
         clear HC45
         by_cases c50 : ((rd_T48 l0_1 x7_2).f0) ≤ 0
         ·rw [if_pos c50] at H
          have c50b0 : decide (((rd_T48 l0_1 x7_2).f0) ≤ 0) = true := decide_eq_true c50
          clear c50
          (first | rw [c50b0] | (simp only [i64_w, i32_w]; rw [c50b0]) | skip)
          have H' := Aside0.mk H
          clear H
          have hnb51 := NB149_142.out
          have hnc51 := NB142_149.out
          have hcz52_0 : w47.cell? ⟨gb149, 0, none⟩ = some (.int .i64 0) := (blk_cell BK149.out 0).trans rfl
          have hcz52_1 : w47.cell? ⟨gb149, 1, none⟩ = some (.int .i64 0) := (blk_cell BK149.out 1).trans rfl
          have hfz52_0 := blk_frozen BK149.out 0
          have hfz52_1 := blk_frozen BK149.out 1
          go_wp2
          repeat (go_quiet (fail); try go_wp2)
          go_meet
          case rel => exact ⟨_, (true), (by first|rfl|(simp;done)|(simp [*];done)), H', ⟨by have:=HK1.out;have:=HK2.out;first|omega|exact Nat.le_refl _⟩, ⟨by (with_reducible repeat (first|refine blk_drewN ?_ _|refine blk_drew ?_|refine blk_alloc ?_ _));refine blk_far ?_ NB142_149.out _;(with_reducible repeat (first|refine blk_drewN ?_ _|refine blk_drew ?_|refine blk_alloc ?_ _));refine blk_far ?_ NB142_149.out _;(with_reducible repeat (first|refine blk_drewN ?_ _|refine blk_drew ?_|refine blk_alloc ?_ _));exact BK142.out⟩, ⟨by (with_reducible repeat (first|refine blk_drewN ?_ _|refine blk_drew ?_|refine blk_alloc ?_ _));refine blk_put (cs:=#[.int .i64 ((rd_T48 l0_1 x7_2).f0), .int .i64 0]) ?_ 1 _ rfl;(with_reducible repeat (first|refine blk_drewN ?_ _|refine blk_drew ?_|refine blk_alloc ?_ _));refine blk_put (cs:=#[.int .i64 0, .int .i64 0]) ?_ 0 _ rfl;(with_reducible repeat (first|refine blk_drewN ?_ _|refine blk_drew ?_|refine blk_alloc ?_ _));exact BK149.out⟩, ⟨by repeat (first|(with_reducible first|exact HB.out|apply below_alloc|apply pw_below_drewN|apply below_drew1|refine below_set ?_ GE142.out|refine below_set ?_ GE149.out)|exact HB.out)⟩⟩
         ·rw [if_neg c50] at H
          have c50b0 : decide (((rd_T48 l0_1 x7_2).f0) ≤ 0) = false := decide_eq_false c50
          clear c50
          (first | rw [c50b0] | (simp only [i64_w, i32_w]; rw [c50b0]) | skip)
          by_cases c53 : ((rd_T48 l0_1 x7_2).f1) < 0
          ·rw [if_pos c53] at H
           have c53b0 : decide (((rd_T48 l0_1 x7_2).f1) < 0) = true := decide_eq_true c53
           clear c53
           have H' := Aside0.mk H
           clear H
           have hnb54 := NB149_142.out
           have hnc54 := NB142_149.out
           have hcz55_0 : w47.cell? ⟨gb149, 0, none⟩ = some (.int .i64 0) := (blk_cell BK149.out 0).trans rfl
           have hcz55_1 : w47.cell? ⟨gb149, 1, none⟩ = some (.int .i64 0) := (blk_cell BK149.out 1).trans rfl
           have hfz55_0 := blk_frozen BK149.out 0
           have hfz55_1 := blk_frozen BK149.out 1
           go_wp2
           repeat (go_quiet (fail); try go_wp2)
           go_meet
           case rel => exact ⟨_, (true), (by first|rfl|(simp;done)|(simp [*];done)), H', ⟨by have:=HK1.out;have:=HK2.out;first|omega|exact Nat.le_refl _⟩, ⟨by (with_reducible repeat (first|refine blk_drewN ?_ _|refine blk_drew ?_|refine blk_alloc ?_ _));refine blk_far ?_ NB142_149.out _;(with_reducible repeat (first|refine blk_drewN ?_ _|refine blk_drew ?_|refine blk_alloc ?_ _));refine blk_far ?_ NB142_149.out _;(with_reducible repeat (first|refine blk_drewN ?_ _|refine blk_drew ?_|refine blk_alloc ?_ _));exact BK142.out⟩, ⟨by (with_reducible repeat (first|refine blk_drewN ?_ _|refine blk_drew ?_|refine blk_alloc ?_ _));refine blk_put (cs:=#[.int .i64 ((rd_T48 l0_1 x7_2).f0), .int .i64 0]) ?_ 1 _ rfl;(with_reducible repeat (first|refine blk_drewN ?_ _|refine blk_drew ?_|refine blk_alloc ?_ _));refine blk_put (cs:=#[.int .i64 0, .int .i64 0]) ?_ 0 _ rfl;(with_reducible repeat (first|refine blk_drewN ?_ _|refine blk_drew ?_|refine blk_alloc ?_ _));exact BK149.out⟩, ⟨by repeat (first|(with_reducible first|exact HB.out|apply below_alloc|apply pw_below_drewN|apply below_drew1|refine below_set ?_ GE142.out|refine below_set ?_ GE149.out)|exact HB.out)⟩⟩
          ·rw [if_neg c53] at H
           have c53b0 : decide (((rd_T48 l0_1 x7_2).f1) < 0) = false := decide_eq_false c53
           clear c53
           have H' := Aside0.mk H
           clear H
           have hnb56 := NB149_142.out
           have hnc56 := NB142_149.out
           have hcz57_0 : w47.cell? ⟨gb149, 0, none⟩ = some (.int .i64 0) := (blk_cell BK149.out 0).trans rfl
           have hcz57_1 : w47.cell? ⟨gb149, 1, none⟩ = some (.int .i64 0) := (blk_cell BK149.out 1).trans rfl
           have hfz57_0 := blk_frozen BK149.out 0
           have hfz57_1 := blk_frozen BK149.out 1
           go_wp2
           repeat (go_quiet (fail); try go_wp2)
           go_meet
           case rel => exact ⟨_, (decide (((rd_T48 l0_1 x7_2).f1) > a1)), (by first|rfl|(simp;done)|(simp [*];done)), H', ⟨by have:=HK1.out;have:=HK2.out;first|omega|exact Nat.le_refl _⟩, ⟨by (with_reducible repeat (first|refine blk_drewN ?_ _|refine blk_drew ?_|refine blk_alloc ?_ _));refine blk_far ?_ NB142_149.out _;(with_reducible repeat (first|refine blk_drewN ?_ _|refine blk_drew ?_|refine blk_alloc ?_ _));refine blk_far ?_ NB142_149.out _;(with_reducible repeat (first|refine blk_drewN ?_ _|refine blk_drew ?_|refine blk_alloc ?_ _));exact BK142.out⟩, ⟨by (with_reducible repeat (first|refine blk_drewN ?_ _|refine blk_drew ?_|refine blk_alloc ?_ _));refine blk_put (cs:=#[.int .i64 ((rd_T48 l0_1 x7_2).f0), .int .i64 0]) ?_ 1 _ rfl;(with_reducible repeat (first|refine blk_drewN ?_ _|refine blk_drew ?_|refine blk_alloc ?_ _));refine blk_put (cs:=#[.int .i64 0, .int .i64 0]) ?_ 0 _ rfl;(with_reducible repeat (first|refine blk_drewN ?_ _|refine blk_drew ?_|refine blk_alloc ?_ _));exact BK149.out⟩, ⟨by repeat (first|(with_reducible first|exact HB.out|apply below_alloc|apply pw_below_drewN|apply below_drew1|refine below_set ?_ GE142.out|refine below_set ?_ GE149.out)|exact HB.out)⟩⟩
        case rest =>
         clear HC45
         try clear c1
         try clear p1
         try clear q1
         try clear hx1
         try clear c2
         try clear p2
         try clear c3
         try clear c4
         try clear c4b0
         try clear c5
         try clear c5b0
         try clear p6
         try clear c9
         try clear c11
         try clear c11b0
         try clear c12
         try clear c14
         try clear c14b0
         try clear p14
         try clear q14
         try clear hx14
         try clear c15
         try clear c17
         try clear c17b0
         try clear c18
         try clear c20
         try clear c22
         try clear c23
         try clear c23b0
         try clear c25
         try clear c25b0
         try clear c26
         try clear c26b0
         try clear c27
         try clear c27b0
         try clear c28
         try clear c31
         try clear c31b0
         try clear c31b1
         try clear c32
         try clear c32b0
         try clear c32b1
         try clear c33
         try clear c36
         try clear c39
         try clear c43
         try clear c43b0
         try clear c44
         try clear c44b0
         try clear c48
         try clear c50
         try clear c50b0
         try clear c51
         try clear c53
         try clear c53b0
         try clear c54
         try clear c56
         try clear hcz10_0
         try clear hcz10_1
         try clear hcz10_2
         try clear hcz13_0
         try clear hcz13_1
         try clear hcz13_2
         try clear hcz16_0
         try clear hcz16_1
         try clear hcz16_2
         try clear hcz19_0
         try clear hcz19_1
         try clear hcz19_2
         try clear hcz21_0
         try clear hcz21_1
         try clear hcz21_2
         try clear hcz29_0
         try clear hcz29_1
         try clear hcz29_2
         try clear hcz30_0
         try clear hcz30_1
         try clear hcz34_0
         try clear hcz34_1
         try clear hcz34_2
         try clear hcz35_0
         try clear hcz35_1
         try clear hcz37_0
         try clear hcz37_1
         try clear hcz37_2
         try clear hcz38_0
         try clear hcz38_1
         try clear hcz40_0
         try clear hcz40_1
         try clear hcz40_2
         try clear hcz41_0
         try clear hcz41_1
         try clear hcz42_0
         try clear hcz42_1
         try clear hcz46_0
         try clear hcz46_1
         try clear hcz49_0
         try clear hcz49_1
         try clear hcz52_0
         try clear hcz52_1
         try clear hcz55_0
         try clear hcz55_1
         try clear hcz57_0
         try clear hcz57_1
         try clear hcz7_0
         try clear hcz7_1
         try clear hfz10_0
         try clear hfz10_1
         try clear hfz10_2
         try clear hfz13_0
         try clear hfz13_1
         try clear hfz13_2
         try clear hfz16_0
         try clear hfz16_1
         try clear hfz16_2
         try clear hfz19_0
         try clear hfz19_1
         try clear hfz19_2
         try clear hfz21_0
         try clear hfz21_1
         try clear hfz21_2
         try clear hfz29_0
         try clear hfz29_1
         try clear hfz29_2
         try clear hfz30_0
         try clear hfz30_1
         try clear hfz34_0
         try clear hfz34_1
         try clear hfz34_2
         try clear hfz35_0
         try clear hfz35_1
         try clear hfz37_0
         try clear hfz37_1
         try clear hfz37_2
         try clear hfz38_0
         try clear hfz38_1
         try clear hfz40_0
         try clear hfz40_1
         try clear hfz40_2
         try clear hfz41_0
         try clear hfz41_1
         try clear hfz42_0
         try clear hfz42_1
         try clear hfz46_0
         try clear hfz46_1
         try clear hfz49_0
         try clear hfz49_1
         try clear hfz52_0
         try clear hfz52_1
         try clear hfz55_0
         try clear hfz55_1
         try clear hfz57_0
         try clear hfz57_1
         try clear hfz7_0
         try clear hfz7_1
         try clear hx143_0
         try clear hx143_1
         try clear hx143_2
         try clear hx145_0
         try clear hx145_1
         try clear hx145_2
         try clear hx146_0
         try clear hx146_1
         try clear hx146_2
         try clear hx147_0
         try clear hx147_1
         try clear hx147_2
         try clear hx148_0
         try clear hx148_1
         try clear p1
         try clear p14
         try clear p143
         try clear p145
         try clear p146
         try clear p147
         try clear p148
         try clear p2
         try clear p6
         try clear q1
         try clear q14
         try clear q143
         try clear q145
         try clear q146
         try clear q147
         try clear q148
         obtain ⟨kq, x105_44, rfl, HA, HJ44, BK142, BK149, HB⟩ := hcut
         cases kq with
         | zero => exact absurd HA.out (by simp [chancelref04_Right.j3])
         | succ kj44 =>
          have H := HA.out
          clear HA
          simp only [chancelref04_Right.j3] at H
          by_cases c58 : x105_44 = true
          ·subst c58
           have H1 : (some false) = some r := by rw [if_pos rfl] at H; exact H
           clear H
           have H := H1
           clear H1
           obtain rfl := Option.some.inj H
           go_wp2
           repeat (go_quiet (fail); try go_wp2)
           go_ret
           exact ⟨by first|rfl|(simp [errW_none, errW_some] <;> rfl)|(simp [*, errW_none, errW_some] <;> rfl), by repeat (first|(with_reducible first|exact HB.out|apply below_alloc|apply pw_below_drewN|apply below_drew1|refine below_set ?_ GE142.out|refine below_set ?_ GE149.out)|exact HB.out)⟩
          ·replace c58 := Bool.eq_false_iff.mpr c58
           subst c58
           have H1 : (if x7_2 > 0 then (if 0 ≤ (wrap64 (x7_2 - 1)) then (if (wrap64 (x7_2 - 1)) < (l0_1.length : Int) then (if ((rd_T48 l0_1 x7_2).f1) < ((rd_T48 l0_1 (wrap64 (x7_2 - 1))).f1) then (some false) else (if ((rd_T48 l0_1 x7_2).f1) = ((rd_T48 l0_1 (wrap64 (x7_2 - 1))).f1) then (if ((rd_T48 l0_1 x7_2).f0) ≤ ((rd_T48 l0_1 (wrap64 (x7_2 - 1))).f0) then (some false) else (chancelref04_Right.l1 kj44 a1 (wrap64 (x7_2 + 1)) l0_0 l0_1)) else (chancelref04_Right.l1 kj44 a1 (wrap64 (x7_2 + 1)) l0_0 l0_1))) else (none)) else (none)) else (chancelref04_Right.l1 kj44 a1 (wrap64 (x7_2 + 1)) l0_0 l0_1)) = some r := by rw [if_neg (show ¬ (false = true) by decide)] at H; exact H
           clear H
           have H := H1
           clear H1
           by_cases c59 : x7_2 > 0
           ·rw [if_pos c59] at H
            have c59b0 : decide (0 < x7_2) = true := decide_eq_true c59
            clear c59
            obtain ⟨ji60, hji60⟩ : ∃ j_ : Int, (wrap64 (x7_2 - 1)) = j_ := ⟨_, rfl⟩
            replace H : (if 0 ≤ (ji60) then (if (ji60) < (l0_1.length : Int) then (if ((rd_T48 l0_1 x7_2).f1) < ((rd_T48 l0_1 (ji60)).f1) then (some false) else (if ((rd_T48 l0_1 x7_2).f1) = ((rd_T48 l0_1 (ji60)).f1) then (if ((rd_T48 l0_1 x7_2).f0) ≤ ((rd_T48 l0_1 (ji60)).f0) then (some false) else (chancelref04_Right.l1 kj44 a1 (wrap64 (x7_2 + 1)) l0_0 l0_1)) else (chancelref04_Right.l1 kj44 a1 (wrap64 (x7_2 + 1)) l0_0 l0_1))) else (none)) else (none)) = some r := by first | (rw [hji60] at H; exact H) | (simp only [hji60] at H ⊢; exact H)
            have hji60w : (IntKind.i64.wrap (x7_2 - 1)) = ji60 := (i64_w _).trans hji60
            by_cases c61 : 0 ≤ (ji60)
            ·rw [if_pos c61] at H
             have c61b0 : decide (0 ≤ (ji60)) = true := decide_eq_true c61
             clear c61
             by_cases c62 : (ji60) < (l0_1.length : Int)
             ·rw [if_pos c62] at H
              have c62b0 : decide ((ji60) < (l0_1.length : Int)) = true := decide_eq_true c62
              clear c62
              by_cases c63 : ((rd_T48 l0_1 x7_2).f1) < ((rd_T48 l0_1 (ji60)).f1)
              ·rw [if_pos c63] at H
               have c63b0 : decide (((rd_T48 l0_1 x7_2).f1) < ((rd_T48 l0_1 (ji60)).f1)) = true := decide_eq_true c63
               clear c63
               obtain rfl := Option.some.inj H
               have hnb64 := NB149_142.out
               have hnc64 := NB142_149.out
               have hcz65_0 : wc.cell? ⟨gb149, 0, none⟩ = some (.int .i64 ((rd_T48 l0_1 x7_2).f0)) := (blk_cell BK149.out 0).trans rfl
               have hcz65_1 : wc.cell? ⟨gb149, 1, none⟩ = some (.int .i64 ((rd_T48 l0_1 x7_2).f1)) := (blk_cell BK149.out 1).trans rfl
               have hfz65_0 := blk_frozen BK149.out 0
               have hfz65_1 := blk_frozen BK149.out 1
               have hcz66_0 : wc.cell? ⟨gb142, 0, none⟩ = some (.slice A0_0 l0_0.length c0_0) := (blk_cell BK142.out 0).trans rfl
               have hcz66_1 : wc.cell? ⟨gb142, 1, none⟩ = some (.slice (some ad148) l0_1.length c0_1) := (blk_cell BK142.out 1).trans rfl
               have hfz66_0 := blk_frozen BK142.out 0
               have hfz66_1 := blk_frozen BK142.out 1
               have p150 : 0 ≤ ((ji60) : Int):=of_decide_eq_true (by first|(with_reducible assumption)|assumption)
               have q150 : (ji60) < (l0_1.length : Int):=of_decide_eq_true (by first|(with_reducible assumption)|assumption)
               obtain ⟨ad150, e150, hx150_0, hx150_1⟩ := at_T48 HR0_1.out (ji60) p150 q150
               obtain rfl : ad148 = ad150 := (by injection e150)
               replace hx150_0 := (HB.out.cell (World.block_lt_of_cell? w _ hx150_0)).trans hx150_0
               replace hx150_1 := (HB.out.cell (World.block_lt_of_cell? w _ hx150_1)).trans hx150_1
               replace p150 := eq_true p150
               replace q150 := eq_true q150
               go_wp2
               repeat (go_quiet (fail); try go_wp2)
               go_ret
               exact ⟨by first|rfl|(simp [errW_none, errW_some] <;> rfl)|(simp only [← hji60];first|rfl|(simp [errW_none, errW_some] <;> rfl))|(simp [*, errW_none, errW_some] <;> rfl), by repeat (first|(with_reducible first|exact HB.out|apply below_alloc|apply pw_below_drewN|apply below_drew1|refine below_set ?_ GE142.out|refine below_set ?_ GE149.out)|exact HB.out)⟩
              ·rw [if_neg c63] at H
               have c63b0 : decide (((rd_T48 l0_1 x7_2).f1) < ((rd_T48 l0_1 (ji60)).f1)) = false := decide_eq_false c63
               clear c63
               by_cases c67 : ((rd_T48 l0_1 x7_2).f1) = ((rd_T48 l0_1 (ji60)).f1)
               ·rw [if_pos c67] at H
                have c67b0 : (((rd_T48 l0_1 x7_2).f1) == ((rd_T48 l0_1 (ji60)).f1)) = true := beq_iff_eq.mpr c67
                have c67b1 : (((rd_T48 l0_1 x7_2).f1) != ((rd_T48 l0_1 (ji60)).f1)) = false := bne_eq_false_iff_eq.mpr c67
                clear c67
                by_cases c68 : ((rd_T48 l0_1 x7_2).f0) ≤ ((rd_T48 l0_1 (ji60)).f0)
                ·rw [if_pos c68] at H
                 have c68b0 : decide (((rd_T48 l0_1 x7_2).f0) ≤ ((rd_T48 l0_1 (ji60)).f0)) = true := decide_eq_true c68
                 clear c68
                 obtain rfl := Option.some.inj H
                 have hnb69 := NB149_142.out
                 have hnc69 := NB142_149.out
                 have hcz70_0 : wc.cell? ⟨gb149, 0, none⟩ = some (.int .i64 ((rd_T48 l0_1 x7_2).f0)) := (blk_cell BK149.out 0).trans rfl
                 have hcz70_1 : wc.cell? ⟨gb149, 1, none⟩ = some (.int .i64 ((rd_T48 l0_1 x7_2).f1)) := (blk_cell BK149.out 1).trans rfl
                 have hfz70_0 := blk_frozen BK149.out 0
                 have hfz70_1 := blk_frozen BK149.out 1
                 have hcz71_0 : wc.cell? ⟨gb142, 0, none⟩ = some (.slice A0_0 l0_0.length c0_0) := (blk_cell BK142.out 0).trans rfl
                 have hcz71_1 : wc.cell? ⟨gb142, 1, none⟩ = some (.slice (some ad148) l0_1.length c0_1) := (blk_cell BK142.out 1).trans rfl
                 have hfz71_0 := blk_frozen BK142.out 0
                 have hfz71_1 := blk_frozen BK142.out 1
                 have p150 : 0 ≤ ((ji60) : Int):=of_decide_eq_true (by first|(with_reducible assumption)|assumption)
                 have q150 : (ji60) < (l0_1.length : Int):=of_decide_eq_true (by first|(with_reducible assumption)|assumption)
                 obtain ⟨ad150, e150, hx150_0, hx150_1⟩ := at_T48 HR0_1.out (ji60) p150 q150
                 obtain rfl : ad148 = ad150 := (by injection e150)
                 replace hx150_0 := (HB.out.cell (World.block_lt_of_cell? w _ hx150_0)).trans hx150_0
                 replace hx150_1 := (HB.out.cell (World.block_lt_of_cell? w _ hx150_1)).trans hx150_1
                 replace p150 := eq_true p150
                 replace q150 := eq_true q150
                 have p151 : 0 ≤ ((ji60) : Int):=of_decide_eq_true (by first|(with_reducible assumption)|assumption)
                 have q151 : (ji60) < (l0_1.length : Int):=of_decide_eq_true (by first|(with_reducible assumption)|assumption)
                 obtain ⟨ad151, e151, hx151_0, hx151_1⟩ := at_T48 HR0_1.out (ji60) p151 q151
                 obtain rfl : ad148 = ad151 := (by injection e151)
                 replace hx151_0 := (HB.out.cell (World.block_lt_of_cell? w _ hx151_0)).trans hx151_0
                 replace hx151_1 := (HB.out.cell (World.block_lt_of_cell? w _ hx151_1)).trans hx151_1
                 replace p151 := eq_true p151
                 replace q151 := eq_true q151
                 have p152 : 0 ≤ ((ji60) : Int):=of_decide_eq_true (by first|(with_reducible assumption)|assumption)
                 have q152 : (ji60) < (l0_1.length : Int):=of_decide_eq_true (by first|(with_reducible assumption)|assumption)
                 obtain ⟨ad152, e152, hx152_0, hx152_1⟩ := at_T48 HR0_1.out (ji60) p152 q152
                 obtain rfl : ad148 = ad152 := (by injection e152)
                 replace hx152_0 := (HB.out.cell (World.block_lt_of_cell? w _ hx152_0)).trans hx152_0
                 replace hx152_1 := (HB.out.cell (World.block_lt_of_cell? w _ hx152_1)).trans hx152_1
                 replace p152 := eq_true p152
                 replace q152 := eq_true q152
                 go_wp2
                 repeat (go_quiet (fail); try go_wp2)
                 go_ret
                 exact ⟨by first|rfl|(simp [errW_none, errW_some] <;> rfl)|(simp only [← hji60];first|rfl|(simp [errW_none, errW_some] <;> rfl))|(simp [*, errW_none, errW_some] <;> rfl), by repeat (first|(with_reducible first|exact HB.out|apply below_alloc|apply pw_below_drewN|apply below_drew1|refine below_set ?_ GE142.out|refine below_set ?_ GE149.out)|exact HB.out)⟩
                ·rw [if_neg c68] at H
                 have c68b0 : decide (((rd_T48 l0_1 x7_2).f0) ≤ ((rd_T48 l0_1 (ji60)).f0)) = false := decide_eq_false c68
                 clear c68
                 have H' := Aside0.mk H
                 clear H
                 have hnb72 := NB149_142.out
                 have hnc72 := NB142_149.out
                 have hcz73_0 : wc.cell? ⟨gb149, 0, none⟩ = some (.int .i64 ((rd_T48 l0_1 x7_2).f0)) := (blk_cell BK149.out 0).trans rfl
                 have hcz73_1 : wc.cell? ⟨gb149, 1, none⟩ = some (.int .i64 ((rd_T48 l0_1 x7_2).f1)) := (blk_cell BK149.out 1).trans rfl
                 have hfz73_0 := blk_frozen BK149.out 0
                 have hfz73_1 := blk_frozen BK149.out 1
                 have hcz74_0 : wc.cell? ⟨gb142, 0, none⟩ = some (.slice A0_0 l0_0.length c0_0) := (blk_cell BK142.out 0).trans rfl
                 have hcz74_1 : wc.cell? ⟨gb142, 1, none⟩ = some (.slice (some ad148) l0_1.length c0_1) := (blk_cell BK142.out 1).trans rfl
                 have hfz74_0 := blk_frozen BK142.out 0
                 have hfz74_1 := blk_frozen BK142.out 1
                 have p150 : 0 ≤ ((ji60) : Int):=of_decide_eq_true (by first|(with_reducible assumption)|assumption)
                 have q150 : (ji60) < (l0_1.length : Int):=of_decide_eq_true (by first|(with_reducible assumption)|assumption)
                 obtain ⟨ad150, e150, hx150_0, hx150_1⟩ := at_T48 HR0_1.out (ji60) p150 q150
                 obtain rfl : ad148 = ad150 := (by injection e150)
                 replace hx150_0 := (HB.out.cell (World.block_lt_of_cell? w _ hx150_0)).trans hx150_0
                 replace hx150_1 := (HB.out.cell (World.block_lt_of_cell? w _ hx150_1)).trans hx150_1
                 replace p150 := eq_true p150
                 replace q150 := eq_true q150
                 have p151 : 0 ≤ ((ji60) : Int):=of_decide_eq_true (by first|(with_reducible assumption)|assumption)
                 have q151 : (ji60) < (l0_1.length : Int):=of_decide_eq_true (by first|(with_reducible assumption)|assumption)
                 obtain ⟨ad151, e151, hx151_0, hx151_1⟩ := at_T48 HR0_1.out (ji60) p151 q151
                 obtain rfl : ad148 = ad151 := (by injection e151)
                 replace hx151_0 := (HB.out.cell (World.block_lt_of_cell? w _ hx151_0)).trans hx151_0
                 replace hx151_1 := (HB.out.cell (World.block_lt_of_cell? w _ hx151_1)).trans hx151_1
                 replace p151 := eq_true p151
                 replace q151 := eq_true q151
                 have p152 : 0 ≤ ((ji60) : Int):=of_decide_eq_true (by first|(with_reducible assumption)|assumption)
                 have q152 : (ji60) < (l0_1.length : Int):=of_decide_eq_true (by first|(with_reducible assumption)|assumption)
                 obtain ⟨ad152, e152, hx152_0, hx152_1⟩ := at_T48 HR0_1.out (ji60) p152 q152
                 obtain rfl : ad148 = ad152 := (by injection e152)
                 replace hx152_0 := (HB.out.cell (World.block_lt_of_cell? w _ hx152_0)).trans hx152_0
                 replace hx152_1 := (HB.out.cell (World.block_lt_of_cell? w _ hx152_1)).trans hx152_1
                 replace p152 := eq_true p152
                 replace q152 := eq_true q152
                 go_wp2
                 repeat (go_quiet (fail); try go_wp2)
                 go_roundg kj44
                 case measure => have := HK1.out; have := HK2.out; have := HJ44.out; omega
                 case rel => exact ⟨(wrap64 (x7_2 + 1)), (by first|rfl|(simp;done)|(simp [*];done)), H', ⟨by have:=HK1.out;have:=HK2.out;have:=HJ44.out;omega⟩, ⟨by (with_reducible repeat (first|refine blk_drewN ?_ _|refine blk_drew ?_|refine blk_alloc ?_ _));exact BK142.out⟩, ⟨by repeat (first|(with_reducible first|exact HB.out|apply below_alloc|apply pw_below_drewN|apply below_drew1|refine below_set ?_ GE142.out|refine below_set ?_ GE149.out)|exact HB.out)⟩⟩
               ·rw [if_neg c67] at H
                have c67b0 : (((rd_T48 l0_1 x7_2).f1) == ((rd_T48 l0_1 (ji60)).f1)) = false := beq_eq_false_iff_ne.mpr c67
                have c67b1 : (((rd_T48 l0_1 x7_2).f1) != ((rd_T48 l0_1 (ji60)).f1)) = true := bne_iff_ne.mpr c67
                have H' := Aside0.mk H
                clear H
                have hnb75 := NB149_142.out
                have hnc75 := NB142_149.out
                have hcz76_0 : wc.cell? ⟨gb149, 0, none⟩ = some (.int .i64 ((rd_T48 l0_1 x7_2).f0)) := (blk_cell BK149.out 0).trans rfl
                have hcz76_1 : wc.cell? ⟨gb149, 1, none⟩ = some (.int .i64 ((rd_T48 l0_1 x7_2).f1)) := (blk_cell BK149.out 1).trans rfl
                have hfz76_0 := blk_frozen BK149.out 0
                have hfz76_1 := blk_frozen BK149.out 1
                have hcz77_0 : wc.cell? ⟨gb142, 0, none⟩ = some (.slice A0_0 l0_0.length c0_0) := (blk_cell BK142.out 0).trans rfl
                have hcz77_1 : wc.cell? ⟨gb142, 1, none⟩ = some (.slice (some ad148) l0_1.length c0_1) := (blk_cell BK142.out 1).trans rfl
                have hfz77_0 := blk_frozen BK142.out 0
                have hfz77_1 := blk_frozen BK142.out 1
                have p150 : 0 ≤ ((ji60) : Int):=of_decide_eq_true (by first|(with_reducible assumption)|assumption)
                have q150 : (ji60) < (l0_1.length : Int):=of_decide_eq_true (by first|(with_reducible assumption)|assumption)
                obtain ⟨ad150, e150, hx150_0, hx150_1⟩ := at_T48 HR0_1.out (ji60) p150 q150
                obtain rfl : ad148 = ad150 := (by injection e150)
                replace hx150_0 := (HB.out.cell (World.block_lt_of_cell? w _ hx150_0)).trans hx150_0
                replace hx150_1 := (HB.out.cell (World.block_lt_of_cell? w _ hx150_1)).trans hx150_1
                replace p150 := eq_true p150
                replace q150 := eq_true q150
                have p151 : 0 ≤ ((ji60) : Int):=of_decide_eq_true (by first|(with_reducible assumption)|assumption)
                have q151 : (ji60) < (l0_1.length : Int):=of_decide_eq_true (by first|(with_reducible assumption)|assumption)
                obtain ⟨ad151, e151, hx151_0, hx151_1⟩ := at_T48 HR0_1.out (ji60) p151 q151
                obtain rfl : ad148 = ad151 := (by injection e151)
                replace hx151_0 := (HB.out.cell (World.block_lt_of_cell? w _ hx151_0)).trans hx151_0
                replace hx151_1 := (HB.out.cell (World.block_lt_of_cell? w _ hx151_1)).trans hx151_1
                replace p151 := eq_true p151
                replace q151 := eq_true q151
                go_wp2
                repeat (go_quiet (fail); try go_wp2)
                go_roundg kj44
                case measure => have := HK1.out; have := HK2.out; have := HJ44.out; omega
                case rel => exact ⟨(wrap64 (x7_2 + 1)), (by first|rfl|(simp;done)|(simp [*];done)), H', ⟨by have:=HK1.out;have:=HK2.out;have:=HJ44.out;omega⟩, ⟨by (with_reducible repeat (first|refine blk_drewN ?_ _|refine blk_drew ?_|refine blk_alloc ?_ _));exact BK142.out⟩, ⟨by repeat (first|(with_reducible first|exact HB.out|apply below_alloc|apply pw_below_drewN|apply below_drew1|refine below_set ?_ GE142.out|refine below_set ?_ GE149.out)|exact HB.out)⟩⟩
             ·rw [if_neg c62] at H
              exact absurd H (by simp)
            ·rw [if_neg c61] at H
             exact absurd H (by simp)
           ·rw [if_neg c59] at H
            have c59b0 : decide (0 < x7_2) = false := decide_eq_false c59
            clear c59
            have H' := Aside0.mk H
            clear H
            go_wp2
            repeat (go_quiet (fail); try go_wp2)
            go_roundg kj44
            case measure => have := HK1.out; have := HK2.out; have := HJ44.out; omega
            case rel => exact ⟨(wrap64 (x7_2 + 1)), (by first|rfl|(simp;done)|(simp [*];done)), H', ⟨by have:=HK1.out;have:=HK2.out;have:=HJ44.out;omega⟩, ⟨by (with_reducible repeat (first|refine blk_drewN ?_ _|refine blk_drew ?_|refine blk_alloc ?_ _));exact BK142.out⟩, ⟨by repeat (first|(with_reducible first|exact HB.out|apply below_alloc|apply pw_below_drewN|apply below_drew1|refine below_set ?_ GE142.out|refine below_set ?_ GE149.out)|exact HB.out)⟩⟩
       ·rw [if_neg c44] at H
        exact absurd H (by simp)
      ·rw [if_neg c43] at H
       have c43b0 : decide (x7_2 < (l0_1.length : Int)) = false := decide_eq_false c43
       clear c43
       obtain rfl := Option.some.inj H
       have hcz78_0 : wr.cell? ⟨gb142, 0, none⟩ = some (.slice A0_0 l0_0.length c0_0) := (blk_cell BK142.out 0).trans rfl
       have hcz78_1 : wr.cell? ⟨gb142, 1, none⟩ = some (.slice A0_1 l0_1.length c0_1) := (blk_cell BK142.out 1).trans rfl
       have hfz78_0 := blk_frozen BK142.out 0
       have hfz78_1 := blk_frozen BK142.out 1
       go_wp2
       repeat (go_quiet (fail); try go_wp2)
       go_ret
       exact ⟨by first|rfl|(simp [errW_none, errW_some] <;> rfl)|(simp [*, errW_none, errW_some] <;> rfl), by repeat (first|(with_reducible first|exact HB.out|apply below_alloc|apply pw_below_drewN|apply below_drew1|refine below_set ?_ GE142.out)|exact HB.out)⟩

end Go.Proofs.Ytdgjjdpeaohebab.PMarksHolds
