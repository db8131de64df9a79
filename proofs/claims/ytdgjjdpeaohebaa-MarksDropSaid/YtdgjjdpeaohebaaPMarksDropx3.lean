-- Written by a program of this session around the given print (and over contracts of this session): not checked by anybody but Lean.
import Derived.Test.YtdgjjdpeaohebaaPMarksDropx0
namespace Go.Proofs.Ytdgjjdpeaohebaa.PMarksDrop
open Go.RowKit Go.Proofs.YtdgjjdpeaohebaaW.PrintWords Go.Proofs.YtdgjjdpeaohebaaW.PrintLast Go.Proofs.YtdgjjdpeaohebaaW.PrintMore
attribute [local go_sem] max2_int min2_int max_two min_two max_three min_three max_four min_four   -- for this text's walks alone
set_option linter.unusedVariables false
set_option linter.unusedSimpArgs false

/-! ### marks_Of: function 11 -/
mutual
def marks_Of.l0 : Nat → Int → List (S26) → List (S26) → Int → Int → List (S26) → List (S38) → Option ((List (S26)) × List Int)
  | 0, _, _, _, _, _, _, _ => none
  | k + 1, x1, x6, x13, x14, x15, x102000, x102001 => if x15 < x14 then (if 0 ≤ x15 then (if x15 < (x13.length : Int) then (if ((rd_T26 x13 x15).f0) = x1 then (if x6.length < 5864062014805 then (marks_Of.l0 k x1 (x6 ++ [(⟨(rd_T26 x13 x15).f0, (rd_T26 x13 x15).f1, (rd_T26 x13 x15).f2⟩ : S26)]) x13 x14 (wrap64 (x15 + 1)) x102000 x102001) else (none)) else (marks_Of.l0 k x1 x6 x13 x14 (wrap64 (x15 + 1)) x102000 x102001)) else (none)) else (none)) else (marks_Of.l1 k x1 x6 ([] : List Int) x102001 (x102001.length : Int) 0)
def marks_Of.l1 : Nat → Int → List (S26) → List Int → List (S38) → Int → Int → Option ((List (S26)) × List Int)
  | 0, _, _, _, _, _, _ => none
  | k + 1, x1, x6, x7, x29, x30, x31 => if x31 < x30 then (if 0 ≤ x31 then (if x31 < (x29.length : Int) then (if ((rd_T38 x29 x31).f0) = x1 then (if x7.length < 17592186044416 then (marks_Of.l1 k x1 x6 (x7 ++ [(rd_T38 x29 x31).f1]) x29 x30 (wrap64 (x31 + 1))) else (none)) else (marks_Of.l1 k x1 x6 x7 x29 x30 (wrap64 (x31 + 1)))) else (none)) else (none)) else (some (x6, x7))
end
def marks_Of.f (k : Nat) (l0_0 : List (S26)) (l0_1 : List (S38)) (a1 : Int) : Option ((List (S26)) × List Int) := marks_Of.l0 k a1 ([] : List (S26)) l0_0 (l0_0.length : Int) 0 l0_0 l0_1
theorem marks_Of.mono_l : ∀ k, (∀ y0 y1 y2 y3 y4 y5 y6, LeO (marks_Of.l0 k y0 y1 y2 y3 y4 y5 y6) (marks_Of.l0 (k + 1) y0 y1 y2 y3 y4 y5 y6)) ∧ (∀ y0 y1 y2 y3 y4 y5, LeO (marks_Of.l1 k y0 y1 y2 y3 y4 y5) (marks_Of.l1 (k + 1) y0 y1 y2 y3 y4 y5))
  | 0 => ⟨fun _ _ _ _ _ _ _ r h => by simp [marks_Of.l0] at h, fun _ _ _ _ _ _ r h => by simp [marks_Of.l1] at h⟩
  | k + 1 => by
    obtain ⟨ih0, ih1⟩ := marks_Of.mono_l k
    refine ⟨?_, ?_⟩
    · intro y0 y1 y2 y3 y4 y5 y6
      unfold marks_Of.l0
      repeat' first
      | (with_reducible exact ih0 _ _ _ _ _ _ _)
      | (with_reducible exact ih1 _ _ _ _ _ _)
      | (with_reducible exact LeO.refl _)
      | (with_reducible exact LeO.none _)
      | (with_reducible refine LeO.ite ?_ ?_)
      | (with_reducible refine LeO.bind ?_ (fun _ => ?_))
      | exact ih0 _ _ _ _ _ _ _
      | exact ih1 _ _ _ _ _ _
      | exact LeO.none _
      | refine LeO.ite ?_ ?_
      | refine LeO.bind ?_ (fun _ => ?_)
    · intro y0 y1 y2 y3 y4 y5
      unfold marks_Of.l1
      repeat' first
      | (with_reducible exact ih0 _ _ _ _ _ _ _)
      | (with_reducible exact ih1 _ _ _ _ _ _)
      | (with_reducible exact LeO.refl _)
      | (with_reducible exact LeO.none _)
      | (with_reducible refine LeO.ite ?_ ?_)
      | (with_reducible refine LeO.bind ?_ (fun _ => ?_))
      | exact ih0 _ _ _ _ _ _ _
      | exact ih1 _ _ _ _ _ _
      | exact LeO.none _
      | refine LeO.ite ?_ ?_
      | refine LeO.bind ?_ (fun _ => ?_)
theorem marks_Of.mono : ∀ a0 a1 a2 k, LeO (marks_Of.f k a0 a1 a2) (marks_Of.f (k + 1) a0 a1 a2) := by
  intro a0 a1 a2 k
  obtain ⟨ih0, ih1⟩ := marks_Of.mono_l k
  unfold marks_Of.f
  repeat' first
      | (with_reducible exact ih0 _ _ _ _ _ _ _)
      | (with_reducible exact ih1 _ _ _ _ _ _)
      | (with_reducible exact LeO.refl _)
      | (with_reducible exact LeO.none _)
      | (with_reducible refine LeO.ite ?_ ?_)
      | (with_reducible refine LeO.bind ?_ (fun _ => ?_))
      | exact ih0 _ _ _ _ _ _ _
      | exact ih1 _ _ _ _ _ _
      | exact LeO.none _
      | refine LeO.ite ?_ ?_
      | refine LeO.bind ?_ (fun _ => ?_)
set_option maxHeartbeats 8000000 in
set_option maxRecDepth 100000 in
theorem marks_Of.calls (k : Nat) (A0_0 : Option Addr) (c0_0 : Nat) (l0_0 : List (S26)) (A0_1 : Option Addr) (c0_1 : Nat) (l0_1 : List (S38)) (a1 : Int) (r1 : List (S26)) (r2 : List Int) (w : World) (hr0_0 : Kd.C k26 w A0_0 l0_0.length l0_0) (hc0_0 : l0_0.length ≤ c0_0) (hr0_1 : Kd.C k38 w A0_1 l0_1.length l0_1) (hc0_1 : l0_1.length ≤ c0_1) (h : marks_Of.f k l0_0 l0_1 a1 = some (r1, r2)) :
    Calls Try.prog 11 #[.agg #[.slice A0_0 l0_0.length c0_0, .slice A0_1 l0_1.length c0_1], .int .i64 a1] w fun e w' => ∃ v0_ v1_ : Value, e = .returned (.tuple #[v0_, v1_]) ∧ Kd.R k26 26 w' w.heap.size (fun _ => True) v0_ r1 ∧ Kd.R (Kd.int .i64) 3 w' w.heap.size (fun _ => True) v1_ r2 ∧ Below w.heap.size w w' := by
  have hu28 := Try.underlying28
  have hu26 := Try.underlying26
  have hu38 := Try.underlying38
  have HR0_0 := Aside0.mk hr0_0
  have HC0_0 := Aside0.mk hc0_0
  clear hr0_0 hc0_0
  have HR0_1 := Aside0.mk hr0_1
  have HC0_1 := Aside0.mk hc0_1
  clear hr0_1 hc0_1
  have HB := Aside0.mk (Below.refl w.heap.size w)
  have H : (marks_Of.l0 k a1 ([] : List (S26)) l0_0 (l0_0.length : Int) 0 l0_0 l0_1) = some (r1, r2) := h
  clear h
  have H' := Aside0.mk H
  clear H
  go_enter Try.func11, Try.ntmps11
  go_wp2_with (first|((with_reducible refine gate_dst (N:=2) rfl ?_);refine box_event ?hg (N:=2) ?hd (cs:=#[.slice A0_0 l0_0.length c0_0, .slice A0_1 l0_1.length c0_1]) (t:=28) ?hr ?_;(case hd => rfl);(case hg => rfl);(case hr => first|(go_simp;done)|(go_simp;rfl));intro gb101 hg w3 hbox hb;have n0_:=Aside0.mk (below_step (by repeat (first|(with_reducible first|exact HB.out|apply below_alloc|apply pw_below_drewN|apply below_drew1)|exact HB.out)) hb);have n1_:=Aside0.mk (hbox);have n2_:=Aside0.mk ((by rw [hg];exact (below_size (by repeat (first|(with_reducible first|exact HB.out|apply below_alloc|apply pw_below_drewN|apply below_drew1)|exact HB.out))) : w.heap.size ≤ gb101));have n3_:=Aside0.mk ((by rw [hg];exact (below_size (by repeat (first|(with_reducible first|exact HB.out|apply below_alloc|apply pw_below_drewN|apply below_drew1)|exact HB.out))) : w.heap.size ≤ gb101));clear HB;have HB:=n0_;have BK101:=n1_;have GW101:=n2_;have GE101:=n3_;clear n0_ n1_ n2_ n3_;clear hb hbox hg;have hcz4_0 : w3.cell? ⟨gb101, 0, none⟩ = some (.slice A0_0 l0_0.length c0_0):=(blk_cell BK101.out 0).trans rfl;have hcz4_1 : w3.cell? ⟨gb101, 1, none⟩ = some (.slice A0_1 l0_1.length c0_1):=(blk_cell BK101.out 1).trans rfl;have hfz4_0:=blk_frozen BK101.out 0;have hfz4_1:=blk_frozen BK101.out 1))
  go_loopg [6, 15] k (fun kq v6 v15 w' => ∃ (x6_1 : List (S26)) (x15_1 : Int), v15 = .int .i64 x15_1 ∧ Aside0 (marks_Of.l0 kq a1 x6_1 l0_0 (l0_0.length : Int) x15_1 l0_0 l0_1 = some (r1, r2)) ∧ Aside0 (kq ≤ k) ∧ Aside0 (Kd.R k26 26 w' w.heap.size (fun _ => True) v6 x6_1) ∧ Aside0 (w'.heap[gb101]? = some (.cells #[(.slice A0_0 l0_0.length c0_0), (.slice A0_1 l0_1.length c0_1)] 28 (0, 0))) ∧ Aside0 (Below w.heap.size w w'))
  case atStart => exact ⟨(([] : List (S26))), (0), (by first|rfl|(simp;done)|(simp [*];done)), H', ⟨Nat.le_refl _⟩, ⟨by first|exact Kd.R_nil _ _ _ _ _|exact Kd.N_nil _ _ _ _ _|exact Kd.V_nil _ _ _ _ _|exact Kd.Q_nil _ _ _ _ _|exact Kd.S_nil _ _ _ _ _⟩, ⟨by (with_reducible repeat (first|refine blk_drewN ?_ _|refine blk_drew ?_|refine blk_alloc ?_ _));exact BK101.out⟩, ⟨by repeat (first|(with_reducible first|exact HB.out|apply below_alloc|apply pw_below_drewN|apply below_drew1|refine below_set ?_ GE101.out)|exact HB.out)⟩⟩
  case round =>
    clear H'
    try clear c1
    try clear p2
    try clear hcz4_0
    try clear hcz4_1
    try clear hfz4_0
    try clear hfz4_1
    obtain ⟨x6_1, x15_1, rfl, HA, HK1, HO_6, BK101, HB⟩ := hrel
    cases gk with
    | zero => exact absurd HA.out (by simp [marks_Of.l0])
    | succ k1 =>
      have H := HA.out
      clear HA
      simp only [marks_Of.l0] at H
      by_cases c5 : x15_1 < (l0_0.length : Int)
      · rw [if_pos c5] at H
        have c5b0 : decide (x15_1 < (l0_0.length : Int)) = true := decide_eq_true c5
        clear c5
        by_cases c6 : 0 ≤ x15_1
        · rw [if_pos c6] at H
          have c6b0 : decide (0 ≤ x15_1) = true := decide_eq_true c6
          clear c6
          by_cases c7 : x15_1 < (l0_0.length : Int)
          · rw [if_pos c7] at H
            have c7b0 : decide (x15_1 < (l0_0.length : Int)) = true := decide_eq_true c7
            clear c7
            by_cases c8 : ((rd_T26 l0_0 x15_1).f0) = a1
            · rw [if_pos c8] at H
              have c8b0 : (((rd_T26 l0_0 x15_1).f0) == a1) = true := beq_iff_eq.mpr c8
              have c8b1 : (((rd_T26 l0_0 x15_1).f0) != a1) = false := bne_eq_false_iff_eq.mpr c8
              clear c8
              by_cases c9 : x6_1.length < 5864062014805
              · rw [if_pos c9] at H
                have LMc9 := Aside0.mk c9
                clear c9
                obtain ⟨y104, hy104⟩ : ∃ y_ : List (S26), y_ = (x6_1 ++ [(⟨(rd_T26 l0_0 x15_1).f0, (rd_T26 l0_0 x15_1).f1, (rd_T26 l0_0 x15_1).f2⟩ : S26)]) := ⟨_, rfl⟩
                replace H : (marks_Of.l0 k1 a1 y104 l0_0 (l0_0.length : Int) (wrap64 (x15_1 + 1)) l0_0 l0_1) = some (r1, r2):=by first|(rw [hy104];with_reducible exact H)|(have H2_:=(Option.bind_some _ _).symm.trans H;rw [hy104];with_reducible exact H2_)|(have H2_:=(Option.bind_some _ _).symm.trans H;with_reducible exact H2_)|with_reducible exact H|(rw [hy104];exact H)|exact H
                have Ny104 := Aside0.mk hy104
                clear hy104
                have H' := Aside0.mk H
                clear H
                have p102 : 0 ≤ (x15_1 : Int):=of_decide_eq_true (by first|(with_reducible assumption)|assumption)
                have q102 : x15_1 < (l0_0.length : Int):=of_decide_eq_true (by first|(with_reducible assumption)|assumption)
                obtain ⟨ad102, e102, hx102_0, hx102_1, hx102_2⟩ := at_T26 HR0_0.out x15_1 p102 q102
                cases e102
                replace hx102_0 := (HB.out.cell (World.block_lt_of_cell? w _ hx102_0)).trans hx102_0
                replace hx102_1 := (HB.out.cell (World.block_lt_of_cell? w _ hx102_1)).trans hx102_1
                replace hx102_2 := (HB.out.cell (World.block_lt_of_cell? w _ hx102_2)).trans hx102_2
                replace p102 := eq_true p102
                replace q102 := eq_true q102
                go_wp2_with (first|((with_reducible refine gate_dst (N:=9) rfl ?_);refine box_event ?hg (N:=9) ?hd (cs:=#[.int .i64 0, .int .i64 0, .int .i64 0]) (t:=26) ?hr ?_;(case hd => rfl);(case hg => rfl);(case hr => first|(go_simp;done)|(go_simp;rfl));intro gb103 hg w10 hbox hb;have n0_:=Aside0.mk (Kd.R_below (Kd.R_elderB (by (with_reducible repeat (first|apply Kd.R_alloc|apply Kd.R_drewN|apply Kd.R_drew));exact HO_6.out) gb103 (Nat.le_of_eq hg.symm)) hb);have n1_:=Aside0.mk (blk_below (g:=gb101) (o:=.cells #[.slice (some ad102) l0_0.length c0_0, .slice A0_1 l0_1.length c0_1] 28 (0, 0)) (by (with_reducible repeat (first|refine blk_drewN ?_ _|refine blk_drew ?_|refine blk_alloc ?_ _));exact BK101.out) hb);have n2_:=Aside0.mk (below_step (by repeat (first|(with_reducible first|exact HB.out|apply below_alloc|apply pw_below_drewN|apply below_drew1|refine below_set ?_ GE101.out)|exact HB.out)) hb);have n3_:=Aside0.mk (hbox);have n4_:=Aside0.mk ((by rw [hg];exact (below_size (by repeat (first|(with_reducible first|exact HB.out|apply below_alloc|apply pw_below_drewN|apply below_drew1|refine below_set ?_ GE101.out)|exact HB.out))) : w.heap.size ≤ gb103));have n5_:=Aside0.mk ((by rw [hg];exact (below_size (by repeat (first|(with_reducible first|exact HB.out|apply below_alloc|apply pw_below_drewN|apply below_drew1|refine below_set ?_ GE101.out)|exact HB.out))) : w.heap.size ≤ gb103));have n6_:=Aside0.mk ((by rw [hg];exact Nat.ne_of_lt (blk_lt (g:=gb101) (o:=.cells #[.slice (some ad102) l0_0.length c0_0, .slice A0_1 l0_1.length c0_1] 28 (0, 0)) (by (with_reducible repeat (first|refine blk_drewN ?_ _|refine blk_drew ?_|refine blk_alloc ?_ _));exact BK101.out)) : gb101 ≠ gb103));have n7_:=Aside0.mk ((by rw [hg];exact Nat.ne_of_gt (blk_lt (g:=gb101) (o:=.cells #[.slice (some ad102) l0_0.length c0_0, .slice A0_1 l0_1.length c0_1] 28 (0, 0)) (by (with_reducible repeat (first|refine blk_drewN ?_ _|refine blk_drew ?_|refine blk_alloc ?_ _));exact BK101.out)) : gb103 ≠ gb101));clear HO_6;clear BK101;clear HB;have HO_6:=n0_;have BK101:=n1_;have HB:=n2_;have BK103:=n3_;have GW103:=n4_;have GE103:=n5_;have NB101_103:=n6_;have NB103_101:=n7_;clear n0_ n1_ n2_ n3_ n4_ n5_ n6_ n7_;clear hb hbox hg;have hnb11:=NB103_101.out;have hnc11:=NB101_103.out;have hcz12_0 : w10.cell? ⟨gb103, 0, none⟩ = some (.int .i64 0):=(blk_cell BK103.out 0).trans rfl;have hcz12_1 : w10.cell? ⟨gb103, 1, none⟩ = some (.int .i64 0):=(blk_cell BK103.out 1).trans rfl;have hcz12_2 : w10.cell? ⟨gb103, 2, none⟩ = some (.int .i64 0):=(blk_cell BK103.out 2).trans rfl;have hfz12_0:=blk_frozen BK103.out 0;have hfz12_1:=blk_frozen BK103.out 1;have hfz12_2:=blk_frozen BK103.out 2)|((with_reducible refine gate_builtin (b:=.append) (xs:=#[.tmp 23, .tmp 25]) rfl ?_);at_builtin;refine Kd.R_append k26 (w0:=w) w.heap.size rfl (.tmp 23) (.tmp 25) 22 26 (.agg #[(.int .i64 0), (.int .i64 0), (.int .i64 0)]) 24 rfl Try.underlying22 info26 rfl (by decide) (by omega) u6 x6_1 (⟨(rd_T26 l0_0 x15_1).f0, (rd_T26 l0_0 x15_1).f1, (rd_T26 l0_0 x15_1).f2⟩ : S26) [.int .i64 ((rd_T26 l0_0 x15_1).f0), .int .i64 ((rd_T26 l0_0 x15_1).f1), .int .i64 ((rd_T26 l0_0 x15_1).f2)] (fun k_ => k_ ≠ gb103) (fun _ => False) rfl (by first|(go_simp;done)|(go_simp;rfl)) ?aP (fun _ hk => hk.elim) ?aF ?aO ?aB ?aS ?aL ?_;(case aP => exact k26_mkM _ _ _ (⟨(rd_T26 l0_0 x15_1).f0, (rd_T26 l0_0 x15_1).f1, (rd_T26 l0_0 x15_1).f2⟩ : S26));(case aB => exact (by repeat (first|(with_reducible first|exact HB.out|apply below_alloc|apply pw_below_drewN|apply below_drew1|refine below_set ?_ GE101.out|refine below_set ?_ GE103.out)|exact HB.out)));(case aF => exact (fun k_ hk => Kd.freshB (g:=gb103) (o:=.cells #[.int .i64 ((rd_T26 l0_0 x15_1).f0), .int .i64 ((rd_T26 l0_0 x15_1).f1), .int .i64 ((rd_T26 l0_0 x15_1).f2)] 26 (0, 0)) (by (with_reducible repeat (first|refine blk_drewN ?_ _|refine blk_drew ?_|refine blk_alloc ?_ _));refine blk_put (cs:=#[.int .i64 ((rd_T26 l0_0 x15_1).f0), .int .i64 ((rd_T26 l0_0 x15_1).f1), .int .i64 0]) ?_ 2 _ rfl;(with_reducible repeat (first|refine blk_drewN ?_ _|refine blk_drew ?_|refine blk_alloc ?_ _));refine blk_put (cs:=#[.int .i64 ((rd_T26 l0_0 x15_1).f0), .int .i64 0, .int .i64 0]) ?_ 1 _ rfl;(with_reducible repeat (first|refine blk_drewN ?_ _|refine blk_drew ?_|refine blk_alloc ?_ _));refine blk_put (cs:=#[.int .i64 0, .int .i64 0, .int .i64 0]) ?_ 0 _ rfl;(with_reducible repeat (first|refine blk_drewN ?_ _|refine blk_drew ?_|refine blk_alloc ?_ _));exact BK103.out) k_ hk));(case aO => exact (by (with_reducible repeat (first|apply Kd.R_alloc|apply Kd.R_drewN|apply Kd.R_drew));exact Kd.R_mono (Kd.R_far (p:=⟨gb103, 2, none⟩) (Kd.R_far (p:=⟨gb103, 1, none⟩) (Kd.R_far (p:=⟨gb103, 0, none⟩) (Kd.R_mono HO_6.out (fun k_ hk => (⟨hk, hk.2⟩ : _ ∧ k_ ≠ gb103))) (fun _ hk => hk.2) (.int .i64 ((rd_T26 l0_0 x15_1).f0))) (fun _ hk => hk.2) (.int .i64 ((rd_T26 l0_0 x15_1).f1))) (fun _ hk => hk.2) (.int .i64 ((rd_T26 l0_0 x15_1).f2))) (fun _ hk => hk.1.2)));(case aS => exact (below_size (by repeat (first|(with_reducible first|exact HB.out|apply below_alloc|apply pw_below_drewN|apply below_drew1|refine below_set ?_ GE101.out|refine below_set ?_ GE103.out)|exact HB.out))));(case aL => have:=LMc9.out;omega);intro v105 w13 ho hb hg hat;rw [← Ny104.out] at ho;have n0_:=Aside0.mk (blk_grown (g:=gb101) (o:=.cells #[.slice (some ad102) l0_0.length c0_0, .slice A0_1 l0_1.length c0_1] 28 (0, 0)) (by (with_reducible repeat (first|refine blk_drewN ?_ _|refine blk_drew ?_|refine blk_alloc ?_ _));refine blk_far ?_ NB101_103.out _;(with_reducible repeat (first|refine blk_drewN ?_ _|refine blk_drew ?_|refine blk_alloc ?_ _));refine blk_far ?_ NB101_103.out _;(with_reducible repeat (first|refine blk_drewN ?_ _|refine blk_drew ?_|refine blk_alloc ?_ _));refine blk_far ?_ NB101_103.out _;(with_reducible repeat (first|refine blk_drewN ?_ _|refine blk_drew ?_|refine blk_alloc ?_ _));exact BK101.out) hg (Kd.R_ne HO_6.out BK101.out (by decide)));have n1_:=Aside0.mk (blk_grown (g:=gb103) (o:=.cells #[.int .i64 ((rd_T26 l0_0 x15_1).f0), .int .i64 ((rd_T26 l0_0 x15_1).f1), .int .i64 ((rd_T26 l0_0 x15_1).f2)] 26 (0, 0)) (by (with_reducible repeat (first|refine blk_drewN ?_ _|refine blk_drew ?_|refine blk_alloc ?_ _));refine blk_put (cs:=#[.int .i64 ((rd_T26 l0_0 x15_1).f0), .int .i64 ((rd_T26 l0_0 x15_1).f1), .int .i64 0]) ?_ 2 _ rfl;(with_reducible repeat (first|refine blk_drewN ?_ _|refine blk_drew ?_|refine blk_alloc ?_ _));refine blk_put (cs:=#[.int .i64 ((rd_T26 l0_0 x15_1).f0), .int .i64 0, .int .i64 0]) ?_ 1 _ rfl;(with_reducible repeat (first|refine blk_drewN ?_ _|refine blk_drew ?_|refine blk_alloc ?_ _));refine blk_put (cs:=#[.int .i64 0, .int .i64 0, .int .i64 0]) ?_ 0 _ rfl;(with_reducible repeat (first|refine blk_drewN ?_ _|refine blk_drew ?_|refine blk_alloc ?_ _));exact BK103.out) hg (Kd.R_away HO_6.out (fun _ hk => hk.2)));have n2_:=Aside0.mk (hb);have n3_:=Aside0.mk (ho);clear BK101;clear BK103;clear HB;clear HO_6;have BK101:=n0_;have BK103:=n1_;have HB:=n2_;have HO106:=n3_;clear n0_ n1_ n2_ n3_;clear ho hb hg hat))
                go_roundg k1
                case measure => have := HK1.out; omega
                case rel => exact ⟨(y104), (wrap64 (x15_1 + 1)), (by first|rfl|(simp;done)|(simp [*];done)), H', ⟨by have:=HK1.out;omega⟩, ⟨by (with_reducible repeat (first|apply Kd.R_alloc|apply Kd.R_drewN|apply Kd.R_drew));exact Kd.R_mono HO106.out (fun _ hk => trivial)⟩, ⟨by (with_reducible repeat (first|refine blk_drewN ?_ _|refine blk_drew ?_|refine blk_alloc ?_ _));exact BK101.out⟩, ⟨by repeat (first|(with_reducible first|exact HB.out|apply below_alloc|apply pw_below_drewN|apply below_drew1|refine below_set ?_ GE101.out|refine below_set ?_ GE103.out)|exact HB.out)⟩⟩
              · rw [if_neg c9] at H
                exact absurd H (by simp)
            · rw [if_neg c8] at H
              have c8b0 : (((rd_T26 l0_0 x15_1).f0) == a1) = false := beq_eq_false_iff_ne.mpr c8
              have c8b1 : (((rd_T26 l0_0 x15_1).f0) != a1) = true := bne_iff_ne.mpr c8
              have H' := Aside0.mk H
              clear H
              have p102 : 0 ≤ (x15_1 : Int):=of_decide_eq_true (by first|(with_reducible assumption)|assumption)
              have q102 : x15_1 < (l0_0.length : Int):=of_decide_eq_true (by first|(with_reducible assumption)|assumption)
              obtain ⟨ad102, e102, hx102_0, hx102_1, hx102_2⟩ := at_T26 HR0_0.out x15_1 p102 q102
              cases e102
              replace hx102_0 := (HB.out.cell (World.block_lt_of_cell? w _ hx102_0)).trans hx102_0
              replace hx102_1 := (HB.out.cell (World.block_lt_of_cell? w _ hx102_1)).trans hx102_1
              replace hx102_2 := (HB.out.cell (World.block_lt_of_cell? w _ hx102_2)).trans hx102_2
              replace p102 := eq_true p102
              replace q102 := eq_true q102
              go_wp2_with (first|((with_reducible refine gate_dst (N:=9) rfl ?_);refine box_event ?hg (N:=9) ?hd (cs:=#[.int .i64 0, .int .i64 0, .int .i64 0]) (t:=26) ?hr ?_;(case hd => rfl);(case hg => rfl);(case hr => first|(go_simp;done)|(go_simp;rfl));intro gb103 hg w14 hbox hb;have n0_:=Aside0.mk (Kd.R_below (Kd.R_elderB (by (with_reducible repeat (first|apply Kd.R_alloc|apply Kd.R_drewN|apply Kd.R_drew));exact HO_6.out) gb103 (Nat.le_of_eq hg.symm)) hb);have n1_:=Aside0.mk (blk_below (g:=gb101) (o:=.cells #[.slice (some ad102) l0_0.length c0_0, .slice A0_1 l0_1.length c0_1] 28 (0, 0)) (by (with_reducible repeat (first|refine blk_drewN ?_ _|refine blk_drew ?_|refine blk_alloc ?_ _));exact BK101.out) hb);have n2_:=Aside0.mk (below_step (by repeat (first|(with_reducible first|exact HB.out|apply below_alloc|apply pw_below_drewN|apply below_drew1|refine below_set ?_ GE101.out)|exact HB.out)) hb);have n3_:=Aside0.mk (hbox);have n4_:=Aside0.mk ((by rw [hg];exact (below_size (by repeat (first|(with_reducible first|exact HB.out|apply below_alloc|apply pw_below_drewN|apply below_drew1|refine below_set ?_ GE101.out)|exact HB.out))) : w.heap.size ≤ gb103));have n5_:=Aside0.mk ((by rw [hg];exact (below_size (by repeat (first|(with_reducible first|exact HB.out|apply below_alloc|apply pw_below_drewN|apply below_drew1|refine below_set ?_ GE101.out)|exact HB.out))) : w.heap.size ≤ gb103));have n6_:=Aside0.mk ((by rw [hg];exact Nat.ne_of_lt (blk_lt (g:=gb101) (o:=.cells #[.slice (some ad102) l0_0.length c0_0, .slice A0_1 l0_1.length c0_1] 28 (0, 0)) (by (with_reducible repeat (first|refine blk_drewN ?_ _|refine blk_drew ?_|refine blk_alloc ?_ _));exact BK101.out)) : gb101 ≠ gb103));have n7_:=Aside0.mk ((by rw [hg];exact Nat.ne_of_gt (blk_lt (g:=gb101) (o:=.cells #[.slice (some ad102) l0_0.length c0_0, .slice A0_1 l0_1.length c0_1] 28 (0, 0)) (by (with_reducible repeat (first|refine blk_drewN ?_ _|refine blk_drew ?_|refine blk_alloc ?_ _));exact BK101.out)) : gb103 ≠ gb101));clear HO_6;clear BK101;clear HB;have HO_6:=n0_;have BK101:=n1_;have HB:=n2_;have BK103:=n3_;have GW103:=n4_;have GE103:=n5_;have NB101_103:=n6_;have NB103_101:=n7_;clear n0_ n1_ n2_ n3_ n4_ n5_ n6_ n7_;clear hb hbox hg;have hnb15:=NB103_101.out;have hnc15:=NB101_103.out;have hcz16_0 : w14.cell? ⟨gb103, 0, none⟩ = some (.int .i64 0):=(blk_cell BK103.out 0).trans rfl;have hcz16_1 : w14.cell? ⟨gb103, 1, none⟩ = some (.int .i64 0):=(blk_cell BK103.out 1).trans rfl;have hcz16_2 : w14.cell? ⟨gb103, 2, none⟩ = some (.int .i64 0):=(blk_cell BK103.out 2).trans rfl;have hfz16_0:=blk_frozen BK103.out 0;have hfz16_1:=blk_frozen BK103.out 1;have hfz16_2:=blk_frozen BK103.out 2))
              go_roundg k1
              case measure => have := HK1.out; omega
              case rel => exact ⟨(x6_1), (wrap64 (x15_1 + 1)), (by first|rfl|(simp;done)|(simp [*];done)), H', ⟨by have:=HK1.out;omega⟩, ⟨by (with_reducible repeat (first|apply Kd.R_alloc|apply Kd.R_drewN|apply Kd.R_drew));exact Kd.R_mono (Kd.R_far (p:=⟨gb103, 2, none⟩) (Kd.R_far (p:=⟨gb103, 1, none⟩) (Kd.R_far (p:=⟨gb103, 0, none⟩) (Kd.R_mono HO_6.out (fun k_ hk => (⟨hk, hk.2⟩ : _ ∧ k_ ≠ gb103))) (fun _ hk => hk.2) (.int .i64 ((rd_T26 l0_0 x15_1).f0))) (fun _ hk => hk.2) (.int .i64 ((rd_T26 l0_0 x15_1).f1))) (fun _ hk => hk.2) (.int .i64 ((rd_T26 l0_0 x15_1).f2))) (fun _ hk => trivial)⟩, ⟨by (with_reducible repeat (first|refine blk_drewN ?_ _|refine blk_drew ?_|refine blk_alloc ?_ _));refine blk_far ?_ NB101_103.out _;(with_reducible repeat (first|refine blk_drewN ?_ _|refine blk_drew ?_|refine blk_alloc ?_ _));refine blk_far ?_ NB101_103.out _;(with_reducible repeat (first|refine blk_drewN ?_ _|refine blk_drew ?_|refine blk_alloc ?_ _));refine blk_far ?_ NB101_103.out _;(with_reducible repeat (first|refine blk_drewN ?_ _|refine blk_drew ?_|refine blk_alloc ?_ _));exact BK101.out⟩, ⟨by repeat (first|(with_reducible first|exact HB.out|apply below_alloc|apply pw_below_drewN|apply below_drew1|refine below_set ?_ GE101.out|refine below_set ?_ GE103.out)|exact HB.out)⟩⟩
          · rw [if_neg c7] at H
            exact absurd H (by simp)
        · rw [if_neg c6] at H
          exact absurd H (by simp)
      · rw [if_neg c5] at H
        have c5b0 : decide (x15_1 < (l0_0.length : Int)) = false := decide_eq_false c5
        clear c5
        have H' := Aside0.mk H
        clear H
        have hcz17_0 : wr.cell? ⟨gb101, 0, none⟩ = some (.slice A0_0 l0_0.length c0_0) := (blk_cell BK101.out 0).trans rfl
        have hcz17_1 : wr.cell? ⟨gb101, 1, none⟩ = some (.slice A0_1 l0_1.length c0_1) := (blk_cell BK101.out 1).trans rfl
        have hfz17_0 := blk_frozen BK101.out 0
        have hfz17_1 := blk_frozen BK101.out 1
        go_wp2
        go_loopg [7, 31] k1 (fun kq v7 v31 w' => ∃ (x7_2 : List Int) (x31_2 : Int), v31 = .int .i64 x31_2 ∧ Aside0 (marks_Of.l1 kq a1 x6_1 x7_2 l0_1 (l0_1.length : Int) x31_2 = some (r1, r2)) ∧ Aside0 (kq ≤ k1) ∧ Aside0 (Kd.R k26 26 w' w.heap.size (fun _ => True) u6 x6_1) ∧ Aside0 (Kd.R (Kd.int .i64) 3 w' w.heap.size (fun _ => True) v7 x7_2) ∧ Aside0 (w'.heap[gb101]? = some (.cells #[(.slice A0_0 l0_0.length c0_0), (.slice A0_1 l0_1.length c0_1)] 28 (0, 0))) ∧ Aside0 (Below w.heap.size w w'))
        case atStart => exact ⟨(([] : List Int)), (0), (by first|rfl|(simp;done)|(simp [*];done)), H', ⟨Nat.le_refl _⟩, ⟨by (with_reducible repeat (first|apply Kd.R_alloc|apply Kd.R_drewN|apply Kd.R_drew));exact HO_6.out⟩, ⟨by first|exact Kd.R_nil _ _ _ _ _|exact Kd.N_nil _ _ _ _ _|exact Kd.V_nil _ _ _ _ _|exact Kd.Q_nil _ _ _ _ _|exact Kd.S_nil _ _ _ _ _⟩, ⟨by (with_reducible repeat (first|refine blk_drewN ?_ _|refine blk_drew ?_|refine blk_alloc ?_ _));exact BK101.out⟩, ⟨by repeat (first|(with_reducible first|exact HB.out|apply below_alloc|apply pw_below_drewN|apply below_drew1|refine below_set ?_ GE101.out)|exact HB.out)⟩⟩
        case round =>
          clear H'
          try clear c1
          try clear p1
          try clear q1
          try clear hx1
          try clear p2
          try clear c5
          try clear c5b0
          try clear c6
          try clear c6b0
          try clear p6
          try clear c7
          try clear c7b0
          try clear c8
          try clear c8b0
          try clear c8b1
          try clear c9
          try clear p10
          try clear q10
          try clear hx10
          try clear c11
          try clear c15
          try clear hcz12_0
          try clear hcz12_1
          try clear hcz12_2
          try clear hcz16_0
          try clear hcz16_1
          try clear hcz16_2
          try clear hcz17_0
          try clear hcz17_1
          try clear hcz4_0
          try clear hcz4_1
          try clear hfz12_0
          try clear hfz12_1
          try clear hfz12_2
          try clear hfz16_0
          try clear hfz16_1
          try clear hfz16_2
          try clear hfz17_0
          try clear hfz17_1
          try clear hfz4_0
          try clear hfz4_1
          try clear hx102_0
          try clear hx102_1
          try clear hx102_2
          try clear p102
          try clear p2
          try clear q102
          obtain ⟨x7_2, x31_2, rfl, HA, HK2, HO_6, HO_7, BK101, HB⟩ := hrel
          cases gk with
          | zero => exact absurd HA.out (by simp [marks_Of.l1])
          | succ k2 =>
            have H := HA.out
            clear HA
            simp only [marks_Of.l1] at H
            by_cases c18 : x31_2 < (l0_1.length : Int)
            · rw [if_pos c18] at H
              have c18b0 : decide (x31_2 < (l0_1.length : Int)) = true := decide_eq_true c18
              clear c18
              by_cases c19 : 0 ≤ x31_2
              · rw [if_pos c19] at H
                have c19b0 : decide (0 ≤ x31_2) = true := decide_eq_true c19
                clear c19
                by_cases c20 : x31_2 < (l0_1.length : Int)
                · rw [if_pos c20] at H
                  have c20b0 : decide (x31_2 < (l0_1.length : Int)) = true := decide_eq_true c20
                  clear c20
                  by_cases c21 : ((rd_T38 l0_1 x31_2).f0) = a1
                  · rw [if_pos c21] at H
                    have c21b0 : (((rd_T38 l0_1 x31_2).f0) == a1) = true := beq_iff_eq.mpr c21
                    have c21b1 : (((rd_T38 l0_1 x31_2).f0) != a1) = false := bne_eq_false_iff_eq.mpr c21
                    clear c21
                    by_cases c22 : x7_2.length < 17592186044416
                    · rw [if_pos c22] at H
                      have LMc22 := Aside0.mk c22
                      clear c22
                      obtain ⟨y109, hy109⟩ : ∃ y_ : List Int, y_ = (x7_2 ++ [(rd_T38 l0_1 x31_2).f1]) := ⟨_, rfl⟩
                      replace H : (marks_Of.l1 k2 a1 x6_1 y109 l0_1 (l0_1.length : Int) (wrap64 (x31_2 + 1))) = some (r1, r2):=by first|(rw [hy109];with_reducible exact H)|(have H2_:=(Option.bind_some _ _).symm.trans H;rw [hy109];with_reducible exact H2_)|(have H2_:=(Option.bind_some _ _).symm.trans H;with_reducible exact H2_)|with_reducible exact H|(rw [hy109];exact H)|exact H
                      have Ny109 := Aside0.mk hy109
                      clear hy109
                      have H' := Aside0.mk H
                      clear H
                      have p107 : 0 ≤ (x31_2 : Int):=of_decide_eq_true (by first|(with_reducible assumption)|assumption)
                      have q107 : x31_2 < (l0_1.length : Int):=of_decide_eq_true (by first|(with_reducible assumption)|assumption)
                      obtain ⟨ad107, e107, hx107_0, hx107_1⟩ := at_T38 HR0_1.out x31_2 p107 q107
                      cases e107
                      replace hx107_0 := (HB.out.cell (World.block_lt_of_cell? w _ hx107_0)).trans hx107_0
                      replace hx107_1 := (HB.out.cell (World.block_lt_of_cell? w _ hx107_1)).trans hx107_1
                      replace p107 := eq_true p107
                      replace q107 := eq_true q107
                      go_wp2_with (first|((with_reducible refine gate_dst (N:=11) rfl ?_);refine box_event ?hg (N:=11) ?hd (cs:=#[.int .i64 0, .int .i64 0]) (t:=38) ?hr ?_;(case hd => rfl);(case hg => rfl);(case hr => first|(go_simp;done)|(go_simp;rfl));intro gb108 hg w23 hbox hb;have n0_:=Aside0.mk (Kd.R_below (by (with_reducible repeat (first|apply Kd.R_alloc|apply Kd.R_drewN|apply Kd.R_drew));exact HO_6.out) hb);have n1_:=Aside0.mk (Kd.R_below (by (with_reducible repeat (first|apply Kd.R_alloc|apply Kd.R_drewN|apply Kd.R_drew));exact HO_7.out) hb);have n2_:=Aside0.mk (blk_below (g:=gb101) (o:=.cells #[.slice A0_0 l0_0.length c0_0, .slice (some ad107) l0_1.length c0_1] 28 (0, 0)) (by (with_reducible repeat (first|refine blk_drewN ?_ _|refine blk_drew ?_|refine blk_alloc ?_ _));exact BK101.out) hb);have n3_:=Aside0.mk (below_step (by repeat (first|(with_reducible first|exact HB.out|apply below_alloc|apply pw_below_drewN|apply below_drew1|refine below_set ?_ GE101.out)|exact HB.out)) hb);have n4_:=Aside0.mk (hbox);have n5_:=Aside0.mk ((by rw [hg];exact (below_size (by repeat (first|(with_reducible first|exact HB.out|apply below_alloc|apply pw_below_drewN|apply below_drew1|refine below_set ?_ GE101.out)|exact HB.out))) : w.heap.size ≤ gb108));have n6_:=Aside0.mk ((by rw [hg];exact (below_size (by repeat (first|(with_reducible first|exact HB.out|apply below_alloc|apply pw_below_drewN|apply below_drew1|refine below_set ?_ GE101.out)|exact HB.out))) : w.heap.size ≤ gb108));have n7_:=Aside0.mk ((by rw [hg];exact Nat.ne_of_lt (blk_lt (g:=gb101) (o:=.cells #[.slice A0_0 l0_0.length c0_0, .slice (some ad107) l0_1.length c0_1] 28 (0, 0)) (by (with_reducible repeat (first|refine blk_drewN ?_ _|refine blk_drew ?_|refine blk_alloc ?_ _));exact BK101.out)) : gb101 ≠ gb108));have n8_:=Aside0.mk ((by rw [hg];exact Nat.ne_of_gt (blk_lt (g:=gb101) (o:=.cells #[.slice A0_0 l0_0.length c0_0, .slice (some ad107) l0_1.length c0_1] 28 (0, 0)) (by (with_reducible repeat (first|refine blk_drewN ?_ _|refine blk_drew ?_|refine blk_alloc ?_ _));exact BK101.out)) : gb108 ≠ gb101));clear HO_6;clear HO_7;clear BK101;clear HB;have HO_6:=n0_;have HO_7:=n1_;have BK101:=n2_;have HB:=n3_;have BK108:=n4_;have GW108:=n5_;have GE108:=n6_;have NB101_108:=n7_;have NB108_101:=n8_;clear n0_ n1_ n2_ n3_ n4_ n5_ n6_ n7_ n8_;clear hb hbox hg;have hnb24:=NB108_101.out;have hnc24:=NB101_108.out;have hcz25_0 : w23.cell? ⟨gb108, 0, none⟩ = some (.int .i64 0):=(blk_cell BK108.out 0).trans rfl;have hcz25_1 : w23.cell? ⟨gb108, 1, none⟩ = some (.int .i64 0):=(blk_cell BK108.out 1).trans rfl;have hfz25_0:=blk_frozen BK108.out 0;have hfz25_1:=blk_frozen BK108.out 1)|((with_reducible refine gate_builtin (b:=.append) (xs:=#[.tmp 39, .tmp 42]) rfl ?_);at_builtin;refine Kd.R_append (Kd.int .i64) (w0:=w) w.heap.size rfl (.tmp 39) (.tmp 42) 34 3 (.int .i64 0) 8 rfl Try.underlying34 info3 rfl (by decide) (by omega) u7 x7_2 ((rd_T38 l0_1 x31_2).f1) [.int .i64 ((rd_T38 l0_1 x31_2).f1)] (fun _ => True) (fun _ => False) rfl (by first|(go_simp;done)|(go_simp;rfl)) ?aP (fun _ hk => hk.elim) ?aF ?aO ?aB ?aS ?aL ?_;(case aP => exact rfl);(case aB => exact (by repeat (first|(with_reducible first|exact HB.out|apply below_alloc|apply pw_below_drewN|apply below_drew1|refine below_set ?_ GE101.out|refine below_set ?_ GE108.out)|exact HB.out)));(case aF => exact (fun _ _ => trivial));(case aO => exact (by (with_reducible repeat (first|apply Kd.R_alloc|apply Kd.R_drewN|apply Kd.R_drew));exact Kd.R_mono (Kd.R_far (p:=⟨gb108, 1, none⟩) (Kd.R_far (p:=⟨gb108, 0, none⟩) (Kd.R_types HO_7.out BK108.out (by decide)) (fun _ hk => hk.2) (.int .i64 ((rd_T38 l0_1 x31_2).f0))) (fun _ hk => hk.2) (.int .i64 ((rd_T38 l0_1 x31_2).f1))) (fun _ hk => trivial)));(case aS => exact (below_size (by repeat (first|(with_reducible first|exact HB.out|apply below_alloc|apply pw_below_drewN|apply below_drew1|refine below_set ?_ GE101.out|refine below_set ?_ GE108.out)|exact HB.out))));(case aL => have:=LMc22.out;omega);intro v110 w26 ho hb hg hat;rw [← Ny109.out] at ho;have n0_:=Aside0.mk (Kd.R_over' (by (with_reducible repeat (first|apply Kd.R_alloc|apply Kd.R_drewN|apply Kd.R_drew));exact (Kd.R_mono (Kd.R_far (p:=⟨gb108, 1, none⟩) (Kd.R_far (p:=⟨gb108, 0, none⟩) (Kd.R_types HO_6.out BK108.out (by decide)) (fun _ hk => hk.2) (.int .i64 ((rd_T38 l0_1 x31_2).f0))) (fun _ hk => hk.2) (.int .i64 ((rd_T38 l0_1 x31_2).f1))) (fun _ h_ => h_.1))) (Kd.R_typed (by (with_reducible repeat (first|apply Kd.R_alloc|apply Kd.R_drewN|apply Kd.R_drew));exact (Kd.R_mono (Kd.R_far (p:=⟨gb108, 1, none⟩) (Kd.R_far (p:=⟨gb108, 0, none⟩) (Kd.R_types HO_7.out BK108.out (by decide)) (fun _ hk => hk.2) (.int .i64 ((rd_T38 l0_1 x31_2).f0))) (fun _ hk => hk.2) (.int .i64 ((rd_T38 l0_1 x31_2).f1))) (fun _ h_ => h_.1)))) (by decide) hg);have n1_:=Aside0.mk (blk_grown (g:=gb101) (o:=.cells #[.slice A0_0 l0_0.length c0_0, .slice (some ad107) l0_1.length c0_1] 28 (0, 0)) (by (with_reducible repeat (first|refine blk_drewN ?_ _|refine blk_drew ?_|refine blk_alloc ?_ _));refine blk_far ?_ NB101_108.out _;(with_reducible repeat (first|refine blk_drewN ?_ _|refine blk_drew ?_|refine blk_alloc ?_ _));refine blk_far ?_ NB101_108.out _;(with_reducible repeat (first|refine blk_drewN ?_ _|refine blk_drew ?_|refine blk_alloc ?_ _));exact BK101.out) hg (Kd.R_ne HO_7.out BK101.out (by decide)));have n2_:=Aside0.mk (blk_grown (g:=gb108) (o:=.cells #[.int .i64 ((rd_T38 l0_1 x31_2).f0), .int .i64 ((rd_T38 l0_1 x31_2).f1)] 38 (0, 0)) (by (with_reducible repeat (first|refine blk_drewN ?_ _|refine blk_drew ?_|refine blk_alloc ?_ _));refine blk_put (cs:=#[.int .i64 ((rd_T38 l0_1 x31_2).f0), .int .i64 0]) ?_ 1 _ rfl;(with_reducible repeat (first|refine blk_drewN ?_ _|refine blk_drew ?_|refine blk_alloc ?_ _));refine blk_put (cs:=#[.int .i64 0, .int .i64 0]) ?_ 0 _ rfl;(with_reducible repeat (first|refine blk_drewN ?_ _|refine blk_drew ?_|refine blk_alloc ?_ _));exact BK108.out) hg (Kd.R_ne HO_7.out BK108.out (by decide)));have n3_:=Aside0.mk (hb);have n4_:=Aside0.mk (ho);clear HO_6;clear BK101;clear BK108;clear HB;clear HO_7;have HO_6:=n0_;have BK101:=n1_;have BK108:=n2_;have HB:=n3_;have HO111:=n4_;clear n0_ n1_ n2_ n3_ n4_;clear ho hb hg hat))
                      go_roundg k2
                      case measure => have := HK1.out; have := HK2.out; omega
                      case rel => exact ⟨(y109), (wrap64 (x31_2 + 1)), (by first|rfl|(simp;done)|(simp [*];done)), H', ⟨by have:=HK1.out;have:=HK2.out;omega⟩, ⟨by (with_reducible repeat (first|apply Kd.R_alloc|apply Kd.R_drewN|apply Kd.R_drew));exact HO_6.out⟩, ⟨by (with_reducible repeat (first|apply Kd.R_alloc|apply Kd.R_drewN|apply Kd.R_drew));exact HO111.out⟩, ⟨by (with_reducible repeat (first|refine blk_drewN ?_ _|refine blk_drew ?_|refine blk_alloc ?_ _));exact BK101.out⟩, ⟨by repeat (first|(with_reducible first|exact HB.out|apply below_alloc|apply pw_below_drewN|apply below_drew1|refine below_set ?_ GE101.out|refine below_set ?_ GE108.out)|exact HB.out)⟩⟩
                    · rw [if_neg c22] at H
                      exact absurd H (by simp)
                  · rw [if_neg c21] at H
                    have c21b0 : (((rd_T38 l0_1 x31_2).f0) == a1) = false := beq_eq_false_iff_ne.mpr c21
                    have c21b1 : (((rd_T38 l0_1 x31_2).f0) != a1) = true := bne_iff_ne.mpr c21
                    have H' := Aside0.mk H
                    clear H
                    have p107 : 0 ≤ (x31_2 : Int):=of_decide_eq_true (by first|(with_reducible assumption)|assumption)
                    have q107 : x31_2 < (l0_1.length : Int):=of_decide_eq_true (by first|(with_reducible assumption)|assumption)
                    obtain ⟨ad107, e107, hx107_0, hx107_1⟩ := at_T38 HR0_1.out x31_2 p107 q107
                    cases e107
                    replace hx107_0 := (HB.out.cell (World.block_lt_of_cell? w _ hx107_0)).trans hx107_0
                    replace hx107_1 := (HB.out.cell (World.block_lt_of_cell? w _ hx107_1)).trans hx107_1
                    replace p107 := eq_true p107
                    replace q107 := eq_true q107
                    go_wp2_with (first|((with_reducible refine gate_dst (N:=11) rfl ?_);refine box_event ?hg (N:=11) ?hd (cs:=#[.int .i64 0, .int .i64 0]) (t:=38) ?hr ?_;(case hd => rfl);(case hg => rfl);(case hr => first|(go_simp;done)|(go_simp;rfl));intro gb108 hg w27 hbox hb;have n0_:=Aside0.mk (Kd.R_below (by (with_reducible repeat (first|apply Kd.R_alloc|apply Kd.R_drewN|apply Kd.R_drew));exact HO_6.out) hb);have n1_:=Aside0.mk (Kd.R_below (by (with_reducible repeat (first|apply Kd.R_alloc|apply Kd.R_drewN|apply Kd.R_drew));exact HO_7.out) hb);have n2_:=Aside0.mk (blk_below (g:=gb101) (o:=.cells #[.slice A0_0 l0_0.length c0_0, .slice (some ad107) l0_1.length c0_1] 28 (0, 0)) (by (with_reducible repeat (first|refine blk_drewN ?_ _|refine blk_drew ?_|refine blk_alloc ?_ _));exact BK101.out) hb);have n3_:=Aside0.mk (below_step (by repeat (first|(with_reducible first|exact HB.out|apply below_alloc|apply pw_below_drewN|apply below_drew1|refine below_set ?_ GE101.out)|exact HB.out)) hb);have n4_:=Aside0.mk (hbox);have n5_:=Aside0.mk ((by rw [hg];exact (below_size (by repeat (first|(with_reducible first|exact HB.out|apply below_alloc|apply pw_below_drewN|apply below_drew1|refine below_set ?_ GE101.out)|exact HB.out))) : w.heap.size ≤ gb108));have n6_:=Aside0.mk ((by rw [hg];exact (below_size (by repeat (first|(with_reducible first|exact HB.out|apply below_alloc|apply pw_below_drewN|apply below_drew1|refine below_set ?_ GE101.out)|exact HB.out))) : w.heap.size ≤ gb108));have n7_:=Aside0.mk ((by rw [hg];exact Nat.ne_of_lt (blk_lt (g:=gb101) (o:=.cells #[.slice A0_0 l0_0.length c0_0, .slice (some ad107) l0_1.length c0_1] 28 (0, 0)) (by (with_reducible repeat (first|refine blk_drewN ?_ _|refine blk_drew ?_|refine blk_alloc ?_ _));exact BK101.out)) : gb101 ≠ gb108));have n8_:=Aside0.mk ((by rw [hg];exact Nat.ne_of_gt (blk_lt (g:=gb101) (o:=.cells #[.slice A0_0 l0_0.length c0_0, .slice (some ad107) l0_1.length c0_1] 28 (0, 0)) (by (with_reducible repeat (first|refine blk_drewN ?_ _|refine blk_drew ?_|refine blk_alloc ?_ _));exact BK101.out)) : gb108 ≠ gb101));clear HO_6;clear HO_7;clear BK101;clear HB;have HO_6:=n0_;have HO_7:=n1_;have BK101:=n2_;have HB:=n3_;have BK108:=n4_;have GW108:=n5_;have GE108:=n6_;have NB101_108:=n7_;have NB108_101:=n8_;clear n0_ n1_ n2_ n3_ n4_ n5_ n6_ n7_ n8_;clear hb hbox hg;have hnb28:=NB108_101.out;have hnc28:=NB101_108.out;have hcz29_0 : w27.cell? ⟨gb108, 0, none⟩ = some (.int .i64 0):=(blk_cell BK108.out 0).trans rfl;have hcz29_1 : w27.cell? ⟨gb108, 1, none⟩ = some (.int .i64 0):=(blk_cell BK108.out 1).trans rfl;have hfz29_0:=blk_frozen BK108.out 0;have hfz29_1:=blk_frozen BK108.out 1))
                    go_roundg k2
                    case measure => have := HK1.out; have := HK2.out; omega
                    case rel => exact ⟨(x7_2), (wrap64 (x31_2 + 1)), (by first|rfl|(simp;done)|(simp [*];done)), H', ⟨by have:=HK1.out;have:=HK2.out;omega⟩, ⟨by (with_reducible repeat (first|apply Kd.R_alloc|apply Kd.R_drewN|apply Kd.R_drew));exact Kd.R_mono (Kd.R_far (p:=⟨gb108, 1, none⟩) (Kd.R_far (p:=⟨gb108, 0, none⟩) (Kd.R_types HO_6.out BK108.out (by decide)) (fun _ hk => hk.2) (.int .i64 ((rd_T38 l0_1 x31_2).f0))) (fun _ hk => hk.2) (.int .i64 ((rd_T38 l0_1 x31_2).f1))) (fun _ hk => trivial)⟩, ⟨by (with_reducible repeat (first|apply Kd.R_alloc|apply Kd.R_drewN|apply Kd.R_drew));exact Kd.R_mono (Kd.R_far (p:=⟨gb108, 1, none⟩) (Kd.R_far (p:=⟨gb108, 0, none⟩) (Kd.R_types HO_7.out BK108.out (by decide)) (fun _ hk => hk.2) (.int .i64 ((rd_T38 l0_1 x31_2).f0))) (fun _ hk => hk.2) (.int .i64 ((rd_T38 l0_1 x31_2).f1))) (fun _ hk => trivial)⟩, ⟨by (with_reducible repeat (first|refine blk_drewN ?_ _|refine blk_drew ?_|refine blk_alloc ?_ _));refine blk_far ?_ NB101_108.out _;(with_reducible repeat (first|refine blk_drewN ?_ _|refine blk_drew ?_|refine blk_alloc ?_ _));refine blk_far ?_ NB101_108.out _;(with_reducible repeat (first|refine blk_drewN ?_ _|refine blk_drew ?_|refine blk_alloc ?_ _));exact BK101.out⟩, ⟨by repeat (first|(with_reducible first|exact HB.out|apply below_alloc|apply pw_below_drewN|apply below_drew1|refine below_set ?_ GE101.out|refine below_set ?_ GE108.out)|exact HB.out)⟩⟩
                · rw [if_neg c20] at H
                  exact absurd H (by simp)
              · rw [if_neg c19] at H
                exact absurd H (by simp)
            · rw [if_neg c18] at H
              have c18b0 : decide (x31_2 < (l0_1.length : Int)) = false := decide_eq_false c18
              clear c18
              simp only [Option.some.injEq, Prod.mk.injEq] at H
              obtain ⟨rfl, rfl⟩ := H
              go_wp2
              go_ret2
              exact ⟨_, _, by first|rfl|(simp [errW_none, errW_some] <;> rfl)|(simp [*, errW_none, errW_some] <;> rfl), by (with_reducible repeat (first|apply Kd.R_alloc|apply Kd.R_drewN|apply Kd.R_drew));exact HO_6.out, by (with_reducible repeat (first|apply Kd.R_alloc|apply Kd.R_drewN|apply Kd.R_drew));exact HO_7.out, by repeat (first|(with_reducible first|exact HB.out|apply below_alloc|apply pw_below_drewN|apply below_drew1|refine below_set ?_ GE101.out)|exact HB.out)⟩

end Go.Proofs.Ytdgjjdpeaohebaa.PMarksDrop
