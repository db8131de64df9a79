-- Written by a program of this session around the given print (and over contracts of this session): not checked by anybody but Lean.
import Derived.Test.YtdgjjdpeaohebabPMarksHoldsx0
namespace Go.Proofs.Ytdgjjdpeaohebab.PMarksHolds
open Go.RowKit Go.Proofs.YtdgjjdpeaohebabW.PrintWords Go.Proofs.YtdgjjdpeaohebabW.PrintLast Go.Proofs.YtdgjjdpeaohebabW.PrintMore
attribute [local go_sem] max2_int min2_int max_two min_two max_three min_three max_four min_four   -- for this text's walks alone
set_option linter.unusedVariables false
set_option linter.unusedSimpArgs false

-- NOT PRINTED: function 27 (api_Site_27)

-- NOT PRINTED: function 23 (api_Site_23)

-- NOT PRINTED: function 16 (api_Site_16)

-- NOT PRINTED: function 7 (marks_Take)

/-! ### marks_Of: function 8 -/
mutual
def marks_Of.l0 : Nat → Int → List (S34) → List (S34) → Int → Int → List (S34) → List (S48) → Option ((List (S34)) × List Int)
 | 0, _, _, _, _, _, _, _ => none
 | k + 1, x1, x6, x13, x14, x15, x175000, x175001 => if x15 < x14 then (if 0 ≤ x15 then (if x15 < (x13.length : Int) then (if ((rd_T34 x13 x15).f0) = x1 then (if x6.length < 5864062014805 then (marks_Of.l0 k x1 (x6 ++ [(⟨(rd_T34 x13 x15).f0, (rd_T34 x13 x15).f1, (rd_T34 x13 x15).f2⟩ : S34)]) x13 x14 (wrap64 (x15 + 1)) x175000 x175001) else (none)) else (marks_Of.l0 k x1 x6 x13 x14 (wrap64 (x15 + 1)) x175000 x175001)) else (none)) else (none)) else (marks_Of.l1 k x1 x6 ([] : List Int) x175001 (x175001.length : Int) 0)
def marks_Of.l1 : Nat → Int → List (S34) → List Int → List (S48) → Int → Int → Option ((List (S34)) × List Int)
 | 0, _, _, _, _, _, _ => none
 | k + 1, x1, x6, x7, x29, x30, x31 => if x31 < x30 then (if 0 ≤ x31 then (if x31 < (x29.length : Int) then (if ((rd_T48 x29 x31).f0) = x1 then (if x7.length < 17592186044416 then (marks_Of.l1 k x1 x6 (x7 ++ [(rd_T48 x29 x31).f1]) x29 x30 (wrap64 (x31 + 1))) else (none)) else (marks_Of.l1 k x1 x6 x7 x29 x30 (wrap64 (x31 + 1)))) else (none)) else (none)) else (some (x6, x7))
end
def marks_Of.f (k : Nat) (l0_0 : List (S34)) (l0_1 : List (S48)) (a1 : Int) : Option ((List (S34)) × List Int) := marks_Of.l0 k a1 ([] : List (S34)) l0_0 (l0_0.length : Int) 0 l0_0 l0_1
theorem marks_Of.mono_l : ∀ k, (∀ y0 y1 y2 y3 y4 y5 y6, LeO (marks_Of.l0 k y0 y1 y2 y3 y4 y5 y6) (marks_Of.l0 (k + 1) y0 y1 y2 y3 y4 y5 y6)) ∧ (∀ y0 y1 y2 y3 y4 y5, LeO (marks_Of.l1 k y0 y1 y2 y3 y4 y5) (marks_Of.l1 (k + 1) y0 y1 y2 y3 y4 y5))
 | 0 => ⟨fun _ _ _ _ _ _ _ r h => by simp [marks_Of.l0] at h, fun _ _ _ _ _ _ r h => by simp [marks_Of.l1] at h⟩
 | k + 1 => by
  obtain ⟨ih0, ih1⟩ := marks_Of.mono_l k
  refine ⟨?_, ?_⟩
  ·intro y0 y1 y2 y3 y4 y5 y6
   unfold marks_Of.l0
   repeat' first
   | (with_reducible exact ih0 _ _ _ _ _ _ _)
   | (with_reducible exact ih1 _ _ _ _ _ _)
   | (with_reducible exact LeO.refl _)
   | (with_reducible exact LeO.none _)
   | (with_reducible refine LeO.ite ?_ ?_)
   | (with_reducible refine LeO.bind ?_ (fun _ => ?_))
   | exact ih0 _ _ _ _ _ _ _
   | exact ih1 _ _ _ _ _ _
   | exact LeO.none _
   | refine LeO.ite ?_ ?_
   | refine LeO.bind ?_ (fun _ => ?_)
  ·intro y0 y1 y2 y3 y4 y5
   unfold marks_Of.l1
   repeat' first
   | (with_reducible exact ih0 _ _ _ _ _ _ _)
   | (with_reducible exact ih1 _ _ _ _ _ _)
   | (with_reducible exact LeO.refl _)
   | (with_reducible exact LeO.none _)
   | (with_reducible refine LeO.ite ?_ ?_)
   | (with_reducible refine LeO.bind ?_ (fun _ => ?_))
   | exact ih0 _ _ _ _ _ _ _
   | exact ih1 _ _ _ _ _ _
   | exact LeO.none _
   | refine LeO.ite ?_ ?_
   | refine LeO.bind ?_ (fun _ => ?_)
theorem marks_Of.mono : ∀ a0 a1 a2 k, LeO (marks_Of.f k a0 a1 a2) (marks_Of.f (k + 1) a0 a1 a2) := by
 intro a0 a1 a2 k
 obtain ⟨ih0, ih1⟩ := marks_Of.mono_l k
 unfold marks_Of.f
 repeat' first
   | (with_reducible exact ih0 _ _ _ _ _ _ _)
   | (with_reducible exact ih1 _ _ _ _ _ _)
   | (with_reducible exact LeO.refl _)
   | (with_reducible exact LeO.none _)
   | (with_reducible refine LeO.ite ?_ ?_)
   | (with_reducible refine LeO.bind ?_ (fun _ => ?_))
   | exact ih0 _ _ _ _ _ _ _
   | exact ih1 _ _ _ _ _ _
   | exact LeO.none _
   | refine LeO.ite ?_ ?_
   | refine LeO.bind ?_ (fun _ => ?_)
set_option maxHeartbeats 8000000 in
set_option maxRecDepth 100000 in
theorem marks_Of.calls (k : Nat) (A0_0 : Option Addr) (c0_0 : Nat) (l0_0 : List (S34)) (A0_1 : Option Addr) (c0_1 : Nat) (l0_1 : List (S48)) (a1 : Int) (r1 : List (S34)) (r2 : List Int) (w : World) (hr0_0 : Kd.C k34 w A0_0 l0_0.length l0_0) (hc0_0 : l0_0.length ≤ c0_0) (hr0_1 : Kd.C k48 w A0_1 l0_1.length l0_1) (hc0_1 : l0_1.length ≤ c0_1) (h : marks_Of.f k l0_0 l0_1 a1 = some (r1, r2)) :
  Calls Try.prog 8 #[.agg #[.slice A0_0 l0_0.length c0_0, .slice A0_1 l0_1.length c0_1], .int .i64 a1] w fun e w' => ∃ v0_ v1_ : Value, e = .returned (.tuple #[v0_, v1_]) ∧ Kd.R k34 34 w' w.heap.size (fun _ => True) v0_ r1 ∧ Kd.R (Kd.int .i64) 3 w' w.heap.size (fun _ => True) v1_ r2 ∧ Below w.heap.size w w' := by
 have hu28 := Try.underlying28
 have hu34 := Try.underlying34
 have hu48 := Try.underlying48
 have HR0_0 := Aside0.mk hr0_0
 have HC0_0 := Aside0.mk hc0_0
 clear hr0_0 hc0_0
 have HR0_1 := Aside0.mk hr0_1
 have HC0_1 := Aside0.mk hc0_1
 clear hr0_1 hc0_1
 have HB := Aside0.mk (Below.refl w.heap.size w)
 have H : (marks_Of.l0 k a1 ([] : List (S34)) l0_0 (l0_0.length : Int) 0 l0_0 l0_1) = some (r1, r2) := h
 clear h
 have H' := Aside0.mk H
 clear H
 go_enter Try.func8, Try.ntmps8
 go_wp2_with (first|((with_reducible refine gate_dst (N:=2) rfl ?_);refine box_event ?hg (N:=2) ?hd (cs:=#[.slice A0_0 l0_0.length c0_0, .slice A0_1 l0_1.length c0_1]) (t:=28) ?hr ?_;(case hd => rfl);(case hg => rfl);(case hr => first|(go_simp;done)|(go_simp;rfl));intro gb174 hg w3 hbox hb;have n0_:=Aside0.mk (below_step (by repeat (first|(with_reducible first|exact HB.out|apply below_alloc|apply pw_below_drewN|apply below_drew1)|exact HB.out)) hb);have n1_:=Aside0.mk (hbox);have n2_:=Aside0.mk ((by rw [hg];exact (below_size (by repeat (first|(with_reducible first|exact HB.out|apply below_alloc|apply pw_below_drewN|apply below_drew1)|exact HB.out))) : w.heap.size ≤ gb174));have n3_:=Aside0.mk ((by rw [hg];exact (below_size (by repeat (first|(with_reducible first|exact HB.out|apply below_alloc|apply pw_below_drewN|apply below_drew1)|exact HB.out))) : w.heap.size ≤ gb174));clear HB;have HB:=n0_;have BK174:=n1_;have GW174:=n2_;have GE174:=n3_;clear n0_ n1_ n2_ n3_;clear hb hbox hg;have hcz4_0 : w3.cell? ⟨gb174, 0, none⟩ = some (.slice A0_0 l0_0.length c0_0):=(blk_cell BK174.out 0).trans rfl;have hcz4_1 : w3.cell? ⟨gb174, 1, none⟩ = some (.slice A0_1 l0_1.length c0_1):=(blk_cell BK174.out 1).trans rfl;have hfz4_0:=blk_frozen BK174.out 0;have hfz4_1:=blk_frozen BK174.out 1))
 go_loopg [6, 15] k (fun kq v6 v15 w' => ∃ (x6_1 : List (S34)) (x15_1 : Int), v15 = .int .i64 x15_1 ∧ Aside0 (marks_Of.l0 kq a1 x6_1 l0_0 (l0_0.length : Int) x15_1 l0_0 l0_1 = some (r1, r2)) ∧ Aside0 (kq ≤ k) ∧ Aside0 (Kd.R k34 34 w' w.heap.size (fun _ => True) v6 x6_1) ∧ Aside0 (w'.heap[gb174]? = some (.cells #[(.slice A0_0 l0_0.length c0_0), (.slice A0_1 l0_1.length c0_1)] 28 (0, 0))) ∧ Aside0 (Below w.heap.size w w'))
 case atStart => exact ⟨(([] : List (S34))), (0), (by first|rfl|(simp;done)|(simp [*];done)), H', ⟨Nat.le_refl _⟩, ⟨by first|exact Kd.R_nil _ _ _ _ _|exact Kd.N_nil _ _ _ _ _|exact Kd.V_nil _ _ _ _ _|exact Kd.Q_nil _ _ _ _ _|exact Kd.S_nil _ _ _ _ _⟩, ⟨by (with_reducible repeat (first|refine blk_drewN ?_ _|refine blk_drew ?_|refine blk_alloc ?_ _));exact BK174.out⟩, ⟨by repeat (first|(with_reducible first|exact HB.out|apply below_alloc|apply pw_below_drewN|apply below_drew1|refine below_set ?_ GE174.out)|exact HB.out)⟩⟩
 case round =>
  clear H'
  try clear p2
  try clear hcz4_0
  try clear hcz4_1
  try clear hfz4_0
  try clear hfz4_1
  obtain ⟨x6_1, x15_1, rfl, HA, HK1, HO_6, BK174, HB⟩ := hrel
  cases gk with
  | zero => exact absurd HA.out (by simp [marks_Of.l0])
  | succ k1 =>
   have H := HA.out
   clear HA
   simp only [marks_Of.l0] at H
   by_cases c5 : x15_1 < (l0_0.length : Int)
   ·rw [if_pos c5] at H
    have c5b0 : decide (x15_1 < (l0_0.length : Int)) = true := decide_eq_true c5
    clear c5
    by_cases c6 : 0 ≤ x15_1
    ·rw [if_pos c6] at H
     have c6b0 : decide (0 ≤ x15_1) = true := decide_eq_true c6
     clear c6
     by_cases c7 : x15_1 < (l0_0.length : Int)
     ·rw [if_pos c7] at H
      have c7b0 : decide (x15_1 < (l0_0.length : Int)) = true := decide_eq_true c7
      clear c7
      by_cases c8 : ((rd_T34 l0_0 x15_1).f0) = a1
      ·rw [if_pos c8] at H
       have c8b0 : (((rd_T34 l0_0 x15_1).f0) == a1) = true := beq_iff_eq.mpr c8
       have c8b1 : (((rd_T34 l0_0 x15_1).f0) != a1) = false := bne_eq_false_iff_eq.mpr c8
       clear c8
       by_cases c9 : x6_1.length < 5864062014805
       ·rw [if_pos c9] at H
        have LMc9 := Aside0.mk c9
        clear c9
        obtain ⟨y177, hy177⟩ : ∃ y_ : List (S34), y_ = (x6_1 ++ [(⟨(rd_T34 l0_0 x15_1).f0, (rd_T34 l0_0 x15_1).f1, (rd_T34 l0_0 x15_1).f2⟩ : S34)]) := ⟨_, rfl⟩
        replace H : (marks_Of.l0 k1 a1 y177 l0_0 (l0_0.length : Int) (wrap64 (x15_1 + 1)) l0_0 l0_1) = some (r1, r2):=by first|(rw [hy177];with_reducible exact H)|(have H2_:=(Option.bind_some _ _).symm.trans H;rw [hy177];with_reducible exact H2_)|(have H2_:=(Option.bind_some _ _).symm.trans H;with_reducible exact H2_)|with_reducible exact H|(rw [hy177];exact H)|exact H
        have Ny177 := Aside0.mk hy177
        clear hy177
        have H' := Aside0.mk H
        clear H
        have p175 : 0 ≤ (x15_1 : Int):=of_decide_eq_true (by first|(with_reducible assumption)|assumption)
        have q175 : x15_1 < (l0_0.length : Int):=of_decide_eq_true (by first|(with_reducible assumption)|assumption)
        obtain ⟨ad175, e175, hx175_0, hx175_1, hx175_2⟩ := at_T34 HR0_0.out x15_1 p175 q175
        cases e175
        replace hx175_0 := (HB.out.cell (World.block_lt_of_cell? w _ hx175_0)).trans hx175_0
        replace hx175_1 := (HB.out.cell (World.block_lt_of_cell? w _ hx175_1)).trans hx175_1
        replace hx175_2 := (HB.out.cell (World.block_lt_of_cell? w _ hx175_2)).trans hx175_2
        replace p175 := eq_true p175
        replace q175 := eq_true q175
        go_wp2_with (first|((with_reducible refine gate_dst (N:=9) rfl ?_);refine box_event ?hg (N:=9) ?hd (cs:=#[.int .i64 0, .int .i64 0, .int .i64 0]) (t:=34) ?hr ?_;(case hd => rfl);(case hg => rfl);(case hr => first|(go_simp;done)|(go_simp;rfl));intro gb176 hg w10 hbox hb;have n0_:=Aside0.mk (Kd.R_below (Kd.R_elderB (by (with_reducible repeat (first|apply Kd.R_alloc|apply Kd.R_drewN|apply Kd.R_drew));exact HO_6.out) gb176 (Nat.le_of_eq hg.symm)) hb);have n1_:=Aside0.mk (blk_below (g:=gb174) (o:=.cells #[.slice (some ad175) l0_0.length c0_0, .slice A0_1 l0_1.length c0_1] 28 (0, 0)) (by (with_reducible repeat (first|refine blk_drewN ?_ _|refine blk_drew ?_|refine blk_alloc ?_ _));exact BK174.out) hb);have n2_:=Aside0.mk (below_step (by repeat (first|(with_reducible first|exact HB.out|apply below_alloc|apply pw_below_drewN|apply below_drew1|refine below_set ?_ GE174.out)|exact HB.out)) hb);have n3_:=Aside0.mk (hbox);have n4_:=Aside0.mk ((by rw [hg];exact (below_size (by repeat (first|(with_reducible first|exact HB.out|apply below_alloc|apply pw_below_drewN|apply below_drew1|refine below_set ?_ GE174.out)|exact HB.out))) : w.heap.size ≤ gb176));have n5_:=Aside0.mk ((by rw [hg];exact (below_size (by repeat (first|(with_reducible first|exact HB.out|apply below_alloc|apply pw_below_drewN|apply below_drew1|refine below_set ?_ GE174.out)|exact HB.out))) : w.heap.size ≤ gb176));have n6_:=Aside0.mk ((by rw [hg];exact Nat.ne_of_lt (blk_lt (g:=gb174) (o:=.cells #[.slice (some ad175) l0_0.length c0_0, .slice A0_1 l0_1.length c0_1] 28 (0, 0)) (by (with_reducible repeat (first|refine blk_drewN ?_ _|refine blk_drew ?_|refine blk_alloc ?_ _));exact BK174.out)) : gb174 ≠ gb176));have n7_:=Aside0.mk ((by rw [hg];exact Nat.ne_of_gt (blk_lt (g:=gb174) (o:=.cells #[.slice (some ad175) l0_0.length c0_0, .slice A0_1 l0_1.length c0_1] 28 (0, 0)) (by (with_reducible repeat (first|refine blk_drewN ?_ _|refine blk_drew ?_|refine blk_alloc ?_ _));exact BK174.out)) : gb176 ≠ gb174));clear HO_6;clear BK174;clear HB;have HO_6:=n0_;have BK174:=n1_;have HB:=n2_;have BK176:=n3_;have GW176:=n4_;have GE176:=n5_;have NB174_176:=n6_;have NB176_174:=n7_;clear n0_ n1_ n2_ n3_ n4_ n5_ n6_ n7_;clear hb hbox hg;have hnb11:=NB176_174.out;have hnc11:=NB174_176.out;have hcz12_0 : w10.cell? ⟨gb176, 0, none⟩ = some (.int .i64 0):=(blk_cell BK176.out 0).trans rfl;have hcz12_1 : w10.cell? ⟨gb176, 1, none⟩ = some (.int .i64 0):=(blk_cell BK176.out 1).trans rfl;have hcz12_2 : w10.cell? ⟨gb176, 2, none⟩ = some (.int .i64 0):=(blk_cell BK176.out 2).trans rfl;have hfz12_0:=blk_frozen BK176.out 0;have hfz12_1:=blk_frozen BK176.out 1;have hfz12_2:=blk_frozen BK176.out 2)|((with_reducible refine gate_builtin (b:=.append) (xs:=#[.tmp 23, .tmp 25]) rfl ?_);at_builtin;refine Kd.R_append k34 (w0:=w) w.heap.size rfl (.tmp 23) (.tmp 25) 22 34 (.agg #[(.int .i64 0), (.int .i64 0), (.int .i64 0)]) 24 rfl Try.underlying22 info34 rfl (by decide) (by omega) u6 x6_1 (⟨(rd_T34 l0_0 x15_1).f0, (rd_T34 l0_0 x15_1).f1, (rd_T34 l0_0 x15_1).f2⟩ : S34) [.int .i64 ((rd_T34 l0_0 x15_1).f0), .int .i64 ((rd_T34 l0_0 x15_1).f1), .int .i64 ((rd_T34 l0_0 x15_1).f2)] (fun k_ => k_ ≠ gb176) (fun _ => False) rfl (by first|(go_simp;done)|(go_simp;rfl)) ?aP (fun _ hk => hk.elim) ?aF ?aO ?aB ?aS ?aL ?_;(case aP => exact k34_mkM _ _ _ (⟨(rd_T34 l0_0 x15_1).f0, (rd_T34 l0_0 x15_1).f1, (rd_T34 l0_0 x15_1).f2⟩ : S34));(case aB => exact (by repeat (first|(with_reducible first|exact HB.out|apply below_alloc|apply pw_below_drewN|apply below_drew1|refine below_set ?_ GE174.out|refine below_set ?_ GE176.out)|exact HB.out)));(case aF => exact (fun k_ hk => Kd.freshB (g:=gb176) (o:=.cells #[.int .i64 ((rd_T34 l0_0 x15_1).f0), .int .i64 ((rd_T34 l0_0 x15_1).f1), .int .i64 ((rd_T34 l0_0 x15_1).f2)] 34 (0, 0)) (by (with_reducible repeat (first|refine blk_drewN ?_ _|refine blk_drew ?_|refine blk_alloc ?_ _));refine blk_put (cs:=#[.int .i64 ((rd_T34 l0_0 x15_1).f0), .int .i64 ((rd_T34 l0_0 x15_1).f1), .int .i64 0]) ?_ 2 _ rfl;(with_reducible repeat (first|refine blk_drewN ?_ _|refine blk_drew ?_|refine blk_alloc ?_ _));refine blk_put (cs:=#[.int .i64 ((rd_T34 l0_0 x15_1).f0), .int .i64 0, .int .i64 0]) ?_ 1 _ rfl;(with_reducible repeat (first|refine blk_drewN ?_ _|refine blk_drew ?_|refine blk_alloc ?_ _));refine blk_put (cs:=#[.int .i64 0, .int .i64 0, .int .i64 0]) ?_ 0 _ rfl;(with_reducible repeat (first|refine blk_drewN ?_ _|refine blk_drew ?_|refine blk_alloc ?_ _));exact BK176.out) k_ hk));(case aO => exact (by (with_reducible repeat (first|apply Kd.R_alloc|apply Kd.R_drewN|apply Kd.R_drew));exact Kd.R_mono (Kd.R_far (p:=⟨gb176, 2, none⟩) (Kd.R_far (p:=⟨gb176, 1, none⟩) (Kd.R_far (p:=⟨gb176, 0, none⟩) (Kd.R_mono HO_6.out (fun k_ hk => (⟨hk, hk.2⟩ : _ ∧ k_ ≠ gb176))) (fun _ hk => hk.2) (.int .i64 ((rd_T34 l0_0 x15_1).f0))) (fun _ hk => hk.2) (.int .i64 ((rd_T34 l0_0 x15_1).f1))) (fun _ hk => hk.2) (.int .i64 ((rd_T34 l0_0 x15_1).f2))) (fun _ hk => hk.1.2)));(case aS => exact (below_size (by repeat (first|(with_reducible first|exact HB.out|apply below_alloc|apply pw_below_drewN|apply below_drew1|refine below_set ?_ GE174.out|refine below_set ?_ GE176.out)|exact HB.out))));(case aL => have:=LMc9.out;omega);intro v178 w13 ho hb hg hat;rw [← Ny177.out] at ho;have n0_:=Aside0.mk (blk_grown (g:=gb174) (o:=.cells #[.slice (some ad175) l0_0.length c0_0, .slice A0_1 l0_1.length c0_1] 28 (0, 0)) (by (with_reducible repeat (first|refine blk_drewN ?_ _|refine blk_drew ?_|refine blk_alloc ?_ _));refine blk_far ?_ NB174_176.out _;(with_reducible repeat (first|refine blk_drewN ?_ _|refine blk_drew ?_|refine blk_alloc ?_ _));refine blk_far ?_ NB174_176.out _;(with_reducible repeat (first|refine blk_drewN ?_ _|refine blk_drew ?_|refine blk_alloc ?_ _));refine blk_far ?_ NB174_176.out _;(with_reducible repeat (first|refine blk_drewN ?_ _|refine blk_drew ?_|refine blk_alloc ?_ _));exact BK174.out) hg (Kd.R_ne HO_6.out BK174.out (by decide)));have n1_:=Aside0.mk (blk_grown (g:=gb176) (o:=.cells #[.int .i64 ((rd_T34 l0_0 x15_1).f0), .int .i64 ((rd_T34 l0_0 x15_1).f1), .int .i64 ((rd_T34 l0_0 x15_1).f2)] 34 (0, 0)) (by (with_reducible repeat (first|refine blk_drewN ?_ _|refine blk_drew ?_|refine blk_alloc ?_ _));refine blk_put (cs:=#[.int .i64 ((rd_T34 l0_0 x15_1).f0), .int .i64 ((rd_T34 l0_0 x15_1).f1), .int .i64 0]) ?_ 2 _ rfl;(with_reducible repeat (first|refine blk_drewN ?_ _|refine blk_drew ?_|refine blk_alloc ?_ _));refine blk_put (cs:=#[.int .i64 ((rd_T34 l0_0 x15_1).f0), .int .i64 0, .int .i64 0]) ?_ 1 _ rfl;(with_reducible repeat (first|refine blk_drewN ?_ _|refine blk_drew ?_|refine blk_alloc ?_ _));refine blk_put (cs:=#[.int .i64 0, .int .i64 0, .int .i64 0]) ?_ 0 _ rfl;(with_reducible repeat (first|refine blk_drewN ?_ _|refine blk_drew ?_|refine blk_alloc ?_ _));exact BK176.out) hg (Kd.R_away HO_6.out (fun _ hk => hk.2)));have n2_:=Aside0.mk (hb);have n3_:=Aside0.mk (ho);clear BK174;clear BK176;clear HB;clear HO_6;have BK174:=n0_;have BK176:=n1_;have HB:=n2_;have HO179:=n3_;clear n0_ n1_ n2_ n3_;clear ho hb hg hat))
        go_roundg k1
        case measure => have := HK1.out; omega
        case rel => exact ⟨(y177), (wrap64 (x15_1 + 1)), (by first|rfl|(simp;done)|(simp [*];done)), H', ⟨by have:=HK1.out;omega⟩, ⟨by (with_reducible repeat (first|apply Kd.R_alloc|apply Kd.R_drewN|apply Kd.R_drew));exact Kd.R_mono HO179.out (fun _ hk => trivial)⟩, ⟨by (with_reducible repeat (first|refine blk_drewN ?_ _|refine blk_drew ?_|refine blk_alloc ?_ _));exact BK174.out⟩, ⟨by repeat (first|(with_reducible first|exact HB.out|apply below_alloc|apply pw_below_drewN|apply below_drew1|refine below_set ?_ GE174.out|refine below_set ?_ GE176.out)|exact HB.out)⟩⟩
       ·rw [if_neg c9] at H
        exact absurd H (by simp)
      ·rw [if_neg c8] at H
       have c8b0 : (((rd_T34 l0_0 x15_1).f0) == a1) = false := beq_eq_false_iff_ne.mpr c8
       have c8b1 : (((rd_T34 l0_0 x15_1).f0) != a1) = true := bne_iff_ne.mpr c8
       have H' := Aside0.mk H
       clear H
       have p175 : 0 ≤ (x15_1 : Int):=of_decide_eq_true (by first|(with_reducible assumption)|assumption)
       have q175 : x15_1 < (l0_0.length : Int):=of_decide_eq_true (by first|(with_reducible assumption)|assumption)
       obtain ⟨ad175, e175, hx175_0, hx175_1, hx175_2⟩ := at_T34 HR0_0.out x15_1 p175 q175
       cases e175
       replace hx175_0 := (HB.out.cell (World.block_lt_of_cell? w _ hx175_0)).trans hx175_0
       replace hx175_1 := (HB.out.cell (World.block_lt_of_cell? w _ hx175_1)).trans hx175_1
       replace hx175_2 := (HB.out.cell (World.block_lt_of_cell? w _ hx175_2)).trans hx175_2
       replace p175 := eq_true p175
       replace q175 := eq_true q175
       go_wp2_with (first|((with_reducible refine gate_dst (N:=9) rfl ?_);refine box_event ?hg (N:=9) ?hd (cs:=#[.int .i64 0, .int .i64 0, .int .i64 0]) (t:=34) ?hr ?_;(case hd => rfl);(case hg => rfl);(case hr => first|(go_simp;done)|(go_simp;rfl));intro gb176 hg w14 hbox hb;have n0_:=Aside0.mk (Kd.R_below (Kd.R_elderB (by (with_reducible repeat (first|apply Kd.R_alloc|apply Kd.R_drewN|apply Kd.R_drew));exact HO_6.out) gb176 (Nat.le_of_eq hg.symm)) hb);have n1_:=Aside0.mk (blk_below (g:=gb174) (o:=.cells #[.slice (some ad175) l0_0.length c0_0, .slice A0_1 l0_1.length c0_1] 28 (0, 0)) (by (with_reducible repeat (first|refine blk_drewN ?_ _|refine blk_drew ?_|refine blk_alloc ?_ _));exact BK174.out) hb);have n2_:=Aside0.mk (below_step (by repeat (first|(with_reducible first|exact HB.out|apply below_alloc|apply pw_below_drewN|apply below_drew1|refine below_set ?_ GE174.out)|exact HB.out)) hb);have n3_:=Aside0.mk (hbox);have n4_:=Aside0.mk ((by rw [hg];exact (below_size (by repeat (first|(with_reducible first|exact HB.out|apply below_alloc|apply pw_below_drewN|apply below_drew1|refine below_set ?_ GE174.out)|exact HB.out))) : w.heap.size ≤ gb176));have n5_:=Aside0.mk ((by rw [hg];exact (below_size (by repeat (first|(with_reducible first|exact HB.out|apply below_alloc|apply pw_below_drewN|apply below_drew1|refine below_set ?_ GE174.out)|exact HB.out))) : w.heap.size ≤ gb176));have n6_:=Aside0.mk ((by rw [hg];exact Nat.ne_of_lt (blk_lt (g:=gb174) (o:=.cells #[.slice (some ad175) l0_0.length c0_0, .slice A0_1 l0_1.length c0_1] 28 (0, 0)) (by (with_reducible repeat (first|refine blk_drewN ?_ _|refine blk_drew ?_|refine blk_alloc ?_ _));exact BK174.out)) : gb174 ≠ gb176));have n7_:=Aside0.mk ((by rw [hg];exact Nat.ne_of_gt (blk_lt (g:=gb174) (o:=.cells #[.slice (some ad175) l0_0.length c0_0, .slice A0_1 l0_1.length c0_1] 28 (0, 0)) (by (with_reducible repeat (first|refine blk_drewN ?_ _|refine blk_drew ?_|refine blk_alloc ?_ _));exact BK174.out)) : gb176 ≠ gb174));clear HO_6;clear BK174;clear HB;have HO_6:=n0_;have BK174:=n1_;have HB:=n2_;have BK176:=n3_;have GW176:=n4_;have GE176:=n5_;have NB174_176:=n6_;have NB176_174:=n7_;clear n0_ n1_ n2_ n3_ n4_ n5_ n6_ n7_;clear hb hbox hg;have hnb15:=NB176_174.out;have hnc15:=NB174_176.out;have hcz16_0 : w14.cell? ⟨gb176, 0, none⟩ = some (.int .i64 0):=(blk_cell BK176.out 0).trans rfl;have hcz16_1 : w14.cell? ⟨gb176, 1, none⟩ = some (.int .i64 0):=(blk_cell BK176.out 1).trans rfl;have hcz16_2 : w14.cell? ⟨gb176, 2, none⟩ = some (.int .i64 0):=(blk_cell BK176.out 2).trans rfl;have hfz16_0:=blk_frozen BK176.out 0;have hfz16_1:=blk_frozen BK176.out 1;have hfz16_2:=blk_frozen BK176.out 2))
       go_roundg k1
       case measure => have := HK1.out; omega
       case rel => exact ⟨(x6_1), (wrap64 (x15_1 + 1)), (by first|rfl|(simp;done)|(simp [*];done)), H', ⟨by have:=HK1.out;omega⟩, ⟨by (with_reducible repeat (first|apply Kd.R_alloc|apply Kd.R_drewN|apply Kd.R_drew));exact Kd.R_mono (Kd.R_far (p:=⟨gb176, 2, none⟩) (Kd.R_far (p:=⟨gb176, 1, none⟩) (Kd.R_far (p:=⟨gb176, 0, none⟩) (Kd.R_mono HO_6.out (fun k_ hk => (⟨hk, hk.2⟩ : _ ∧ k_ ≠ gb176))) (fun _ hk => hk.2) (.int .i64 ((rd_T34 l0_0 x15_1).f0))) (fun _ hk => hk.2) (.int .i64 ((rd_T34 l0_0 x15_1).f1))) (fun _ hk => hk.2) (.int .i64 ((rd_T34 l0_0 x15_1).f2))) (fun _ hk => trivial)⟩, ⟨by (with_reducible repeat (first|refine blk_drewN ?_ _|refine blk_drew ?_|refine blk_alloc ?_ _));refine blk_far ?_ NB174_176.out _;(with_reducible repeat (first|refine blk_drewN ?_ _|refine blk_drew ?_|refine blk_alloc ?_ _));refine blk_far ?_ NB174_176.out _;(with_reducible repeat (first|refine blk_drewN ?_ _|refine blk_drew ?_|refine blk_alloc ?_ _));refine blk_far ?_ NB174_176.out _;(with_reducible repeat (first|refine blk_drewN ?_ _|refine blk_drew ?_|refine blk_alloc ?_ _));exact BK174.out⟩, ⟨by repeat (first|(with_reducible first|exact HB.out|apply below_alloc|apply pw_below_drewN|apply below_drew1|refine below_set ?_ GE174.out|refine below_set ?_ GE176.out)|exact HB.out)⟩⟩
     ·rw [if_neg c7] at H
      exact absurd H (by simp)
    ·rw [if_neg c6] at H
     exact absurd H (by simp)
   ·rw [if_neg c5] at H
    have c5b0 : decide (x15_1 < (l0_0.length : Int)) = false := decide_eq_false c5
    clear c5
    have H' := Aside0.mk H
    clear H
    have hcz17_0 : wr.cell? ⟨gb174, 0, none⟩ = some (.slice A0_0 l0_0.length c0_0) := (blk_cell BK174.out 0).trans rfl
    have hcz17_1 : wr.cell? ⟨gb174, 1, none⟩ = some (.slice A0_1 l0_1.length c0_1) := (blk_cell BK174.out 1).trans rfl
    have hfz17_0 := blk_frozen BK174.out 0
    have hfz17_1 := blk_frozen BK174.out 1
    go_wp2
    go_loopg [7, 31] k1 (fun kq v7 v31 w' => ∃ (x7_2 : List Int) (x31_2 : Int), v31 = .int .i64 x31_2 ∧ Aside0 (marks_Of.l1 kq a1 x6_1 x7_2 l0_1 (l0_1.length : Int) x31_2 = some (r1, r2)) ∧ Aside0 (kq ≤ k1) ∧ Aside0 (Kd.R k34 34 w' w.heap.size (fun _ => True) u6 x6_1) ∧ Aside0 (Kd.R (Kd.int .i64) 3 w' w.heap.size (fun _ => True) v7 x7_2) ∧ Aside0 (w'.heap[gb174]? = some (.cells #[(.slice A0_0 l0_0.length c0_0), (.slice A0_1 l0_1.length c0_1)] 28 (0, 0))) ∧ Aside0 (Below w.heap.size w w'))
    case atStart => exact ⟨(([] : List Int)), (0), (by first|rfl|(simp;done)|(simp [*];done)), H', ⟨Nat.le_refl _⟩, ⟨by (with_reducible repeat (first|apply Kd.R_alloc|apply Kd.R_drewN|apply Kd.R_drew));exact HO_6.out⟩, ⟨by first|exact Kd.R_nil _ _ _ _ _|exact Kd.N_nil _ _ _ _ _|exact Kd.V_nil _ _ _ _ _|exact Kd.Q_nil _ _ _ _ _|exact Kd.S_nil _ _ _ _ _⟩, ⟨by (with_reducible repeat (first|refine blk_drewN ?_ _|refine blk_drew ?_|refine blk_alloc ?_ _));exact BK174.out⟩, ⟨by repeat (first|(with_reducible first|exact HB.out|apply below_alloc|apply pw_below_drewN|apply below_drew1|refine below_set ?_ GE174.out)|exact HB.out)⟩⟩
    case round =>
     clear H'
     try clear c1
     try clear p1
     try clear q1
     try clear hx1
     try clear p2
     try clear c5
     try clear c5b0
     try clear c6
     try clear c6b0
     try clear p6
     try clear c7
     try clear c7b0
     try clear c8
     try clear c8b0
     try clear c8b1
     try clear c9
     try clear c11
     try clear c15
     try clear p17
     try clear q17
     try clear hx17
     try clear hcz12_0
     try clear hcz12_1
     try clear hcz12_2
     try clear hcz16_0
     try clear hcz16_1
     try clear hcz16_2
     try clear hcz17_0
     try clear hcz17_1
     try clear hcz4_0
     try clear hcz4_1
     try clear hfz12_0
     try clear hfz12_1
     try clear hfz12_2
     try clear hfz16_0
     try clear hfz16_1
     try clear hfz16_2
     try clear hfz17_0
     try clear hfz17_1
     try clear hfz4_0
     try clear hfz4_1
     try clear hx175_0
     try clear hx175_1
     try clear hx175_2
     try clear p175
     try clear p2
     try clear q175
     obtain ⟨x7_2, x31_2, rfl, HA, HK2, HO_6, HO_7, BK174, HB⟩ := hrel
     cases gk with
     | zero => exact absurd HA.out (by simp [marks_Of.l1])
     | succ k2 =>
      have H := HA.out
      clear HA
      simp only [marks_Of.l1] at H
      by_cases c18 : x31_2 < (l0_1.length : Int)
      ·rw [if_pos c18] at H
       have c18b0 : decide (x31_2 < (l0_1.length : Int)) = true := decide_eq_true c18
       clear c18
       by_cases c19 : 0 ≤ x31_2
       ·rw [if_pos c19] at H
        have c19b0 : decide (0 ≤ x31_2) = true := decide_eq_true c19
        clear c19
        by_cases c20 : x31_2 < (l0_1.length : Int)
        ·rw [if_pos c20] at H
         have c20b0 : decide (x31_2 < (l0_1.length : Int)) = true := decide_eq_true c20
         clear c20
         by_cases c21 : ((rd_T48 l0_1 x31_2).f0) = a1
         ·rw [if_pos c21] at H
          have c21b0 : (((rd_T48 l0_1 x31_2).f0) == a1) = true := beq_iff_eq.mpr c21
          have c21b1 : (((rd_T48 l0_1 x31_2).f0) != a1) = false := bne_eq_false_iff_eq.mpr c21
          clear c21
          by_cases c22 : x7_2.length < 17592186044416
          ·rw [if_pos c22] at H
           have LMc22 := Aside0.mk c22
           clear c22
           obtain ⟨y182, hy182⟩ : ∃ y_ : List Int, y_ = (x7_2 ++ [(rd_T48 l0_1 x31_2).f1]) := ⟨_, rfl⟩
           replace H : (marks_Of.l1 k2 a1 x6_1 y182 l0_1 (l0_1.length : Int) (wrap64 (x31_2 + 1))) = some (r1, r2):=by first|(rw [hy182];with_reducible exact H)|(have H2_:=(Option.bind_some _ _).symm.trans H;rw [hy182];with_reducible exact H2_)|(have H2_:=(Option.bind_some _ _).symm.trans H;with_reducible exact H2_)|with_reducible exact H|(rw [hy182];exact H)|exact H
           have Ny182 := Aside0.mk hy182
           clear hy182
           have H' := Aside0.mk H
           clear H
           have p180 : 0 ≤ (x31_2 : Int):=of_decide_eq_true (by first|(with_reducible assumption)|assumption)
           have q180 : x31_2 < (l0_1.length : Int):=of_decide_eq_true (by first|(with_reducible assumption)|assumption)
           obtain ⟨ad180, e180, hx180_0, hx180_1⟩ := at_T48 HR0_1.out x31_2 p180 q180
           cases e180
           replace hx180_0 := (HB.out.cell (World.block_lt_of_cell? w _ hx180_0)).trans hx180_0
           replace hx180_1 := (HB.out.cell (World.block_lt_of_cell? w _ hx180_1)).trans hx180_1
           replace p180 := eq_true p180
           replace q180 := eq_true q180
           go_wp2_with (first|((with_reducible refine gate_dst (N:=11) rfl ?_);refine box_event ?hg (N:=11) ?hd (cs:=#[.int .i64 0, .int .i64 0]) (t:=48) ?hr ?_;(case hd => rfl);(case hg => rfl);(case hr => first|(go_simp;done)|(go_simp;rfl));intro gb181 hg w23 hbox hb;have n0_:=Aside0.mk (Kd.R_below (by (with_reducible repeat (first|apply Kd.R_alloc|apply Kd.R_drewN|apply Kd.R_drew));exact HO_6.out) hb);have n1_:=Aside0.mk (Kd.R_below (by (with_reducible repeat (first|apply Kd.R_alloc|apply Kd.R_drewN|apply Kd.R_drew));exact HO_7.out) hb);have n2_:=Aside0.mk (blk_below (g:=gb174) (o:=.cells #[.slice A0_0 l0_0.length c0_0, .slice (some ad180) l0_1.length c0_1] 28 (0, 0)) (by (with_reducible repeat (first|refine blk_drewN ?_ _|refine blk_drew ?_|refine blk_alloc ?_ _));exact BK174.out) hb);have n3_:=Aside0.mk (below_step (by repeat (first|(with_reducible first|exact HB.out|apply below_alloc|apply pw_below_drewN|apply below_drew1|refine below_set ?_ GE174.out)|exact HB.out)) hb);have n4_:=Aside0.mk (hbox);have n5_:=Aside0.mk ((by rw [hg];exact (below_size (by repeat (first|(with_reducible first|exact HB.out|apply below_alloc|apply pw_below_drewN|apply below_drew1|refine below_set ?_ GE174.out)|exact HB.out))) : w.heap.size ≤ gb181));have n6_:=Aside0.mk ((by rw [hg];exact (below_size (by repeat (first|(with_reducible first|exact HB.out|apply below_alloc|apply pw_below_drewN|apply below_drew1|refine below_set ?_ GE174.out)|exact HB.out))) : w.heap.size ≤ gb181));have n7_:=Aside0.mk ((by rw [hg];exact Nat.ne_of_lt (blk_lt (g:=gb174) (o:=.cells #[.slice A0_0 l0_0.length c0_0, .slice (some ad180) l0_1.length c0_1] 28 (0, 0)) (by (with_reducible repeat (first|refine blk_drewN ?_ _|refine blk_drew ?_|refine blk_alloc ?_ _));exact BK174.out)) : gb174 ≠ gb181));have n8_:=Aside0.mk ((by rw [hg];exact Nat.ne_of_gt (blk_lt (g:=gb174) (o:=.cells #[.slice A0_0 l0_0.length c0_0, .slice (some ad180) l0_1.length c0_1] 28 (0, 0)) (by (with_reducible repeat (first|refine blk_drewN ?_ _|refine blk_drew ?_|refine blk_alloc ?_ _));exact BK174.out)) : gb181 ≠ gb174));clear HO_6;clear HO_7;clear BK174;clear HB;have HO_6:=n0_;have HO_7:=n1_;have BK174:=n2_;have HB:=n3_;have BK181:=n4_;have GW181:=n5_;have GE181:=n6_;have NB174_181:=n7_;have NB181_174:=n8_;clear n0_ n1_ n2_ n3_ n4_ n5_ n6_ n7_ n8_;clear hb hbox hg;have hnb24:=NB181_174.out;have hnc24:=NB174_181.out;have hcz25_0 : w23.cell? ⟨gb181, 0, none⟩ = some (.int .i64 0):=(blk_cell BK181.out 0).trans rfl;have hcz25_1 : w23.cell? ⟨gb181, 1, none⟩ = some (.int .i64 0):=(blk_cell BK181.out 1).trans rfl;have hfz25_0:=blk_frozen BK181.out 0;have hfz25_1:=blk_frozen BK181.out 1)|((with_reducible refine gate_builtin (b:=.append) (xs:=#[.tmp 39, .tmp 42]) rfl ?_);at_builtin;refine Kd.R_append (Kd.int .i64) (w0:=w) w.heap.size rfl (.tmp 39) (.tmp 42) 39 3 (.int .i64 0) 8 rfl Try.underlying39 info3 rfl (by decide) (by omega) u7 x7_2 ((rd_T48 l0_1 x31_2).f1) [.int .i64 ((rd_T48 l0_1 x31_2).f1)] (fun _ => True) (fun _ => False) rfl (by first|(go_simp;done)|(go_simp;rfl)) ?aP (fun _ hk => hk.elim) ?aF ?aO ?aB ?aS ?aL ?_;(case aP => exact rfl);(case aB => exact (by repeat (first|(with_reducible first|exact HB.out|apply below_alloc|apply pw_below_drewN|apply below_drew1|refine below_set ?_ GE174.out|refine below_set ?_ GE181.out)|exact HB.out)));(case aF => exact (fun _ _ => trivial));(case aO => exact (by (with_reducible repeat (first|apply Kd.R_alloc|apply Kd.R_drewN|apply Kd.R_drew));exact Kd.R_mono (Kd.R_far (p:=⟨gb181, 1, none⟩) (Kd.R_far (p:=⟨gb181, 0, none⟩) (Kd.R_types HO_7.out BK181.out (by decide)) (fun _ hk => hk.2) (.int .i64 ((rd_T48 l0_1 x31_2).f0))) (fun _ hk => hk.2) (.int .i64 ((rd_T48 l0_1 x31_2).f1))) (fun _ hk => trivial)));(case aS => exact (below_size (by repeat (first|(with_reducible first|exact HB.out|apply below_alloc|apply pw_below_drewN|apply below_drew1|refine below_set ?_ GE174.out|refine below_set ?_ GE181.out)|exact HB.out))));(case aL => have:=LMc22.out;omega);intro v183 w26 ho hb hg hat;rw [← Ny182.out] at ho;have n0_:=Aside0.mk (Kd.R_over' (by (with_reducible repeat (first|apply Kd.R_alloc|apply Kd.R_drewN|apply Kd.R_drew));exact (Kd.R_mono (Kd.R_far (p:=⟨gb181, 1, none⟩) (Kd.R_far (p:=⟨gb181, 0, none⟩) (Kd.R_types HO_6.out BK181.out (by decide)) (fun _ hk => hk.2) (.int .i64 ((rd_T48 l0_1 x31_2).f0))) (fun _ hk => hk.2) (.int .i64 ((rd_T48 l0_1 x31_2).f1))) (fun _ h_ => h_.1))) (Kd.R_typed (by (with_reducible repeat (first|apply Kd.R_alloc|apply Kd.R_drewN|apply Kd.R_drew));exact (Kd.R_mono (Kd.R_far (p:=⟨gb181, 1, none⟩) (Kd.R_far (p:=⟨gb181, 0, none⟩) (Kd.R_types HO_7.out BK181.out (by decide)) (fun _ hk => hk.2) (.int .i64 ((rd_T48 l0_1 x31_2).f0))) (fun _ hk => hk.2) (.int .i64 ((rd_T48 l0_1 x31_2).f1))) (fun _ h_ => h_.1)))) (by decide) hg);have n1_:=Aside0.mk (blk_grown (g:=gb174) (o:=.cells #[.slice A0_0 l0_0.length c0_0, .slice (some ad180) l0_1.length c0_1] 28 (0, 0)) (by (with_reducible repeat (first|refine blk_drewN ?_ _|refine blk_drew ?_|refine blk_alloc ?_ _));refine blk_far ?_ NB174_181.out _;(with_reducible repeat (first|refine blk_drewN ?_ _|refine blk_drew ?_|refine blk_alloc ?_ _));refine blk_far ?_ NB174_181.out _;(with_reducible repeat (first|refine blk_drewN ?_ _|refine blk_drew ?_|refine blk_alloc ?_ _));exact BK174.out) hg (Kd.R_ne HO_7.out BK174.out (by decide)));have n2_:=Aside0.mk (blk_grown (g:=gb181) (o:=.cells #[.int .i64 ((rd_T48 l0_1 x31_2).f0), .int .i64 ((rd_T48 l0_1 x31_2).f1)] 48 (0, 0)) (by (with_reducible repeat (first|refine blk_drewN ?_ _|refine blk_drew ?_|refine blk_alloc ?_ _));refine blk_put (cs:=#[.int .i64 ((rd_T48 l0_1 x31_2).f0), .int .i64 0]) ?_ 1 _ rfl;(with_reducible repeat (first|refine blk_drewN ?_ _|refine blk_drew ?_|refine blk_alloc ?_ _));refine blk_put (cs:=#[.int .i64 0, .int .i64 0]) ?_ 0 _ rfl;(with_reducible repeat (first|refine blk_drewN ?_ _|refine blk_drew ?_|refine blk_alloc ?_ _));exact BK181.out) hg (Kd.R_ne HO_7.out BK181.out (by decide)));have n3_:=Aside0.mk (hb);have n4_:=Aside0.mk (ho);clear HO_6;clear BK174;clear BK181;clear HB;clear HO_7;have HO_6:=n0_;have BK174:=n1_;have BK181:=n2_;have HB:=n3_;have HO184:=n4_;clear n0_ n1_ n2_ n3_ n4_;clear ho hb hg hat))
           go_roundg k2
           case measure => have := HK1.out; have := HK2.out; omega
           case rel => exact ⟨(y182), (wrap64 (x31_2 + 1)), (by first|rfl|(simp;done)|(simp [*];done)), H', ⟨by have:=HK1.out;have:=HK2.out;omega⟩, ⟨by (with_reducible repeat (first|apply Kd.R_alloc|apply Kd.R_drewN|apply Kd.R_drew));exact HO_6.out⟩, ⟨by (with_reducible repeat (first|apply Kd.R_alloc|apply Kd.R_drewN|apply Kd.R_drew));exact HO184.out⟩, ⟨by (with_reducible repeat (first|refine blk_drewN ?_ _|refine blk_drew ?_|refine blk_alloc ?_ _));exact BK174.out⟩, ⟨by repeat (first|(with_reducible first|exact HB.out|apply below_alloc|apply pw_below_drewN|apply below_drew1|refine below_set ?_ GE174.out|refine below_set ?_ GE181.out)|exact HB.out)⟩⟩
          ·rw [if_neg c22] at H
           exact absurd H (by simp)
         ·rw [if_neg c21] at H
          have c21b0 : (((rd_T48 l0_1 x31_2).f0) == a1) = false := beq_eq_false_iff_ne.mpr c21
          have c21b1 : (((rd_T48 l0_1 x31_2).f0) != a1) = true := bne_iff_ne.mpr c21
          have H' := Aside0.mk H
          clear H
          have p180 : 0 ≤ (x31_2 : Int):=of_decide_eq_true (by first|(with_reducible assumption)|assumption)
          have q180 : x31_2 < (l0_1.length : Int):=of_decide_eq_true (by first|(with_reducible assumption)|assumption)
          obtain ⟨ad180, e180, hx180_0, hx180_1⟩ := at_T48 HR0_1.out x31_2 p180 q180
          cases e180
          replace hx180_0 := (HB.out.cell (World.block_lt_of_cell? w _ hx180_0)).trans hx180_0
          replace hx180_1 := (HB.out.cell (World.block_lt_of_cell? w _ hx180_1)).trans hx180_1
          replace p180 := eq_true p180
          replace q180 := eq_true q180
          go_wp2_with (first|((with_reducible refine gate_dst (N:=11) rfl ?_);refine box_event ?hg (N:=11) ?hd (cs:=#[.int .i64 0, .int .i64 0]) (t:=48) ?hr ?_;(case hd => rfl);(case hg => rfl);(case hr => first|(go_simp;done)|(go_simp;rfl));intro gb181 hg w27 hbox hb;have n0_:=Aside0.mk (Kd.R_below (by (with_reducible repeat (first|apply Kd.R_alloc|apply Kd.R_drewN|apply Kd.R_drew));exact HO_6.out) hb);have n1_:=Aside0.mk (Kd.R_below (by (with_reducible repeat (first|apply Kd.R_alloc|apply Kd.R_drewN|apply Kd.R_drew));exact HO_7.out) hb);have n2_:=Aside0.mk (blk_below (g:=gb174) (o:=.cells #[.slice A0_0 l0_0.length c0_0, .slice (some ad180) l0_1.length c0_1] 28 (0, 0)) (by (with_reducible repeat (first|refine blk_drewN ?_ _|refine blk_drew ?_|refine blk_alloc ?_ _));exact BK174.out) hb);have n3_:=Aside0.mk (below_step (by repeat (first|(with_reducible first|exact HB.out|apply below_alloc|apply pw_below_drewN|apply below_drew1|refine below_set ?_ GE174.out)|exact HB.out)) hb);have n4_:=Aside0.mk (hbox);have n5_:=Aside0.mk ((by rw [hg];exact (below_size (by repeat (first|(with_reducible first|exact HB.out|apply below_alloc|apply pw_below_drewN|apply below_drew1|refine below_set ?_ GE174.out)|exact HB.out))) : w.heap.size ≤ gb181));have n6_:=Aside0.mk ((by rw [hg];exact (below_size (by repeat (first|(with_reducible first|exact HB.out|apply below_alloc|apply pw_below_drewN|apply below_drew1|refine below_set ?_ GE174.out)|exact HB.out))) : w.heap.size ≤ gb181));have n7_:=Aside0.mk ((by rw [hg];exact Nat.ne_of_lt (blk_lt (g:=gb174) (o:=.cells #[.slice A0_0 l0_0.length c0_0, .slice (some ad180) l0_1.length c0_1] 28 (0, 0)) (by (with_reducible repeat (first|refine blk_drewN ?_ _|refine blk_drew ?_|refine blk_alloc ?_ _));exact BK174.out)) : gb174 ≠ gb181));have n8_:=Aside0.mk ((by rw [hg];exact Nat.ne_of_gt (blk_lt (g:=gb174) (o:=.cells #[.slice A0_0 l0_0.length c0_0, .slice (some ad180) l0_1.length c0_1] 28 (0, 0)) (by (with_reducible repeat (first|refine blk_drewN ?_ _|refine blk_drew ?_|refine blk_alloc ?_ _));exact BK174.out)) : gb181 ≠ gb174));clear HO_6;clear HO_7;clear BK174;clear HB;have HO_6:=n0_;have HO_7:=n1_;have BK174:=n2_;have HB:=n3_;have BK181:=n4_;have GW181:=n5_;have GE181:=n6_;have NB174_181:=n7_;have NB181_174:=n8_;clear n0_ n1_ n2_ n3_ n4_ n5_ n6_ n7_ n8_;clear hb hbox hg;have hnb28:=NB181_174.out;have hnc28:=NB174_181.out;have hcz29_0 : w27.cell? ⟨gb181, 0, none⟩ = some (.int .i64 0):=(blk_cell BK181.out 0).trans rfl;have hcz29_1 : w27.cell? ⟨gb181, 1, none⟩ = some (.int .i64 0):=(blk_cell BK181.out 1).trans rfl;have hfz29_0:=blk_frozen BK181.out 0;have hfz29_1:=blk_frozen BK181.out 1))
          go_roundg k2
          case measure => have := HK1.out; have := HK2.out; omega
          case rel => exact ⟨(x7_2), (wrap64 (x31_2 + 1)), (by first|rfl|(simp;done)|(simp [*];done)), H', ⟨by have:=HK1.out;have:=HK2.out;omega⟩, ⟨by (with_reducible repeat (first|apply Kd.R_alloc|apply Kd.R_drewN|apply Kd.R_drew));exact Kd.R_mono (Kd.R_far (p:=⟨gb181, 1, none⟩) (Kd.R_far (p:=⟨gb181, 0, none⟩) (Kd.R_types HO_6.out BK181.out (by decide)) (fun _ hk => hk.2) (.int .i64 ((rd_T48 l0_1 x31_2).f0))) (fun _ hk => hk.2) (.int .i64 ((rd_T48 l0_1 x31_2).f1))) (fun _ hk => trivial)⟩, ⟨by (with_reducible repeat (first|apply Kd.R_alloc|apply Kd.R_drewN|apply Kd.R_drew));exact Kd.R_mono (Kd.R_far (p:=⟨gb181, 1, none⟩) (Kd.R_far (p:=⟨gb181, 0, none⟩) (Kd.R_types HO_7.out BK181.out (by decide)) (fun _ hk => hk.2) (.int .i64 ((rd_T48 l0_1 x31_2).f0))) (fun _ hk => hk.2) (.int .i64 ((rd_T48 l0_1 x31_2).f1))) (fun _ hk => trivial)⟩, ⟨by (with_reducible repeat (first|refine blk_drewN ?_ _|refine blk_drew ?_|refine blk_alloc ?_ _));refine blk_far ?_ NB174_181.out _;(with_reducible repeat (first|refine blk_drewN ?_ _|refine blk_drew ?_|refine blk_alloc ?_ _));refine blk_far ?_ NB174_181.out _;(with_reducible repeat (first|refine blk_drewN ?_ _|refine blk_drew ?_|refine blk_alloc ?_ _));exact BK174.out⟩, ⟨by repeat (first|(with_reducible first|exact HB.out|apply below_alloc|apply pw_below_drewN|apply below_drew1|refine below_set ?_ GE174.out|refine below_set ?_ GE181.out)|exact HB.out)⟩⟩
        ·rw [if_neg c20] at H
         exact absurd H (by simp)
       ·rw [if_neg c19] at H
        exact absurd H (by simp)
      ·rw [if_neg c18] at H
       have c18b0 : decide (x31_2 < (l0_1.length : Int)) = false := decide_eq_false c18
       clear c18
       simp only [Option.some.injEq, Prod.mk.injEq] at H
       obtain ⟨rfl, rfl⟩ := H
       go_wp2
       go_ret2
       exact ⟨_, _, by first|rfl|(simp [errW_none, errW_some] <;> rfl)|(simp [*, errW_none, errW_some] <;> rfl), by (with_reducible repeat (first|apply Kd.R_alloc|apply Kd.R_drewN|apply Kd.R_drew));exact HO_6.out, by (with_reducible repeat (first|apply Kd.R_alloc|apply Kd.R_drewN|apply Kd.R_drew));exact HO_7.out, by repeat (first|(with_reducible first|exact HB.out|apply below_alloc|apply pw_below_drewN|apply below_drew1|refine below_set ?_ GE174.out)|exact HB.out)⟩

-- NOT PRINTED: function 3 (chancellaw04_MarksHolds)

end Go.Proofs.Ytdgjjdpeaohebab.PMarksHolds
