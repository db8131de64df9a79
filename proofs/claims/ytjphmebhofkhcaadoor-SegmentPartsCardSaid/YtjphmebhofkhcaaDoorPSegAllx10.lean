-- Written by a program of this session around the given print (and over contracts of this session): not checked by anybody but Lean.
import Derived.Test.YtjphmebhofkhcaaDoorPSegAllx0
import Derived.Test.YtjphmebhofkhcaaDoorPSegAllx2
import Derived.Test.YtjphmebhofkhcaaDoorPSegAllx6
namespace Go.Proofs.YtjphmebhofkhcaaDoor.PSegAll
open Go.RowKit Go.Proofs.YtjphmebhofkhcaaDoorW.PrintWords Go.Proofs.YtjphmebhofkhcaaDoorW.PrintLast Go.Proofs.YtjphmebhofkhcaaDoorW.PrintMore
attribute [local go_sem] max2_int min2_int max_two min_two max_three min_three max_four min_four   -- for this text's walks alone
set_option linter.unusedVariables false
set_option linter.unusedSimpArgs false

attribute [local go_sem high] eqA70
/-! ### chancelref04_site: function 77 -/
def chancelref04_site.l0 : Nat → List (S70) → List (S70) → Bool → Int → Int → Int → Option ((List (S70)))
 | 0, _, _, _, _, _, _ => none
 | k + 1, x0, x5, x6, x7, x241000, x241001 => if x7 < (x0.length : Int) then (if 0 ≤ x7 then (if (((rd_T70 x0 x7).f0) == x241000 && (((rd_T70 x0 x7).f1) == x241001)) = true then (some x0) else (if x6 = true then (if x5.length < 8796093022208 then (chancelref04_site.l0 k x0 (x5 ++ [(⟨(rd_T70 x0 x7).f0, (rd_T70 x0 x7).f1⟩ : S70)]) x6 (wrap64 (x7 + 1)) x241000 x241001) else (none)) else (if ((rd_T70 x0 x7).f1) > x241001 then (if x5.length < 8796093022208 then ((some (x5 ++ [(⟨x241000, x241001⟩ : S70)] : List (S70))).bind fun y250 => (if y250.length < 8796093022208 then (chancelref04_site.l0 k x0 (y250 ++ [(⟨(rd_T70 x0 x7).f0, (rd_T70 x0 x7).f1⟩ : S70)]) true (wrap64 (x7 + 1)) x241000 x241001) else (none))) else (none)) else (if ((rd_T70 x0 x7).f1) = x241001 then (if ((rd_T70 x0 x7).f0) > x241000 then (if x5.length < 8796093022208 then ((some (x5 ++ [(⟨x241000, x241001⟩ : S70)] : List (S70))).bind fun y259 => (if y259.length < 8796093022208 then (chancelref04_site.l0 k x0 (y259 ++ [(⟨(rd_T70 x0 x7).f0, (rd_T70 x0 x7).f1⟩ : S70)]) true (wrap64 (x7 + 1)) x241000 x241001) else (none))) else (none)) else (if x5.length < 8796093022208 then (chancelref04_site.l0 k x0 (x5 ++ [(⟨(rd_T70 x0 x7).f0, (rd_T70 x0 x7).f1⟩ : S70)]) x6 (wrap64 (x7 + 1)) x241000 x241001) else (none))) else (if x5.length < 8796093022208 then (chancelref04_site.l0 k x0 (x5 ++ [(⟨(rd_T70 x0 x7).f0, (rd_T70 x0 x7).f1⟩ : S70)]) x6 (wrap64 (x7 + 1)) x241000 x241001) else (none)))))) else (none)) else (if x6 = true then (some x5) else (if x5.length < 8796093022208 then (some (x5 ++ [(⟨x241000, x241001⟩ : S70)])) else (none)))
def chancelref04_site.f (k : Nat) (l0 : List (S70)) (a1_0 : Int) (a1_1 : Int) : Option ((List (S70))) := chancelref04_site.l0 k l0 ([] : List (S70)) false 0 a1_0 a1_1
theorem chancelref04_site.mono_l : ∀ k, (∀ y0 y1 y2 y3 y4 y5, LeO (chancelref04_site.l0 k y0 y1 y2 y3 y4 y5) (chancelref04_site.l0 (k + 1) y0 y1 y2 y3 y4 y5))
 | 0 => fun _ _ _ _ _ _ r h => by simp [chancelref04_site.l0] at h
 | k + 1 => by
  have ih0 := chancelref04_site.mono_l k
  ·intro y0 y1 y2 y3 y4 y5
   unfold chancelref04_site.l0
   repeat' first
   | (with_reducible exact ih0 _ _ _ _ _ _)
   | (with_reducible exact LeO.refl _)
   | (with_reducible exact LeO.none _)
   | (with_reducible refine LeO.ite ?_ ?_)
   | (with_reducible refine LeO.bind ?_ (fun _ => ?_))
   | exact ih0 _ _ _ _ _ _
   | exact LeO.none _
   | refine LeO.ite ?_ ?_
   | refine LeO.bind ?_ (fun _ => ?_)
theorem chancelref04_site.mono : ∀ a0 a1 a2 k, LeO (chancelref04_site.f k a0 a1 a2) (chancelref04_site.f (k + 1) a0 a1 a2) := by
 intro a0 a1 a2 k
 have ih0 := chancelref04_site.mono_l k
 unfold chancelref04_site.f
 repeat' first
   | (with_reducible exact ih0 _ _ _ _ _ _)
   | (with_reducible exact LeO.refl _)
   | (with_reducible exact LeO.none _)
   | (with_reducible refine LeO.ite ?_ ?_)
   | (with_reducible refine LeO.bind ?_ (fun _ => ?_))
   | exact ih0 _ _ _ _ _ _
   | exact LeO.none _
   | refine LeO.ite ?_ ?_
   | refine LeO.bind ?_ (fun _ => ?_)
set_option maxHeartbeats 8000000 in
set_option maxRecDepth 100000 in
theorem chancelref04_site.calls (k : Nat) (P0_ : Nat → Prop) (u9000_ : Value) (l0 : List (S70)) (a1_0 : Int) (a1_1 : Int) (r : List (S70)) (w0 w : World) (hB : Below w0.heap.size w0 w) (ho0 : Kd.R k70 70 w w0.heap.size P0_ u9000_ l0) (h : chancelref04_site.f k l0 a1_0 a1_1 = some r) :
  Calls Tryd.prog 77 #[u9000_, .agg #[.int .i64 a1_0, .int .i64 a1_1]] w fun e w' => ∃ v0_ : Value, e = .returned (v0_) ∧ Kd.R k70 70 w' w0.heap.size (fun k_ => (P0_ k_ ∨ w.heap.size ≤ k_)) v0_ r ∧ Below w0.heap.size w0 w' ∧ Kept w w' (fun k_ => P0_ k_) := by
 have hu70 := Tryd.underlying70
 have HO0 := Aside0.mk (show Kd.R k70 70 w w0.heap.size (fun k_ => (P0_ k_ ∨ w.heap.size ≤ k_)) u9000_ l0 from Kd.R_mono ho0 (fun k_ hk => (.inl hk)))
 have HK := Aside0.mk (Kept.refl w (fun k_ => P0_ k_))
 have HW0 := Aside0.mk hB.size
 have HB := Aside0.mk hB
 clear hB
 have H : (chancelref04_site.l0 k l0 ([] : List (S70)) false 0 a1_0 a1_1) = some r := h
 clear h
 have H' := Aside0.mk H
 clear H
 go_enter Tryd.func77, Tryd.ntmps77
 go_wp2_with (first|((with_reducible refine gate_dst (N:=3) rfl ?_);refine box_event ?hg (N:=3) ?hd (cs:=#[.int .i64 a1_0, .int .i64 a1_1]) (t:=70) ?hr ?_;(case hd => rfl);(case hg => rfl);(case hr => first|(go_simp;done)|(go_simp;rfl));intro gb240 hg w3 hbox hb;have n0_:=Aside0.mk (Kd.R_below (Kd.R_elderB (by (with_reducible repeat (first|apply Kd.R_alloc|apply Kd.R_drewN|apply Kd.R_drew));exact HO0.out) gb240 (Nat.le_of_eq hg.symm)) hb);have n1_:=Aside0.mk (Kept.below (S:=(fun k_ => P0_ k_)) (by repeat (first|(with_reducible first|exact HK.out|apply Kept.alloc|apply Kept.drewN|apply Kept.drew)|exact HK.out)) hb);have n2_:=Aside0.mk (below_step (by repeat (first|(with_reducible first|exact HB.out|apply below_alloc|apply pw_below_drewN|apply below_drew1)|exact HB.out)) hb);have n3_:=Aside0.mk (hbox);have n4_:=Aside0.mk ((by rw [hg];exact (by first|exact HK.out.1|exact (show Kept w _ (fun k_ => P0_ k_) from by repeat (first|(with_reducible first|exact HK.out|apply Kept.alloc|apply Kept.drewN|apply Kept.drew)|exact HK.out)).1) : w.heap.size ≤ gb240));have n5_:=Aside0.mk ((by rw [hg];exact (below_size (by repeat (first|(with_reducible first|exact HB.out|apply below_alloc|apply pw_below_drewN|apply below_drew1)|exact HB.out))) : w0.heap.size ≤ gb240));clear HO0;clear HK;clear HB;have HO0:=n0_;have HK:=n1_;have HB:=n2_;have BK240:=n3_;have GW240:=n4_;have GE240:=n5_;clear n0_ n1_ n2_ n3_ n4_ n5_;clear hb hbox hg))
 go_loopg [5, 6, 7] k (fun kq v5 v6 v7 w' => ∃ (x5_1 : List (S70)) (x6_1 : Bool) (x7_1 : Int), v6 = .bool x6_1 ∧ v7 = .int .i64 x7_1 ∧ Aside0 (chancelref04_site.l0 kq l0 x5_1 x6_1 x7_1 a1_0 a1_1 = some r) ∧ Aside0 (kq ≤ k) ∧ Aside0 (Kd.R k70 70 w' w0.heap.size (fun k_ => (P0_ k_ ∨ w.heap.size ≤ k_) ∧ some k_ ≠ (v5 : Value).ownBlock ∧ k_ ≠ gb240) u9000_ l0) ∧ Aside0 (Kd.R k70 70 w' w0.heap.size (fun k_ => (P0_ k_ ∨ w.heap.size ≤ k_) ∧ some k_ ≠ (u9000_ : Value).ownBlock ∧ k_ ≠ gb240) v5 x5_1) ∧ Aside0 (w'.heap[gb240]? = some (.cells #[.int .i64 a1_0, .int .i64 a1_1] 70 (0, 0))) ∧ Aside0 (Kept w w' (fun k_ => P0_ k_)) ∧ Aside0 (Below w0.heap.size w0 w'))
 case atStart => exact ⟨(([] : List (S70))), (false), (0), (by first|rfl|(simp;done)|(simp [*];done)), (by first|rfl|(simp;done)|(simp [*];done)), H', ⟨Nat.le_refl _⟩, ⟨by (with_reducible repeat (first|apply Kd.R_alloc|apply Kd.R_drewN|apply Kd.R_drew));exact Kd.R_mono HO0.out (fun _ hk => ⟨hk.1, ⟨(by simp [Value.ownBlock]), hk.2⟩⟩)⟩, ⟨by first|exact Kd.R_nil _ _ _ _ _|exact Kd.N_nil _ _ _ _ _|exact Kd.V_nil _ _ _ _ _|exact Kd.Q_nil _ _ _ _ _|exact Kd.S_nil _ _ _ _ _⟩, ⟨by (with_reducible repeat (first|refine blk_drewN ?_ _|refine blk_drew ?_|refine blk_alloc ?_ _));exact BK240.out⟩, ⟨by repeat (first|(with_reducible first|exact HK.out|apply Kept.alloc|apply Kept.drewN|apply Kept.drew|refine Kept.setCell ?_ (.inr GW240.out) _)|exact HK.out)⟩, ⟨by repeat (first|(with_reducible first|exact HB.out|apply below_alloc|apply pw_below_drewN|apply below_drew1|refine below_set ?_ GE240.out)|exact HB.out)⟩⟩
 case round =>
  clear H'
  try clear p2
  obtain ⟨x5_1, x6_1, x7_1, rfl, rfl, HA, HK1, HO_0, HO_5, BK240, HK, HB⟩ := hrel
  cases gk with
  | zero => exact absurd HA.out (by simp [chancelref04_site.l0])
  | succ k1 =>
   have H := HA.out
   clear HA
   simp only [chancelref04_site.l0] at H
   by_cases c4 : x7_1 < (l0.length : Int)
   ·rw [if_pos c4] at H
    have c4b0 : decide (x7_1 < (l0.length : Int)) = true := decide_eq_true c4
    clear c4
    by_cases c5 : 0 ≤ x7_1
    ·rw [if_pos c5] at H
     have c5b0 : decide (0 ≤ x7_1) = true := decide_eq_true c5
     clear c5
     by_cases c6 : (((rd_T70 l0 x7_1).f0) == a1_0 && (((rd_T70 l0 x7_1).f1) == a1_1)) = true
     ·rw [if_pos c6] at H
      have c6b0 : (((rd_T70 l0 x7_1).f0) == a1_0 && (((rd_T70 l0 x7_1).f1) == a1_1)) = true := c6
      (try (have c6b1 : decide (((rd_T70 l0 x7_1).f0) = a1_0 && (((rd_T70 l0 x7_1).f1) == a1_1)) = true := by simpa using c6))
      (try (have c6b2 : (((rd_T70 l0 x7_1).f0) == a1_0 && (((rd_T70 l0 x7_1).f1) == a1_1)) = true := by simpa using c6))
      clear c6
      obtain rfl := Option.some.inj H
      obtain ⟨Ao7, co7, eo7⟩ := Kd.R_slice HO_0.out
      subst eo7
      have p244 : 0 ≤ (x7_1 : Int):=of_decide_eq_true (by first|(with_reducible assumption)|assumption)
      have q244 : x7_1 < (l0.length : Int):=of_decide_eq_true (by first|(with_reducible assumption)|assumption)
      obtain ⟨ad244, e244, hx244_0, hx244_1⟩ := at_T70 (Kd.R_reads' HO_0.out).2.2 x7_1 p244 q244
      cases e244
      replace p244 := eq_true p244
      replace q244 := eq_true q244
      have hcz8_0 : wr.cell? ⟨gb240, 0, none⟩ = some (.int .i64 a1_0) := (blk_cell BK240.out 0).trans rfl
      have hcz8_1 : wr.cell? ⟨gb240, 1, none⟩ = some (.int .i64 a1_1) := (blk_cell BK240.out 1).trans rfl
      have hfz8_0 := blk_frozen BK240.out 0
      have hfz8_1 := blk_frozen BK240.out 1
      go_wp2
      repeat (go_quiet (fail); try go_wp2)
      go_ret
      exact ⟨_, by first|rfl|(simp [errW_none, errW_some] <;> rfl)|(simp [*, errW_none, errW_some] <;> rfl), by (with_reducible repeat (first|apply Kd.R_alloc|apply Kd.R_drewN|apply Kd.R_drew));exact Kd.R_mono HO_0.out (fun _ hk => hk.1), by repeat (first|(with_reducible first|exact HB.out|apply below_alloc|apply pw_below_drewN|apply below_drew1|refine below_set ?_ GE240.out)|exact HB.out), by repeat (first|(with_reducible first|exact HK.out|apply Kept.alloc|apply Kept.drewN|apply Kept.drew|refine Kept.setCell ?_ (.inr GW240.out) _)|exact HK.out)⟩
     ·rw [if_neg c6] at H
      have c6b0 : (((rd_T70 l0 x7_1).f0) == a1_0 && (((rd_T70 l0 x7_1).f1) == a1_1)) = false := by simpa using c6
      (try (have c6b1 : decide (((rd_T70 l0 x7_1).f0) = a1_0 && (((rd_T70 l0 x7_1).f1) == a1_1)) = false := by simpa using c6))
      (try (have c6b2 : (((rd_T70 l0 x7_1).f0) == a1_0 && (((rd_T70 l0 x7_1).f1) == a1_1)) = false := by simpa using c6))
      (try (have c6b3 : ¬ (((rd_T70 l0 x7_1).f0) = a1_0 && (((rd_T70 l0 x7_1).f1) == a1_1)) := by simpa using c6))
      clear c6
      by_cases c9 : x6_1 = true
      ·subst c9
       have H1 : (if x5_1.length < 8796093022208 then (chancelref04_site.l0 k1 l0 (x5_1 ++ [(⟨(rd_T70 l0 x7_1).f0, (rd_T70 l0 x7_1).f1⟩ : S70)]) true (wrap64 (x7_1 + 1)) a1_0 a1_1) else (none)) = some r := by rw [if_pos rfl] at H; exact H
       clear H
       have H := H1
       clear H1
       by_cases c10 : x5_1.length < 8796093022208
       ·rw [if_pos c10] at H
        have LMc10 := Aside0.mk c10
        clear c10
        obtain ⟨y246, hy246⟩ : ∃ y_ : List (S70), y_ = (x5_1 ++ [(⟨(rd_T70 l0 x7_1).f0, (rd_T70 l0 x7_1).f1⟩ : S70)]) := ⟨_, rfl⟩
        replace H : (chancelref04_site.l0 k1 l0 y246 true (wrap64 (x7_1 + 1)) a1_0 a1_1) = some r:=by first|(rw [hy246];with_reducible exact H)|(have H2_:=(Option.bind_some _ _).symm.trans H;rw [hy246];with_reducible exact H2_)|(have H2_:=(Option.bind_some _ _).symm.trans H;with_reducible exact H2_)|with_reducible exact H|(rw [hy246];exact H)|exact H
        have Ny246 := Aside0.mk hy246
        clear hy246
        have H' := Aside0.mk H
        clear H
        obtain ⟨Ao11, co11, eo11⟩ := Kd.R_slice HO_0.out
        subst eo11
        have p244 : 0 ≤ (x7_1 : Int):=of_decide_eq_true (by first|(with_reducible assumption)|assumption)
        have q244 : x7_1 < (l0.length : Int):=of_decide_eq_true (by first|(with_reducible assumption)|assumption)
        obtain ⟨ad244, e244, hx244_0, hx244_1⟩ := at_T70 (Kd.R_reads' HO_0.out).2.2 x7_1 p244 q244
        cases e244
        replace p244 := eq_true p244
        replace q244 := eq_true q244
        have hcz12_0 : wr.cell? ⟨gb240, 0, none⟩ = some (.int .i64 a1_0) := (blk_cell BK240.out 0).trans rfl
        have hcz12_1 : wr.cell? ⟨gb240, 1, none⟩ = some (.int .i64 a1_1) := (blk_cell BK240.out 1).trans rfl
        have hfz12_0 := blk_frozen BK240.out 0
        have hfz12_1 := blk_frozen BK240.out 1
        have p245 : 0 ≤ (x7_1 : Int):=of_decide_eq_true (by first|(with_reducible assumption)|assumption)
        have q245 : x7_1 < (l0.length : Int):=of_decide_eq_true (by first|(with_reducible assumption)|assumption)
        obtain ⟨ad245, e245, hx245_0, hx245_1⟩ := at_T70 (Kd.R_reads' HO_0.out).2.2 x7_1 p245 q245
        obtain rfl : ad244 = ad245 := (by injection e245)
        replace p245 := eq_true p245
        replace q245 := eq_true q245
        go_wp2
        repeat (go_quiet (first|((with_reducible refine gate_builtin (b:=.append) (xs:=#[.tmp 57, .tmp 62]) rfl ?_);at_builtin;refine Kd.R_append k70 (w0:=w0) w0.heap.size rfl (.tmp 57) (.tmp 62) 23 70 (.agg #[(.int .i64 0), (.int .i64 0)]) 16 rfl Tryd.underlying23 info70 rfl (by decide) (by omega) u5 x5_1 (⟨(rd_T70 l0 x7_1).f0, (rd_T70 l0 x7_1).f1⟩ : S70) [.int .i64 ((rd_T70 l0 x7_1).f0), .int .i64 ((rd_T70 l0 x7_1).f1)] (fun k_ => (P0_ k_ ∨ w.heap.size ≤ k_) ∧ some k_ ≠ (.slice (some ad244) l0.length co11 : Value).ownBlock ∧ k_ ≠ gb240) (fun _ => False) rfl rfl ?aP (fun _ hk => hk.elim) ?aF ?aO ?aB ?aS ?aL ?_;(case aP => exact k70_mkM _ _ _ (⟨(rd_T70 l0 x7_1).f0, (rd_T70 l0 x7_1).f1⟩ : S70));(case aB => exact (by repeat (first|(with_reducible first|exact HB.out|apply below_alloc|apply pw_below_drewN|apply below_drew1|refine below_set ?_ GE240.out)|exact HB.out)));(case aF => exact (fun k_ hk => ⟨(.inr (Nat.le_trans (by first|exact HK.out.1|exact (show Kept w _ (fun k_ => P0_ k_) from by repeat (first|(with_reducible first|exact HK.out|apply Kept.alloc|apply Kept.drewN|apply Kept.drew|refine Kept.setCell ?_ (.inr GW240.out) _)|exact HK.out)).1) hk)), Kd.fresh' (Kd.R_lt (by (with_reducible repeat (first|apply Kd.R_alloc|apply Kd.R_drewN|apply Kd.R_drew));exact HO_0.out)) k_ hk, Kd.freshB (g:=gb240) (o:=.cells #[.int .i64 a1_0, .int .i64 a1_1] 70 (0, 0)) (by (with_reducible repeat (first|refine blk_drewN ?_ _|refine blk_drew ?_|refine blk_alloc ?_ _));exact BK240.out) k_ hk⟩));(case aO => exact (by (with_reducible repeat (first|apply Kd.R_alloc|apply Kd.R_drewN|apply Kd.R_drew));exact HO_5.out));(case aS => exact (below_size (by repeat (first|(with_reducible first|exact HB.out|apply below_alloc|apply pw_below_drewN|apply below_drew1|refine below_set ?_ GE240.out)|exact HB.out))));(case aL => have:=LMc10.out;omega);intro v247 w13 ho hb hg hat;rw [← Ny246.out] at ho;have n0_:=Aside0.mk (Kd.R_after (ok:=(fun k_ => (P0_ k_ ∨ w.heap.size ≤ k_) ∧ k_ ≠ gb240)) (by (with_reducible repeat (first|apply Kd.R_alloc|apply Kd.R_drewN|apply Kd.R_drew));exact Kd.R_mono HO_0.out (fun _ hk => ⟨⟨hk.1, hk.2.2⟩, hk.2.1⟩)) hg hat);have n1_:=Aside0.mk (blk_grown (g:=gb240) (o:=.cells #[.int .i64 a1_0, .int .i64 a1_1] 70 (0, 0)) (by (with_reducible repeat (first|refine blk_drewN ?_ _|refine blk_drew ?_|refine blk_alloc ?_ _));exact BK240.out) hg (Kd.R_away HO_5.out (fun _ hk => hk.2.2)));have n2_:=Aside0.mk (hb);have n3_:=Aside0.mk (Kept.of_grown (S:=(fun k_ => P0_ k_)) hg (by repeat (first|(with_reducible first|exact HK.out|apply Kept.alloc|apply Kept.drewN|apply Kept.drew|refine Kept.setCell ?_ (.inr GW240.out) _)|exact HK.out)) (fun k_ e_ => (HO_5.out.1 k_ e_).1));have n4_:=Aside0.mk (ho);clear HO_0;clear BK240;clear HB;clear HK;clear HO_5;have HO_0:=n0_;have BK240:=n1_;have HB:=n2_;have HK:=n3_;have HO248:=n4_;clear n0_ n1_ n2_ n3_ n4_;clear ho hb hg hat));try go_wp2_with (first|((with_reducible refine gate_builtin (b:=.append) (xs:=#[.tmp 57, .tmp 62]) rfl ?_);at_builtin;refine Kd.R_append k70 (w0:=w0) w0.heap.size rfl (.tmp 57) (.tmp 62) 23 70 (.agg #[(.int .i64 0), (.int .i64 0)]) 16 rfl Tryd.underlying23 info70 rfl (by decide) (by omega) u5 x5_1 (⟨(rd_T70 l0 x7_1).f0, (rd_T70 l0 x7_1).f1⟩ : S70) [.int .i64 ((rd_T70 l0 x7_1).f0), .int .i64 ((rd_T70 l0 x7_1).f1)] (fun k_ => (P0_ k_ ∨ w.heap.size ≤ k_) ∧ some k_ ≠ (.slice (some ad244) l0.length co11 : Value).ownBlock ∧ k_ ≠ gb240) (fun _ => False) rfl rfl ?aP (fun _ hk => hk.elim) ?aF ?aO ?aB ?aS ?aL ?_;(case aP => exact k70_mkM _ _ _ (⟨(rd_T70 l0 x7_1).f0, (rd_T70 l0 x7_1).f1⟩ : S70));(case aB => exact (by repeat (first|(with_reducible first|exact HB.out|apply below_alloc|apply pw_below_drewN|apply below_drew1|refine below_set ?_ GE240.out)|exact HB.out)));(case aF => exact (fun k_ hk => ⟨(.inr (Nat.le_trans (by first|exact HK.out.1|exact (show Kept w _ (fun k_ => P0_ k_) from by repeat (first|(with_reducible first|exact HK.out|apply Kept.alloc|apply Kept.drewN|apply Kept.drew|refine Kept.setCell ?_ (.inr GW240.out) _)|exact HK.out)).1) hk)), Kd.fresh' (Kd.R_lt (by (with_reducible repeat (first|apply Kd.R_alloc|apply Kd.R_drewN|apply Kd.R_drew));exact HO_0.out)) k_ hk, Kd.freshB (g:=gb240) (o:=.cells #[.int .i64 a1_0, .int .i64 a1_1] 70 (0, 0)) (by (with_reducible repeat (first|refine blk_drewN ?_ _|refine blk_drew ?_|refine blk_alloc ?_ _));exact BK240.out) k_ hk⟩));(case aO => exact (by (with_reducible repeat (first|apply Kd.R_alloc|apply Kd.R_drewN|apply Kd.R_drew));exact HO_5.out));(case aS => exact (below_size (by repeat (first|(with_reducible first|exact HB.out|apply below_alloc|apply pw_below_drewN|apply below_drew1|refine below_set ?_ GE240.out)|exact HB.out))));(case aL => have:=LMc10.out;omega);intro v247 w13 ho hb hg hat;rw [← Ny246.out] at ho;have n0_:=Aside0.mk (Kd.R_after (ok:=(fun k_ => (P0_ k_ ∨ w.heap.size ≤ k_) ∧ k_ ≠ gb240)) (by (with_reducible repeat (first|apply Kd.R_alloc|apply Kd.R_drewN|apply Kd.R_drew));exact Kd.R_mono HO_0.out (fun _ hk => ⟨⟨hk.1, hk.2.2⟩, hk.2.1⟩)) hg hat);have n1_:=Aside0.mk (blk_grown (g:=gb240) (o:=.cells #[.int .i64 a1_0, .int .i64 a1_1] 70 (0, 0)) (by (with_reducible repeat (first|refine blk_drewN ?_ _|refine blk_drew ?_|refine blk_alloc ?_ _));exact BK240.out) hg (Kd.R_away HO_5.out (fun _ hk => hk.2.2)));have n2_:=Aside0.mk (hb);have n3_:=Aside0.mk (Kept.of_grown (S:=(fun k_ => P0_ k_)) hg (by repeat (first|(with_reducible first|exact HK.out|apply Kept.alloc|apply Kept.drewN|apply Kept.drew|refine Kept.setCell ?_ (.inr GW240.out) _)|exact HK.out)) (fun k_ e_ => (HO_5.out.1 k_ e_).1));have n4_:=Aside0.mk (ho);clear HO_0;clear BK240;clear HB;clear HK;clear HO_5;have HO_0:=n0_;have BK240:=n1_;have HB:=n2_;have HK:=n3_;have HO248:=n4_;clear n0_ n1_ n2_ n3_ n4_;clear ho hb hg hat)))
        go_roundg k1
        case measure => have := HK1.out; omega
        case rel => exact ⟨(y246), (true), (wrap64 (x7_1 + 1)), (by first|rfl|(simp;done)|(simp [*];done)), (by first|rfl|(simp;done)|(simp [*];done)), H', ⟨by have:=HK1.out;omega⟩, ⟨by (with_reducible repeat (first|apply Kd.R_alloc|apply Kd.R_drewN|apply Kd.R_drew));exact Kd.R_mono HO_0.out (fun _ hk => ⟨hk.1.1, ⟨hk.2, hk.1.2⟩⟩)⟩, ⟨by (with_reducible repeat (first|apply Kd.R_alloc|apply Kd.R_drewN|apply Kd.R_drew));exact HO248.out⟩, ⟨by (with_reducible repeat (first|refine blk_drewN ?_ _|refine blk_drew ?_|refine blk_alloc ?_ _));exact BK240.out⟩, ⟨by repeat (first|(with_reducible first|exact HK.out|apply Kept.alloc|apply Kept.drewN|apply Kept.drew|refine Kept.setCell ?_ (.inr GW240.out) _)|exact HK.out)⟩, ⟨by repeat (first|(with_reducible first|exact HB.out|apply below_alloc|apply pw_below_drewN|apply below_drew1|refine below_set ?_ GE240.out)|exact HB.out)⟩⟩
       ·rw [if_neg c10] at H
        exact absurd H (by simp)
      ·replace c9 := Bool.eq_false_iff.mpr c9
       subst c9
       have H1 : (if ((rd_T70 l0 x7_1).f1) > a1_1 then (if x5_1.length < 8796093022208 then ((some (x5_1 ++ [(⟨a1_0, a1_1⟩ : S70)] : List (S70))).bind fun y250 => (if y250.length < 8796093022208 then (chancelref04_site.l0 k1 l0 (y250 ++ [(⟨(rd_T70 l0 x7_1).f0, (rd_T70 l0 x7_1).f1⟩ : S70)]) true (wrap64 (x7_1 + 1)) a1_0 a1_1) else (none))) else (none)) else (if ((rd_T70 l0 x7_1).f1) = a1_1 then (if ((rd_T70 l0 x7_1).f0) > a1_0 then (if x5_1.length < 8796093022208 then ((some (x5_1 ++ [(⟨a1_0, a1_1⟩ : S70)] : List (S70))).bind fun y259 => (if y259.length < 8796093022208 then (chancelref04_site.l0 k1 l0 (y259 ++ [(⟨(rd_T70 l0 x7_1).f0, (rd_T70 l0 x7_1).f1⟩ : S70)]) true (wrap64 (x7_1 + 1)) a1_0 a1_1) else (none))) else (none)) else (if x5_1.length < 8796093022208 then (chancelref04_site.l0 k1 l0 (x5_1 ++ [(⟨(rd_T70 l0 x7_1).f0, (rd_T70 l0 x7_1).f1⟩ : S70)]) false (wrap64 (x7_1 + 1)) a1_0 a1_1) else (none))) else (if x5_1.length < 8796093022208 then (chancelref04_site.l0 k1 l0 (x5_1 ++ [(⟨(rd_T70 l0 x7_1).f0, (rd_T70 l0 x7_1).f1⟩ : S70)]) false (wrap64 (x7_1 + 1)) a1_0 a1_1) else (none)))) = some r := by rw [if_neg (show ¬ (false = true) by decide)] at H; exact H
       clear H
       have H := H1
       clear H1
       by_cases c14 : ((rd_T70 l0 x7_1).f1) > a1_1
       ·rw [if_pos c14] at H
        have c14b0 : decide (a1_1 < ((rd_T70 l0 x7_1).f1)) = true := decide_eq_true c14
        clear c14
        by_cases c15 : x5_1.length < 8796093022208
        ·rw [if_pos c15] at H
         have LMc15 := Aside0.mk c15
         clear c15
         obtain ⟨y250, hy250⟩ : ∃ y_ : List (S70), y_ = (x5_1 ++ [(⟨a1_0, a1_1⟩ : S70)]) := ⟨_, rfl⟩
         replace H : (if y250.length < 8796093022208 then (chancelref04_site.l0 k1 l0 (y250 ++ [(⟨(rd_T70 l0 x7_1).f0, (rd_T70 l0 x7_1).f1⟩ : S70)]) true (wrap64 (x7_1 + 1)) a1_0 a1_1) else (none)) = some r:=by first|(rw [hy250];with_reducible exact H)|(have H2_:=(Option.bind_some _ _).symm.trans H;rw [hy250];with_reducible exact H2_)|(have H2_:=(Option.bind_some _ _).symm.trans H;with_reducible exact H2_)|with_reducible exact H|(rw [hy250];exact H)|exact H
         have Ny250 := Aside0.mk hy250
         clear hy250
         by_cases c16 : y250.length < 8796093022208
         ·rw [if_pos c16] at H
          have LMc16 := Aside0.mk c16
          clear c16
          obtain ⟨y254, hy254⟩ : ∃ y_ : List (S70), y_ = (y250 ++ [(⟨(rd_T70 l0 x7_1).f0, (rd_T70 l0 x7_1).f1⟩ : S70)]) := ⟨_, rfl⟩
          replace H : (chancelref04_site.l0 k1 l0 y254 true (wrap64 (x7_1 + 1)) a1_0 a1_1) = some r:=by first|(rw [hy254];with_reducible exact H)|(have H2_:=(Option.bind_some _ _).symm.trans H;rw [hy254];with_reducible exact H2_)|(have H2_:=(Option.bind_some _ _).symm.trans H;with_reducible exact H2_)|with_reducible exact H|(rw [hy254];exact H)|exact H
          have Ny254 := Aside0.mk hy254
          clear hy254
          have H' := Aside0.mk H
          clear H
          obtain ⟨Ao17, co17, eo17⟩ := Kd.R_slice HO_0.out
          subst eo17
          have p244 : 0 ≤ (x7_1 : Int):=of_decide_eq_true (by first|(with_reducible assumption)|assumption)
          have q244 : x7_1 < (l0.length : Int):=of_decide_eq_true (by first|(with_reducible assumption)|assumption)
          obtain ⟨ad244, e244, hx244_0, hx244_1⟩ := at_T70 (Kd.R_reads' HO_0.out).2.2 x7_1 p244 q244
          cases e244
          replace p244 := eq_true p244
          replace q244 := eq_true q244
          have hcz18_0 : wr.cell? ⟨gb240, 0, none⟩ = some (.int .i64 a1_0) := (blk_cell BK240.out 0).trans rfl
          have hcz18_1 : wr.cell? ⟨gb240, 1, none⟩ = some (.int .i64 a1_1) := (blk_cell BK240.out 1).trans rfl
          have hfz18_0 := blk_frozen BK240.out 0
          have hfz18_1 := blk_frozen BK240.out 1
          have p249 : 0 ≤ (x7_1 : Int):=of_decide_eq_true (by first|(with_reducible assumption)|assumption)
          have q249 : x7_1 < (l0.length : Int):=of_decide_eq_true (by first|(with_reducible assumption)|assumption)
          obtain ⟨ad249, e249, hx249_0, hx249_1⟩ := at_T70 (Kd.R_reads' HO_0.out).2.2 x7_1 p249 q249
          obtain rfl : ad244 = ad249 := (by injection e249)
          replace p249 := eq_true p249
          replace q249 := eq_true q249
          go_wp2
          repeat (go_quiet (first|((with_reducible refine gate_builtin (b:=.append) (xs:=#[.tmp 57, .tmp 62]) rfl ?_);at_builtin;refine Kd.R_append k70 (w0:=w0) w0.heap.size rfl (.tmp 57) (.tmp 62) 23 70 (.agg #[(.int .i64 0), (.int .i64 0)]) 16 rfl Tryd.underlying23 info70 rfl (by decide) (by omega) v251 y250 (⟨(rd_T70 l0 x7_1).f0, (rd_T70 l0 x7_1).f1⟩ : S70) [.int .i64 ((rd_T70 l0 x7_1).f0), .int .i64 ((rd_T70 l0 x7_1).f1)] (fun k_ => (P0_ k_ ∨ w.heap.size ≤ k_) ∧ some k_ ≠ (.slice (some ad244) l0.length co17 : Value).ownBlock ∧ k_ ≠ gb240) (fun _ => False) rfl rfl ?aP (fun _ hk => hk.elim) ?aF ?aO ?aB ?aS ?aL ?_;(case aP => exact k70_mkM _ _ _ (⟨(rd_T70 l0 x7_1).f0, (rd_T70 l0 x7_1).f1⟩ : S70));(case aB => exact (by repeat (first|(with_reducible first|exact HB.out|apply below_alloc|apply pw_below_drewN|apply below_drew1|refine below_set ?_ GE240.out)|exact HB.out)));(case aF => exact (fun k_ hk => ⟨(.inr (Nat.le_trans (by first|exact HK.out.1|exact (show Kept w _ (fun k_ => P0_ k_) from by repeat (first|(with_reducible first|exact HK.out|apply Kept.alloc|apply Kept.drewN|apply Kept.drew|refine Kept.setCell ?_ (.inr GW240.out) _)|exact HK.out)).1) hk)), Kd.fresh' (Kd.R_lt (by (with_reducible repeat (first|apply Kd.R_alloc|apply Kd.R_drewN|apply Kd.R_drew));exact HO_0.out)) k_ hk, Kd.freshB (g:=gb240) (o:=.cells #[.int .i64 a1_0, .int .i64 a1_1] 70 (0, 0)) (by (with_reducible repeat (first|refine blk_drewN ?_ _|refine blk_drew ?_|refine blk_alloc ?_ _));exact BK240.out) k_ hk⟩));(case aO => exact (by (with_reducible repeat (first|apply Kd.R_alloc|apply Kd.R_drewN|apply Kd.R_drew));exact HO252.out));(case aS => exact (below_size (by repeat (first|(with_reducible first|exact HB.out|apply below_alloc|apply pw_below_drewN|apply below_drew1|refine below_set ?_ GE240.out)|exact HB.out))));(case aL => have:=LMc16.out;omega);intro v255 w20 ho hb hg hat;rw [← Ny254.out] at ho;have n0_:=Aside0.mk (Kd.R_after (ok:=(fun k_ => (P0_ k_ ∨ w.heap.size ≤ k_) ∧ k_ ≠ gb240)) (by (with_reducible repeat (first|apply Kd.R_alloc|apply Kd.R_drewN|apply Kd.R_drew));exact HO_0.out) hg hat);have n1_:=Aside0.mk (blk_grown (g:=gb240) (o:=.cells #[.int .i64 a1_0, .int .i64 a1_1] 70 (0, 0)) (by (with_reducible repeat (first|refine blk_drewN ?_ _|refine blk_drew ?_|refine blk_alloc ?_ _));exact BK240.out) hg (Kd.R_away HO252.out (fun _ hk => hk.2.2)));have n2_:=Aside0.mk (hb);have n3_:=Aside0.mk (Kept.of_grown (S:=(fun k_ => P0_ k_)) hg (by repeat (first|(with_reducible first|exact HK.out|apply Kept.alloc|apply Kept.drewN|apply Kept.drew|refine Kept.setCell ?_ (.inr GW240.out) _)|exact HK.out)) (fun k_ e_ => (HO252.out.1 k_ e_).1));have n4_:=Aside0.mk (ho);clear HO_0;clear BK240;clear HB;clear HK;clear HO252;have HO_0:=n0_;have BK240:=n1_;have HB:=n2_;have HK:=n3_;have HO256:=n4_;clear n0_ n1_ n2_ n3_ n4_;clear ho hb hg hat));try go_wp2_with (first|((with_reducible refine gate_builtin (b:=.append) (xs:=#[.tmp 53, .tmp 55]) rfl ?_);at_builtin;refine Kd.R_append k70 (w0:=w0) w0.heap.size rfl (.tmp 53) (.tmp 55) 23 70 (.agg #[(.int .i64 0), (.int .i64 0)]) 16 rfl Tryd.underlying23 info70 rfl (by decide) (by omega) u5 x5_1 (⟨a1_0, a1_1⟩ : S70) [.int .i64 a1_0, .int .i64 a1_1] (fun k_ => (P0_ k_ ∨ w.heap.size ≤ k_) ∧ some k_ ≠ (.slice (some ad244) l0.length co17 : Value).ownBlock ∧ k_ ≠ gb240) (fun _ => False) rfl rfl ?aP (fun _ hk => hk.elim) ?aF ?aO ?aB ?aS ?aL ?_;(case aP => exact k70_mkM _ _ _ (⟨a1_0, a1_1⟩ : S70));(case aB => exact (by repeat (first|(with_reducible first|exact HB.out|apply below_alloc|apply pw_below_drewN|apply below_drew1|refine below_set ?_ GE240.out)|exact HB.out)));(case aF => exact (fun k_ hk => ⟨(.inr (Nat.le_trans (by first|exact HK.out.1|exact (show Kept w _ (fun k_ => P0_ k_) from by repeat (first|(with_reducible first|exact HK.out|apply Kept.alloc|apply Kept.drewN|apply Kept.drew|refine Kept.setCell ?_ (.inr GW240.out) _)|exact HK.out)).1) hk)), Kd.fresh' (Kd.R_lt (by (with_reducible repeat (first|apply Kd.R_alloc|apply Kd.R_drewN|apply Kd.R_drew));exact HO_0.out)) k_ hk, Kd.freshB (g:=gb240) (o:=.cells #[.int .i64 a1_0, .int .i64 a1_1] 70 (0, 0)) (by (with_reducible repeat (first|refine blk_drewN ?_ _|refine blk_drew ?_|refine blk_alloc ?_ _));exact BK240.out) k_ hk⟩));(case aO => exact (by (with_reducible repeat (first|apply Kd.R_alloc|apply Kd.R_drewN|apply Kd.R_drew));exact HO_5.out));(case aS => exact (below_size (by repeat (first|(with_reducible first|exact HB.out|apply below_alloc|apply pw_below_drewN|apply below_drew1|refine below_set ?_ GE240.out)|exact HB.out))));(case aL => have:=LMc15.out;omega);intro v251 w19 ho hb hg hat;rw [← Ny250.out] at ho;have n0_:=Aside0.mk (Kd.R_after (ok:=(fun k_ => (P0_ k_ ∨ w.heap.size ≤ k_) ∧ k_ ≠ gb240)) (by (with_reducible repeat (first|apply Kd.R_alloc|apply Kd.R_drewN|apply Kd.R_drew));exact Kd.R_mono HO_0.out (fun _ hk => ⟨⟨hk.1, hk.2.2⟩, hk.2.1⟩)) hg hat);have n1_:=Aside0.mk (blk_grown (g:=gb240) (o:=.cells #[.int .i64 a1_0, .int .i64 a1_1] 70 (0, 0)) (by (with_reducible repeat (first|refine blk_drewN ?_ _|refine blk_drew ?_|refine blk_alloc ?_ _));exact BK240.out) hg (Kd.R_away HO_5.out (fun _ hk => hk.2.2)));have n2_:=Aside0.mk (hb);have n3_:=Aside0.mk (Kept.of_grown (S:=(fun k_ => P0_ k_)) hg (by repeat (first|(with_reducible first|exact HK.out|apply Kept.alloc|apply Kept.drewN|apply Kept.drew|refine Kept.setCell ?_ (.inr GW240.out) _)|exact HK.out)) (fun k_ e_ => (HO_5.out.1 k_ e_).1));have n4_:=Aside0.mk (ho);clear HO_0;clear BK240;clear HB;clear HK;clear HO_5;have HO_0:=n0_;have BK240:=n1_;have HB:=n2_;have HK:=n3_;have HO252:=n4_;clear n0_ n1_ n2_ n3_ n4_;clear ho hb hg hat;have p253 : 0 ≤ (x7_1 : Int):=of_decide_eq_true (by first|(with_reducible assumption)|assumption);have q253 : x7_1 < (l0.length : Int):=of_decide_eq_true (by first|(with_reducible assumption)|assumption);obtain ⟨ad253, e253, hx253_0, hx253_1⟩:=at_T70 (Kd.R_reads' HO_0.out).2.2 x7_1 p253 q253;obtain rfl : ad244 = ad253:=(by injection e253);replace p253:=eq_true p253;replace q253:=eq_true q253)|((with_reducible refine gate_builtin (b:=.append) (xs:=#[.tmp 57, .tmp 62]) rfl ?_);at_builtin;refine Kd.R_append k70 (w0:=w0) w0.heap.size rfl (.tmp 57) (.tmp 62) 23 70 (.agg #[(.int .i64 0), (.int .i64 0)]) 16 rfl Tryd.underlying23 info70 rfl (by decide) (by omega) v251 y250 (⟨(rd_T70 l0 x7_1).f0, (rd_T70 l0 x7_1).f1⟩ : S70) [.int .i64 ((rd_T70 l0 x7_1).f0), .int .i64 ((rd_T70 l0 x7_1).f1)] (fun k_ => (P0_ k_ ∨ w.heap.size ≤ k_) ∧ some k_ ≠ (.slice (some ad244) l0.length co17 : Value).ownBlock ∧ k_ ≠ gb240) (fun _ => False) rfl rfl ?aP (fun _ hk => hk.elim) ?aF ?aO ?aB ?aS ?aL ?_;(case aP => exact k70_mkM _ _ _ (⟨(rd_T70 l0 x7_1).f0, (rd_T70 l0 x7_1).f1⟩ : S70));(case aB => exact (by repeat (first|(with_reducible first|exact HB.out|apply below_alloc|apply pw_below_drewN|apply below_drew1|refine below_set ?_ GE240.out)|exact HB.out)));(case aF => exact (fun k_ hk => ⟨(.inr (Nat.le_trans (by first|exact HK.out.1|exact (show Kept w _ (fun k_ => P0_ k_) from by repeat (first|(with_reducible first|exact HK.out|apply Kept.alloc|apply Kept.drewN|apply Kept.drew|refine Kept.setCell ?_ (.inr GW240.out) _)|exact HK.out)).1) hk)), Kd.fresh' (Kd.R_lt (by (with_reducible repeat (first|apply Kd.R_alloc|apply Kd.R_drewN|apply Kd.R_drew));exact HO_0.out)) k_ hk, Kd.freshB (g:=gb240) (o:=.cells #[.int .i64 a1_0, .int .i64 a1_1] 70 (0, 0)) (by (with_reducible repeat (first|refine blk_drewN ?_ _|refine blk_drew ?_|refine blk_alloc ?_ _));exact BK240.out) k_ hk⟩));(case aO => exact (by (with_reducible repeat (first|apply Kd.R_alloc|apply Kd.R_drewN|apply Kd.R_drew));exact HO252.out));(case aS => exact (below_size (by repeat (first|(with_reducible first|exact HB.out|apply below_alloc|apply pw_below_drewN|apply below_drew1|refine below_set ?_ GE240.out)|exact HB.out))));(case aL => have:=LMc16.out;omega);intro v255 w20 ho hb hg hat;rw [← Ny254.out] at ho;have n0_:=Aside0.mk (Kd.R_after (ok:=(fun k_ => (P0_ k_ ∨ w.heap.size ≤ k_) ∧ k_ ≠ gb240)) (by (with_reducible repeat (first|apply Kd.R_alloc|apply Kd.R_drewN|apply Kd.R_drew));exact HO_0.out) hg hat);have n1_:=Aside0.mk (blk_grown (g:=gb240) (o:=.cells #[.int .i64 a1_0, .int .i64 a1_1] 70 (0, 0)) (by (with_reducible repeat (first|refine blk_drewN ?_ _|refine blk_drew ?_|refine blk_alloc ?_ _));exact BK240.out) hg (Kd.R_away HO252.out (fun _ hk => hk.2.2)));have n2_:=Aside0.mk (hb);have n3_:=Aside0.mk (Kept.of_grown (S:=(fun k_ => P0_ k_)) hg (by repeat (first|(with_reducible first|exact HK.out|apply Kept.alloc|apply Kept.drewN|apply Kept.drew|refine Kept.setCell ?_ (.inr GW240.out) _)|exact HK.out)) (fun k_ e_ => (HO252.out.1 k_ e_).1));have n4_:=Aside0.mk (ho);clear HO_0;clear BK240;clear HB;clear HK;clear HO252;have HO_0:=n0_;have BK240:=n1_;have HB:=n2_;have HK:=n3_;have HO256:=n4_;clear n0_ n1_ n2_ n3_ n4_;clear ho hb hg hat)))
          go_roundg k1
          case measure => have := HK1.out; omega
          case rel => exact ⟨(y254), (true), (wrap64 (x7_1 + 1)), (by first|rfl|(simp;done)|(simp [*];done)), (by first|rfl|(simp;done)|(simp [*];done)), H', ⟨by have:=HK1.out;omega⟩, ⟨by (with_reducible repeat (first|apply Kd.R_alloc|apply Kd.R_drewN|apply Kd.R_drew));exact Kd.R_mono HO_0.out (fun _ hk => ⟨hk.1.1, ⟨hk.2, hk.1.2⟩⟩)⟩, ⟨by (with_reducible repeat (first|apply Kd.R_alloc|apply Kd.R_drewN|apply Kd.R_drew));exact HO256.out⟩, ⟨by (with_reducible repeat (first|refine blk_drewN ?_ _|refine blk_drew ?_|refine blk_alloc ?_ _));exact BK240.out⟩, ⟨by repeat (first|(with_reducible first|exact HK.out|apply Kept.alloc|apply Kept.drewN|apply Kept.drew|refine Kept.setCell ?_ (.inr GW240.out) _)|exact HK.out)⟩, ⟨by repeat (first|(with_reducible first|exact HB.out|apply below_alloc|apply pw_below_drewN|apply below_drew1|refine below_set ?_ GE240.out)|exact HB.out)⟩⟩
         ·rw [if_neg c16] at H
          exact absurd H (by simp)
        ·rw [if_neg c15] at H
         exact absurd H (by simp)
       ·rw [if_neg c14] at H
        have c14b0 : decide (a1_1 < ((rd_T70 l0 x7_1).f1)) = false := decide_eq_false c14
        clear c14
        by_cases c21 : ((rd_T70 l0 x7_1).f1) = a1_1
        ·rw [if_pos c21] at H
         have c21b0 : (((rd_T70 l0 x7_1).f1) == a1_1) = true := beq_iff_eq.mpr c21
         (try (have c6z : (((rd_T70 l0 x7_1).f0) == a1_0) = false := by have z := c6b0; rw [c21b0, Bool.and_true] at z; exact z))
         have c21b1 : (((rd_T70 l0 x7_1).f1) != a1_1) = false := bne_eq_false_iff_eq.mpr c21
         clear c21
         by_cases c22 : ((rd_T70 l0 x7_1).f0) > a1_0
         ·rw [if_pos c22] at H
          have c22b0 : decide (a1_0 < ((rd_T70 l0 x7_1).f0)) = true := decide_eq_true c22
          clear c22
          by_cases c23 : x5_1.length < 8796093022208
          ·rw [if_pos c23] at H
           have LMc23 := Aside0.mk c23
           clear c23
           obtain ⟨y259, hy259⟩ : ∃ y_ : List (S70), y_ = (x5_1 ++ [(⟨a1_0, a1_1⟩ : S70)]) := ⟨_, rfl⟩
           replace H : (if y259.length < 8796093022208 then (chancelref04_site.l0 k1 l0 (y259 ++ [(⟨(rd_T70 l0 x7_1).f0, (rd_T70 l0 x7_1).f1⟩ : S70)]) true (wrap64 (x7_1 + 1)) a1_0 a1_1) else (none)) = some r:=by first|(rw [hy259];with_reducible exact H)|(have H2_:=(Option.bind_some _ _).symm.trans H;rw [hy259];with_reducible exact H2_)|(have H2_:=(Option.bind_some _ _).symm.trans H;with_reducible exact H2_)|with_reducible exact H|(rw [hy259];exact H)|exact H
           have Ny259 := Aside0.mk hy259
           clear hy259
           by_cases c24 : y259.length < 8796093022208
           ·rw [if_pos c24] at H
            have LMc24 := Aside0.mk c24
            clear c24
            obtain ⟨y263, hy263⟩ : ∃ y_ : List (S70), y_ = (y259 ++ [(⟨(rd_T70 l0 x7_1).f0, (rd_T70 l0 x7_1).f1⟩ : S70)]) := ⟨_, rfl⟩
            replace H : (chancelref04_site.l0 k1 l0 y263 true (wrap64 (x7_1 + 1)) a1_0 a1_1) = some r:=by first|(rw [hy263];with_reducible exact H)|(have H2_:=(Option.bind_some _ _).symm.trans H;rw [hy263];with_reducible exact H2_)|(have H2_:=(Option.bind_some _ _).symm.trans H;with_reducible exact H2_)|with_reducible exact H|(rw [hy263];exact H)|exact H
            have Ny263 := Aside0.mk hy263
            clear hy263
            have H' := Aside0.mk H
            clear H
            obtain ⟨Ao25, co25, eo25⟩ := Kd.R_slice HO_0.out
            subst eo25
            have p244 : 0 ≤ (x7_1 : Int):=of_decide_eq_true (by first|(with_reducible assumption)|assumption)
            have q244 : x7_1 < (l0.length : Int):=of_decide_eq_true (by first|(with_reducible assumption)|assumption)
            obtain ⟨ad244, e244, hx244_0, hx244_1⟩ := at_T70 (Kd.R_reads' HO_0.out).2.2 x7_1 p244 q244
            cases e244
            replace p244 := eq_true p244
            replace q244 := eq_true q244
            have hcz26_0 : wr.cell? ⟨gb240, 0, none⟩ = some (.int .i64 a1_0) := (blk_cell BK240.out 0).trans rfl
            have hcz26_1 : wr.cell? ⟨gb240, 1, none⟩ = some (.int .i64 a1_1) := (blk_cell BK240.out 1).trans rfl
            have hfz26_0 := blk_frozen BK240.out 0
            have hfz26_1 := blk_frozen BK240.out 1
            have p249 : 0 ≤ (x7_1 : Int):=of_decide_eq_true (by first|(with_reducible assumption)|assumption)
            have q249 : x7_1 < (l0.length : Int):=of_decide_eq_true (by first|(with_reducible assumption)|assumption)
            obtain ⟨ad249, e249, hx249_0, hx249_1⟩ := at_T70 (Kd.R_reads' HO_0.out).2.2 x7_1 p249 q249
            obtain rfl : ad244 = ad249 := (by injection e249)
            replace p249 := eq_true p249
            replace q249 := eq_true q249
            have p257 : 0 ≤ (x7_1 : Int):=of_decide_eq_true (by first|(with_reducible assumption)|assumption)
            have q257 : x7_1 < (l0.length : Int):=of_decide_eq_true (by first|(with_reducible assumption)|assumption)
            obtain ⟨ad257, e257, hx257_0, hx257_1⟩ := at_T70 (Kd.R_reads' HO_0.out).2.2 x7_1 p257 q257
            obtain rfl : ad244 = ad257 := (by injection e257)
            replace p257 := eq_true p257
            replace q257 := eq_true q257
            have p258 : 0 ≤ (x7_1 : Int):=of_decide_eq_true (by first|(with_reducible assumption)|assumption)
            have q258 : x7_1 < (l0.length : Int):=of_decide_eq_true (by first|(with_reducible assumption)|assumption)
            obtain ⟨ad258, e258, hx258_0, hx258_1⟩ := at_T70 (Kd.R_reads' HO_0.out).2.2 x7_1 p258 q258
            obtain rfl : ad244 = ad258 := (by injection e258)
            replace p258 := eq_true p258
            replace q258 := eq_true q258
            go_wp2
            repeat (go_quiet (first|((with_reducible refine gate_builtin (b:=.append) (xs:=#[.tmp 57, .tmp 62]) rfl ?_);at_builtin;refine Kd.R_append k70 (w0:=w0) w0.heap.size rfl (.tmp 57) (.tmp 62) 23 70 (.agg #[(.int .i64 0), (.int .i64 0)]) 16 rfl Tryd.underlying23 info70 rfl (by decide) (by omega) v260 y259 (⟨(rd_T70 l0 x7_1).f0, (rd_T70 l0 x7_1).f1⟩ : S70) [.int .i64 ((rd_T70 l0 x7_1).f0), .int .i64 ((rd_T70 l0 x7_1).f1)] (fun k_ => (P0_ k_ ∨ w.heap.size ≤ k_) ∧ some k_ ≠ (.slice (some ad244) l0.length co25 : Value).ownBlock ∧ k_ ≠ gb240) (fun _ => False) rfl rfl ?aP (fun _ hk => hk.elim) ?aF ?aO ?aB ?aS ?aL ?_;(case aP => exact k70_mkM _ _ _ (⟨(rd_T70 l0 x7_1).f0, (rd_T70 l0 x7_1).f1⟩ : S70));(case aB => exact (by repeat (first|(with_reducible first|exact HB.out|apply below_alloc|apply pw_below_drewN|apply below_drew1|refine below_set ?_ GE240.out)|exact HB.out)));(case aF => exact (fun k_ hk => ⟨(.inr (Nat.le_trans (by first|exact HK.out.1|exact (show Kept w _ (fun k_ => P0_ k_) from by repeat (first|(with_reducible first|exact HK.out|apply Kept.alloc|apply Kept.drewN|apply Kept.drew|refine Kept.setCell ?_ (.inr GW240.out) _)|exact HK.out)).1) hk)), Kd.fresh' (Kd.R_lt (by (with_reducible repeat (first|apply Kd.R_alloc|apply Kd.R_drewN|apply Kd.R_drew));exact HO_0.out)) k_ hk, Kd.freshB (g:=gb240) (o:=.cells #[.int .i64 a1_0, .int .i64 a1_1] 70 (0, 0)) (by (with_reducible repeat (first|refine blk_drewN ?_ _|refine blk_drew ?_|refine blk_alloc ?_ _));exact BK240.out) k_ hk⟩));(case aO => exact (by (with_reducible repeat (first|apply Kd.R_alloc|apply Kd.R_drewN|apply Kd.R_drew));exact HO261.out));(case aS => exact (below_size (by repeat (first|(with_reducible first|exact HB.out|apply below_alloc|apply pw_below_drewN|apply below_drew1|refine below_set ?_ GE240.out)|exact HB.out))));(case aL => have:=LMc24.out;omega);intro v264 w28 ho hb hg hat;rw [← Ny263.out] at ho;have n0_:=Aside0.mk (Kd.R_after (ok:=(fun k_ => (P0_ k_ ∨ w.heap.size ≤ k_) ∧ k_ ≠ gb240)) (by (with_reducible repeat (first|apply Kd.R_alloc|apply Kd.R_drewN|apply Kd.R_drew));exact HO_0.out) hg hat);have n1_:=Aside0.mk (blk_grown (g:=gb240) (o:=.cells #[.int .i64 a1_0, .int .i64 a1_1] 70 (0, 0)) (by (with_reducible repeat (first|refine blk_drewN ?_ _|refine blk_drew ?_|refine blk_alloc ?_ _));exact BK240.out) hg (Kd.R_away HO261.out (fun _ hk => hk.2.2)));have n2_:=Aside0.mk (hb);have n3_:=Aside0.mk (Kept.of_grown (S:=(fun k_ => P0_ k_)) hg (by repeat (first|(with_reducible first|exact HK.out|apply Kept.alloc|apply Kept.drewN|apply Kept.drew|refine Kept.setCell ?_ (.inr GW240.out) _)|exact HK.out)) (fun k_ e_ => (HO261.out.1 k_ e_).1));have n4_:=Aside0.mk (ho);clear HO_0;clear BK240;clear HB;clear HK;clear HO261;have HO_0:=n0_;have BK240:=n1_;have HB:=n2_;have HK:=n3_;have HO265:=n4_;clear n0_ n1_ n2_ n3_ n4_;clear ho hb hg hat));try go_wp2_with (first|((with_reducible refine gate_builtin (b:=.append) (xs:=#[.tmp 53, .tmp 55]) rfl ?_);at_builtin;refine Kd.R_append k70 (w0:=w0) w0.heap.size rfl (.tmp 53) (.tmp 55) 23 70 (.agg #[(.int .i64 0), (.int .i64 0)]) 16 rfl Tryd.underlying23 info70 rfl (by decide) (by omega) u5 x5_1 (⟨a1_0, a1_1⟩ : S70) [.int .i64 a1_0, .int .i64 a1_1] (fun k_ => (P0_ k_ ∨ w.heap.size ≤ k_) ∧ some k_ ≠ (.slice (some ad244) l0.length co25 : Value).ownBlock ∧ k_ ≠ gb240) (fun _ => False) rfl rfl ?aP (fun _ hk => hk.elim) ?aF ?aO ?aB ?aS ?aL ?_;(case aP => exact k70_mkM _ _ _ (⟨a1_0, a1_1⟩ : S70));(case aB => exact (by repeat (first|(with_reducible first|exact HB.out|apply below_alloc|apply pw_below_drewN|apply below_drew1|refine below_set ?_ GE240.out)|exact HB.out)));(case aF => exact (fun k_ hk => ⟨(.inr (Nat.le_trans (by first|exact HK.out.1|exact (show Kept w _ (fun k_ => P0_ k_) from by repeat (first|(with_reducible first|exact HK.out|apply Kept.alloc|apply Kept.drewN|apply Kept.drew|refine Kept.setCell ?_ (.inr GW240.out) _)|exact HK.out)).1) hk)), Kd.fresh' (Kd.R_lt (by (with_reducible repeat (first|apply Kd.R_alloc|apply Kd.R_drewN|apply Kd.R_drew));exact HO_0.out)) k_ hk, Kd.freshB (g:=gb240) (o:=.cells #[.int .i64 a1_0, .int .i64 a1_1] 70 (0, 0)) (by (with_reducible repeat (first|refine blk_drewN ?_ _|refine blk_drew ?_|refine blk_alloc ?_ _));exact BK240.out) k_ hk⟩));(case aO => exact (by (with_reducible repeat (first|apply Kd.R_alloc|apply Kd.R_drewN|apply Kd.R_drew));exact HO_5.out));(case aS => exact (below_size (by repeat (first|(with_reducible first|exact HB.out|apply below_alloc|apply pw_below_drewN|apply below_drew1|refine below_set ?_ GE240.out)|exact HB.out))));(case aL => have:=LMc23.out;omega);intro v260 w27 ho hb hg hat;rw [← Ny259.out] at ho;have n0_:=Aside0.mk (Kd.R_after (ok:=(fun k_ => (P0_ k_ ∨ w.heap.size ≤ k_) ∧ k_ ≠ gb240)) (by (with_reducible repeat (first|apply Kd.R_alloc|apply Kd.R_drewN|apply Kd.R_drew));exact Kd.R_mono HO_0.out (fun _ hk => ⟨⟨hk.1, hk.2.2⟩, hk.2.1⟩)) hg hat);have n1_:=Aside0.mk (blk_grown (g:=gb240) (o:=.cells #[.int .i64 a1_0, .int .i64 a1_1] 70 (0, 0)) (by (with_reducible repeat (first|refine blk_drewN ?_ _|refine blk_drew ?_|refine blk_alloc ?_ _));exact BK240.out) hg (Kd.R_away HO_5.out (fun _ hk => hk.2.2)));have n2_:=Aside0.mk (hb);have n3_:=Aside0.mk (Kept.of_grown (S:=(fun k_ => P0_ k_)) hg (by repeat (first|(with_reducible first|exact HK.out|apply Kept.alloc|apply Kept.drewN|apply Kept.drew|refine Kept.setCell ?_ (.inr GW240.out) _)|exact HK.out)) (fun k_ e_ => (HO_5.out.1 k_ e_).1));have n4_:=Aside0.mk (ho);clear HO_0;clear BK240;clear HB;clear HK;clear HO_5;have HO_0:=n0_;have BK240:=n1_;have HB:=n2_;have HK:=n3_;have HO261:=n4_;clear n0_ n1_ n2_ n3_ n4_;clear ho hb hg hat;have p262 : 0 ≤ (x7_1 : Int):=of_decide_eq_true (by first|(with_reducible assumption)|assumption);have q262 : x7_1 < (l0.length : Int):=of_decide_eq_true (by first|(with_reducible assumption)|assumption);obtain ⟨ad262, e262, hx262_0, hx262_1⟩:=at_T70 (Kd.R_reads' HO_0.out).2.2 x7_1 p262 q262;obtain rfl : ad244 = ad262:=(by injection e262);replace p262:=eq_true p262;replace q262:=eq_true q262)|((with_reducible refine gate_builtin (b:=.append) (xs:=#[.tmp 57, .tmp 62]) rfl ?_);at_builtin;refine Kd.R_append k70 (w0:=w0) w0.heap.size rfl (.tmp 57) (.tmp 62) 23 70 (.agg #[(.int .i64 0), (.int .i64 0)]) 16 rfl Tryd.underlying23 info70 rfl (by decide) (by omega) v260 y259 (⟨(rd_T70 l0 x7_1).f0, (rd_T70 l0 x7_1).f1⟩ : S70) [.int .i64 ((rd_T70 l0 x7_1).f0), .int .i64 ((rd_T70 l0 x7_1).f1)] (fun k_ => (P0_ k_ ∨ w.heap.size ≤ k_) ∧ some k_ ≠ (.slice (some ad244) l0.length co25 : Value).ownBlock ∧ k_ ≠ gb240) (fun _ => False) rfl rfl ?aP (fun _ hk => hk.elim) ?aF ?aO ?aB ?aS ?aL ?_;(case aP => exact k70_mkM _ _ _ (⟨(rd_T70 l0 x7_1).f0, (rd_T70 l0 x7_1).f1⟩ : S70));(case aB => exact (by repeat (first|(with_reducible first|exact HB.out|apply below_alloc|apply pw_below_drewN|apply below_drew1|refine below_set ?_ GE240.out)|exact HB.out)));(case aF => exact (fun k_ hk => ⟨(.inr (Nat.le_trans (by first|exact HK.out.1|exact (show Kept w _ (fun k_ => P0_ k_) from by repeat (first|(with_reducible first|exact HK.out|apply Kept.alloc|apply Kept.drewN|apply Kept.drew|refine Kept.setCell ?_ (.inr GW240.out) _)|exact HK.out)).1) hk)), Kd.fresh' (Kd.R_lt (by (with_reducible repeat (first|apply Kd.R_alloc|apply Kd.R_drewN|apply Kd.R_drew));exact HO_0.out)) k_ hk, Kd.freshB (g:=gb240) (o:=.cells #[.int .i64 a1_0, .int .i64 a1_1] 70 (0, 0)) (by (with_reducible repeat (first|refine blk_drewN ?_ _|refine blk_drew ?_|refine blk_alloc ?_ _));exact BK240.out) k_ hk⟩));(case aO => exact (by (with_reducible repeat (first|apply Kd.R_alloc|apply Kd.R_drewN|apply Kd.R_drew));exact HO261.out));(case aS => exact (below_size (by repeat (first|(with_reducible first|exact HB.out|apply below_alloc|apply pw_below_drewN|apply below_drew1|refine below_set ?_ GE240.out)|exact HB.out))));(case aL => have:=LMc24.out;omega);intro v264 w28 ho hb hg hat;rw [← Ny263.out] at ho;have n0_:=Aside0.mk (Kd.R_after (ok:=(fun k_ => (P0_ k_ ∨ w.heap.size ≤ k_) ∧ k_ ≠ gb240)) (by (with_reducible repeat (first|apply Kd.R_alloc|apply Kd.R_drewN|apply Kd.R_drew));exact HO_0.out) hg hat);have n1_:=Aside0.mk (blk_grown (g:=gb240) (o:=.cells #[.int .i64 a1_0, .int .i64 a1_1] 70 (0, 0)) (by (with_reducible repeat (first|refine blk_drewN ?_ _|refine blk_drew ?_|refine blk_alloc ?_ _));exact BK240.out) hg (Kd.R_away HO261.out (fun _ hk => hk.2.2)));have n2_:=Aside0.mk (hb);have n3_:=Aside0.mk (Kept.of_grown (S:=(fun k_ => P0_ k_)) hg (by repeat (first|(with_reducible first|exact HK.out|apply Kept.alloc|apply Kept.drewN|apply Kept.drew|refine Kept.setCell ?_ (.inr GW240.out) _)|exact HK.out)) (fun k_ e_ => (HO261.out.1 k_ e_).1));have n4_:=Aside0.mk (ho);clear HO_0;clear BK240;clear HB;clear HK;clear HO261;have HO_0:=n0_;have BK240:=n1_;have HB:=n2_;have HK:=n3_;have HO265:=n4_;clear n0_ n1_ n2_ n3_ n4_;clear ho hb hg hat)))
            go_roundg k1
            case measure => have := HK1.out; omega
            case rel => exact ⟨(y263), (true), (wrap64 (x7_1 + 1)), (by first|rfl|(simp;done)|(simp [*];done)), (by first|rfl|(simp;done)|(simp [*];done)), H', ⟨by have:=HK1.out;omega⟩, ⟨by (with_reducible repeat (first|apply Kd.R_alloc|apply Kd.R_drewN|apply Kd.R_drew));exact Kd.R_mono HO_0.out (fun _ hk => ⟨hk.1.1, ⟨hk.2, hk.1.2⟩⟩)⟩, ⟨by (with_reducible repeat (first|apply Kd.R_alloc|apply Kd.R_drewN|apply Kd.R_drew));exact HO265.out⟩, ⟨by (with_reducible repeat (first|refine blk_drewN ?_ _|refine blk_drew ?_|refine blk_alloc ?_ _));exact BK240.out⟩, ⟨by repeat (first|(with_reducible first|exact HK.out|apply Kept.alloc|apply Kept.drewN|apply Kept.drew|refine Kept.setCell ?_ (.inr GW240.out) _)|exact HK.out)⟩, ⟨by repeat (first|(with_reducible first|exact HB.out|apply below_alloc|apply pw_below_drewN|apply below_drew1|refine below_set ?_ GE240.out)|exact HB.out)⟩⟩
           ·rw [if_neg c24] at H
            exact absurd H (by simp)
          ·rw [if_neg c23] at H
           exact absurd H (by simp)
         ·rw [if_neg c22] at H
          have c22b0 : decide (a1_0 < ((rd_T70 l0 x7_1).f0)) = false := decide_eq_false c22
          clear c22
          by_cases c29 : x5_1.length < 8796093022208
          ·rw [if_pos c29] at H
           have LMc29 := Aside0.mk c29
           clear c29
           obtain ⟨y267, hy267⟩ : ∃ y_ : List (S70), y_ = (x5_1 ++ [(⟨(rd_T70 l0 x7_1).f0, (rd_T70 l0 x7_1).f1⟩ : S70)]) := ⟨_, rfl⟩
           replace H : (chancelref04_site.l0 k1 l0 y267 false (wrap64 (x7_1 + 1)) a1_0 a1_1) = some r:=by first|(rw [hy267];with_reducible exact H)|(have H2_:=(Option.bind_some _ _).symm.trans H;rw [hy267];with_reducible exact H2_)|(have H2_:=(Option.bind_some _ _).symm.trans H;with_reducible exact H2_)|with_reducible exact H|(rw [hy267];exact H)|exact H
           have Ny267 := Aside0.mk hy267
           clear hy267
           have H' := Aside0.mk H
           clear H
           obtain ⟨Ao30, co30, eo30⟩ := Kd.R_slice HO_0.out
           subst eo30
           have p244 : 0 ≤ (x7_1 : Int):=of_decide_eq_true (by first|(with_reducible assumption)|assumption)
           have q244 : x7_1 < (l0.length : Int):=of_decide_eq_true (by first|(with_reducible assumption)|assumption)
           obtain ⟨ad244, e244, hx244_0, hx244_1⟩ := at_T70 (Kd.R_reads' HO_0.out).2.2 x7_1 p244 q244
           cases e244
           replace p244 := eq_true p244
           replace q244 := eq_true q244
           have hcz31_0 : wr.cell? ⟨gb240, 0, none⟩ = some (.int .i64 a1_0) := (blk_cell BK240.out 0).trans rfl
           have hcz31_1 : wr.cell? ⟨gb240, 1, none⟩ = some (.int .i64 a1_1) := (blk_cell BK240.out 1).trans rfl
           have hfz31_0 := blk_frozen BK240.out 0
           have hfz31_1 := blk_frozen BK240.out 1
           have p249 : 0 ≤ (x7_1 : Int):=of_decide_eq_true (by first|(with_reducible assumption)|assumption)
           have q249 : x7_1 < (l0.length : Int):=of_decide_eq_true (by first|(with_reducible assumption)|assumption)
           obtain ⟨ad249, e249, hx249_0, hx249_1⟩ := at_T70 (Kd.R_reads' HO_0.out).2.2 x7_1 p249 q249
           obtain rfl : ad244 = ad249 := (by injection e249)
           replace p249 := eq_true p249
           replace q249 := eq_true q249
           have p257 : 0 ≤ (x7_1 : Int):=of_decide_eq_true (by first|(with_reducible assumption)|assumption)
           have q257 : x7_1 < (l0.length : Int):=of_decide_eq_true (by first|(with_reducible assumption)|assumption)
           obtain ⟨ad257, e257, hx257_0, hx257_1⟩ := at_T70 (Kd.R_reads' HO_0.out).2.2 x7_1 p257 q257
           obtain rfl : ad244 = ad257 := (by injection e257)
           replace p257 := eq_true p257
           replace q257 := eq_true q257
           have p258 : 0 ≤ (x7_1 : Int):=of_decide_eq_true (by first|(with_reducible assumption)|assumption)
           have q258 : x7_1 < (l0.length : Int):=of_decide_eq_true (by first|(with_reducible assumption)|assumption)
           obtain ⟨ad258, e258, hx258_0, hx258_1⟩ := at_T70 (Kd.R_reads' HO_0.out).2.2 x7_1 p258 q258
           obtain rfl : ad244 = ad258 := (by injection e258)
           replace p258 := eq_true p258
           replace q258 := eq_true q258
           have p266 : 0 ≤ (x7_1 : Int):=of_decide_eq_true (by first|(with_reducible assumption)|assumption)
           have q266 : x7_1 < (l0.length : Int):=of_decide_eq_true (by first|(with_reducible assumption)|assumption)
           obtain ⟨ad266, e266, hx266_0, hx266_1⟩ := at_T70 (Kd.R_reads' HO_0.out).2.2 x7_1 p266 q266
           obtain rfl : ad244 = ad266 := (by injection e266)
           replace p266 := eq_true p266
           replace q266 := eq_true q266
           go_wp2
           repeat (go_quiet (first|((with_reducible refine gate_builtin (b:=.append) (xs:=#[.tmp 57, .tmp 62]) rfl ?_);at_builtin;refine Kd.R_append k70 (w0:=w0) w0.heap.size rfl (.tmp 57) (.tmp 62) 23 70 (.agg #[(.int .i64 0), (.int .i64 0)]) 16 rfl Tryd.underlying23 info70 rfl (by decide) (by omega) u5 x5_1 (⟨(rd_T70 l0 x7_1).f0, (rd_T70 l0 x7_1).f1⟩ : S70) [.int .i64 ((rd_T70 l0 x7_1).f0), .int .i64 ((rd_T70 l0 x7_1).f1)] (fun k_ => (P0_ k_ ∨ w.heap.size ≤ k_) ∧ some k_ ≠ (.slice (some ad244) l0.length co30 : Value).ownBlock ∧ k_ ≠ gb240) (fun _ => False) rfl rfl ?aP (fun _ hk => hk.elim) ?aF ?aO ?aB ?aS ?aL ?_;(case aP => exact k70_mkM _ _ _ (⟨(rd_T70 l0 x7_1).f0, (rd_T70 l0 x7_1).f1⟩ : S70));(case aB => exact (by repeat (first|(with_reducible first|exact HB.out|apply below_alloc|apply pw_below_drewN|apply below_drew1|refine below_set ?_ GE240.out)|exact HB.out)));(case aF => exact (fun k_ hk => ⟨(.inr (Nat.le_trans (by first|exact HK.out.1|exact (show Kept w _ (fun k_ => P0_ k_) from by repeat (first|(with_reducible first|exact HK.out|apply Kept.alloc|apply Kept.drewN|apply Kept.drew|refine Kept.setCell ?_ (.inr GW240.out) _)|exact HK.out)).1) hk)), Kd.fresh' (Kd.R_lt (by (with_reducible repeat (first|apply Kd.R_alloc|apply Kd.R_drewN|apply Kd.R_drew));exact HO_0.out)) k_ hk, Kd.freshB (g:=gb240) (o:=.cells #[.int .i64 a1_0, .int .i64 a1_1] 70 (0, 0)) (by (with_reducible repeat (first|refine blk_drewN ?_ _|refine blk_drew ?_|refine blk_alloc ?_ _));exact BK240.out) k_ hk⟩));(case aO => exact (by (with_reducible repeat (first|apply Kd.R_alloc|apply Kd.R_drewN|apply Kd.R_drew));exact HO_5.out));(case aS => exact (below_size (by repeat (first|(with_reducible first|exact HB.out|apply below_alloc|apply pw_below_drewN|apply below_drew1|refine below_set ?_ GE240.out)|exact HB.out))));(case aL => have:=LMc29.out;omega);intro v268 w32 ho hb hg hat;rw [← Ny267.out] at ho;have n0_:=Aside0.mk (Kd.R_after (ok:=(fun k_ => (P0_ k_ ∨ w.heap.size ≤ k_) ∧ k_ ≠ gb240)) (by (with_reducible repeat (first|apply Kd.R_alloc|apply Kd.R_drewN|apply Kd.R_drew));exact Kd.R_mono HO_0.out (fun _ hk => ⟨⟨hk.1, hk.2.2⟩, hk.2.1⟩)) hg hat);have n1_:=Aside0.mk (blk_grown (g:=gb240) (o:=.cells #[.int .i64 a1_0, .int .i64 a1_1] 70 (0, 0)) (by (with_reducible repeat (first|refine blk_drewN ?_ _|refine blk_drew ?_|refine blk_alloc ?_ _));exact BK240.out) hg (Kd.R_away HO_5.out (fun _ hk => hk.2.2)));have n2_:=Aside0.mk (hb);have n3_:=Aside0.mk (Kept.of_grown (S:=(fun k_ => P0_ k_)) hg (by repeat (first|(with_reducible first|exact HK.out|apply Kept.alloc|apply Kept.drewN|apply Kept.drew|refine Kept.setCell ?_ (.inr GW240.out) _)|exact HK.out)) (fun k_ e_ => (HO_5.out.1 k_ e_).1));have n4_:=Aside0.mk (ho);clear HO_0;clear BK240;clear HB;clear HK;clear HO_5;have HO_0:=n0_;have BK240:=n1_;have HB:=n2_;have HK:=n3_;have HO269:=n4_;clear n0_ n1_ n2_ n3_ n4_;clear ho hb hg hat));try go_wp2_with (first|((with_reducible refine gate_builtin (b:=.append) (xs:=#[.tmp 57, .tmp 62]) rfl ?_);at_builtin;refine Kd.R_append k70 (w0:=w0) w0.heap.size rfl (.tmp 57) (.tmp 62) 23 70 (.agg #[(.int .i64 0), (.int .i64 0)]) 16 rfl Tryd.underlying23 info70 rfl (by decide) (by omega) u5 x5_1 (⟨(rd_T70 l0 x7_1).f0, (rd_T70 l0 x7_1).f1⟩ : S70) [.int .i64 ((rd_T70 l0 x7_1).f0), .int .i64 ((rd_T70 l0 x7_1).f1)] (fun k_ => (P0_ k_ ∨ w.heap.size ≤ k_) ∧ some k_ ≠ (.slice (some ad244) l0.length co30 : Value).ownBlock ∧ k_ ≠ gb240) (fun _ => False) rfl rfl ?aP (fun _ hk => hk.elim) ?aF ?aO ?aB ?aS ?aL ?_;(case aP => exact k70_mkM _ _ _ (⟨(rd_T70 l0 x7_1).f0, (rd_T70 l0 x7_1).f1⟩ : S70));(case aB => exact (by repeat (first|(with_reducible first|exact HB.out|apply below_alloc|apply pw_below_drewN|apply below_drew1|refine below_set ?_ GE240.out)|exact HB.out)));(case aF => exact (fun k_ hk => ⟨(.inr (Nat.le_trans (by first|exact HK.out.1|exact (show Kept w _ (fun k_ => P0_ k_) from by repeat (first|(with_reducible first|exact HK.out|apply Kept.alloc|apply Kept.drewN|apply Kept.drew|refine Kept.setCell ?_ (.inr GW240.out) _)|exact HK.out)).1) hk)), Kd.fresh' (Kd.R_lt (by (with_reducible repeat (first|apply Kd.R_alloc|apply Kd.R_drewN|apply Kd.R_drew));exact HO_0.out)) k_ hk, Kd.freshB (g:=gb240) (o:=.cells #[.int .i64 a1_0, .int .i64 a1_1] 70 (0, 0)) (by (with_reducible repeat (first|refine blk_drewN ?_ _|refine blk_drew ?_|refine blk_alloc ?_ _));exact BK240.out) k_ hk⟩));(case aO => exact (by (with_reducible repeat (first|apply Kd.R_alloc|apply Kd.R_drewN|apply Kd.R_drew));exact HO_5.out));(case aS => exact (below_size (by repeat (first|(with_reducible first|exact HB.out|apply below_alloc|apply pw_below_drewN|apply below_drew1|refine below_set ?_ GE240.out)|exact HB.out))));(case aL => have:=LMc29.out;omega);intro v268 w32 ho hb hg hat;rw [← Ny267.out] at ho;have n0_:=Aside0.mk (Kd.R_after (ok:=(fun k_ => (P0_ k_ ∨ w.heap.size ≤ k_) ∧ k_ ≠ gb240)) (by (with_reducible repeat (first|apply Kd.R_alloc|apply Kd.R_drewN|apply Kd.R_drew));exact Kd.R_mono HO_0.out (fun _ hk => ⟨⟨hk.1, hk.2.2⟩, hk.2.1⟩)) hg hat);have n1_:=Aside0.mk (blk_grown (g:=gb240) (o:=.cells #[.int .i64 a1_0, .int .i64 a1_1] 70 (0, 0)) (by (with_reducible repeat (first|refine blk_drewN ?_ _|refine blk_drew ?_|refine blk_alloc ?_ _));exact BK240.out) hg (Kd.R_away HO_5.out (fun _ hk => hk.2.2)));have n2_:=Aside0.mk (hb);have n3_:=Aside0.mk (Kept.of_grown (S:=(fun k_ => P0_ k_)) hg (by repeat (first|(with_reducible first|exact HK.out|apply Kept.alloc|apply Kept.drewN|apply Kept.drew|refine Kept.setCell ?_ (.inr GW240.out) _)|exact HK.out)) (fun k_ e_ => (HO_5.out.1 k_ e_).1));have n4_:=Aside0.mk (ho);clear HO_0;clear BK240;clear HB;clear HK;clear HO_5;have HO_0:=n0_;have BK240:=n1_;have HB:=n2_;have HK:=n3_;have HO269:=n4_;clear n0_ n1_ n2_ n3_ n4_;clear ho hb hg hat)))
           go_roundg k1
           case measure => have := HK1.out; omega
           case rel => exact ⟨(y267), (false), (wrap64 (x7_1 + 1)), (by first|rfl|(simp;done)|(simp [*];done)), (by first|rfl|(simp;done)|(simp [*];done)), H', ⟨by have:=HK1.out;omega⟩, ⟨by (with_reducible repeat (first|apply Kd.R_alloc|apply Kd.R_drewN|apply Kd.R_drew));exact Kd.R_mono HO_0.out (fun _ hk => ⟨hk.1.1, ⟨hk.2, hk.1.2⟩⟩)⟩, ⟨by (with_reducible repeat (first|apply Kd.R_alloc|apply Kd.R_drewN|apply Kd.R_drew));exact HO269.out⟩, ⟨by (with_reducible repeat (first|refine blk_drewN ?_ _|refine blk_drew ?_|refine blk_alloc ?_ _));exact BK240.out⟩, ⟨by repeat (first|(with_reducible first|exact HK.out|apply Kept.alloc|apply Kept.drewN|apply Kept.drew|refine Kept.setCell ?_ (.inr GW240.out) _)|exact HK.out)⟩, ⟨by repeat (first|(with_reducible first|exact HB.out|apply below_alloc|apply pw_below_drewN|apply below_drew1|refine below_set ?_ GE240.out)|exact HB.out)⟩⟩
          ·rw [if_neg c29] at H
           exact absurd H (by simp)
        ·rw [if_neg c21] at H
         have c21b0 : (((rd_T70 l0 x7_1).f1) == a1_1) = false := beq_eq_false_iff_ne.mpr c21
         have c21b1 : (((rd_T70 l0 x7_1).f1) != a1_1) = true := bne_iff_ne.mpr c21
         by_cases c33 : x5_1.length < 8796093022208
         ·rw [if_pos c33] at H
          have LMc33 := Aside0.mk c33
          clear c33
          obtain ⟨y271, hy271⟩ : ∃ y_ : List (S70), y_ = (x5_1 ++ [(⟨(rd_T70 l0 x7_1).f0, (rd_T70 l0 x7_1).f1⟩ : S70)]) := ⟨_, rfl⟩
          replace H : (chancelref04_site.l0 k1 l0 y271 false (wrap64 (x7_1 + 1)) a1_0 a1_1) = some r:=by first|(rw [hy271];with_reducible exact H)|(have H2_:=(Option.bind_some _ _).symm.trans H;rw [hy271];with_reducible exact H2_)|(have H2_:=(Option.bind_some _ _).symm.trans H;with_reducible exact H2_)|with_reducible exact H|(rw [hy271];exact H)|exact H
          have Ny271 := Aside0.mk hy271
          clear hy271
          have H' := Aside0.mk H
          clear H
          obtain ⟨Ao34, co34, eo34⟩ := Kd.R_slice HO_0.out
          subst eo34
          have p244 : 0 ≤ (x7_1 : Int):=of_decide_eq_true (by first|(with_reducible assumption)|assumption)
          have q244 : x7_1 < (l0.length : Int):=of_decide_eq_true (by first|(with_reducible assumption)|assumption)
          obtain ⟨ad244, e244, hx244_0, hx244_1⟩ := at_T70 (Kd.R_reads' HO_0.out).2.2 x7_1 p244 q244
          cases e244
          replace p244 := eq_true p244
          replace q244 := eq_true q244
          have hcz35_0 : wr.cell? ⟨gb240, 0, none⟩ = some (.int .i64 a1_0) := (blk_cell BK240.out 0).trans rfl
          have hcz35_1 : wr.cell? ⟨gb240, 1, none⟩ = some (.int .i64 a1_1) := (blk_cell BK240.out 1).trans rfl
          have hfz35_0 := blk_frozen BK240.out 0
          have hfz35_1 := blk_frozen BK240.out 1
          have p249 : 0 ≤ (x7_1 : Int):=of_decide_eq_true (by first|(with_reducible assumption)|assumption)
          have q249 : x7_1 < (l0.length : Int):=of_decide_eq_true (by first|(with_reducible assumption)|assumption)
          obtain ⟨ad249, e249, hx249_0, hx249_1⟩ := at_T70 (Kd.R_reads' HO_0.out).2.2 x7_1 p249 q249
          obtain rfl : ad244 = ad249 := (by injection e249)
          replace p249 := eq_true p249
          replace q249 := eq_true q249
          have p257 : 0 ≤ (x7_1 : Int):=of_decide_eq_true (by first|(with_reducible assumption)|assumption)
          have q257 : x7_1 < (l0.length : Int):=of_decide_eq_true (by first|(with_reducible assumption)|assumption)
          obtain ⟨ad257, e257, hx257_0, hx257_1⟩ := at_T70 (Kd.R_reads' HO_0.out).2.2 x7_1 p257 q257
          obtain rfl : ad244 = ad257 := (by injection e257)
          replace p257 := eq_true p257
          replace q257 := eq_true q257
          have p270 : 0 ≤ (x7_1 : Int):=of_decide_eq_true (by first|(with_reducible assumption)|assumption)
          have q270 : x7_1 < (l0.length : Int):=of_decide_eq_true (by first|(with_reducible assumption)|assumption)
          obtain ⟨ad270, e270, hx270_0, hx270_1⟩ := at_T70 (Kd.R_reads' HO_0.out).2.2 x7_1 p270 q270
          obtain rfl : ad244 = ad270 := (by injection e270)
          replace p270 := eq_true p270
          replace q270 := eq_true q270
          go_wp2
          repeat (go_quiet (first|((with_reducible refine gate_builtin (b:=.append) (xs:=#[.tmp 57, .tmp 62]) rfl ?_);at_builtin;refine Kd.R_append k70 (w0:=w0) w0.heap.size rfl (.tmp 57) (.tmp 62) 23 70 (.agg #[(.int .i64 0), (.int .i64 0)]) 16 rfl Tryd.underlying23 info70 rfl (by decide) (by omega) u5 x5_1 (⟨(rd_T70 l0 x7_1).f0, (rd_T70 l0 x7_1).f1⟩ : S70) [.int .i64 ((rd_T70 l0 x7_1).f0), .int .i64 ((rd_T70 l0 x7_1).f1)] (fun k_ => (P0_ k_ ∨ w.heap.size ≤ k_) ∧ some k_ ≠ (.slice (some ad244) l0.length co34 : Value).ownBlock ∧ k_ ≠ gb240) (fun _ => False) rfl rfl ?aP (fun _ hk => hk.elim) ?aF ?aO ?aB ?aS ?aL ?_;(case aP => exact k70_mkM _ _ _ (⟨(rd_T70 l0 x7_1).f0, (rd_T70 l0 x7_1).f1⟩ : S70));(case aB => exact (by repeat (first|(with_reducible first|exact HB.out|apply below_alloc|apply pw_below_drewN|apply below_drew1|refine below_set ?_ GE240.out)|exact HB.out)));(case aF => exact (fun k_ hk => ⟨(.inr (Nat.le_trans (by first|exact HK.out.1|exact (show Kept w _ (fun k_ => P0_ k_) from by repeat (first|(with_reducible first|exact HK.out|apply Kept.alloc|apply Kept.drewN|apply Kept.drew|refine Kept.setCell ?_ (.inr GW240.out) _)|exact HK.out)).1) hk)), Kd.fresh' (Kd.R_lt (by (with_reducible repeat (first|apply Kd.R_alloc|apply Kd.R_drewN|apply Kd.R_drew));exact HO_0.out)) k_ hk, Kd.freshB (g:=gb240) (o:=.cells #[.int .i64 a1_0, .int .i64 a1_1] 70 (0, 0)) (by (with_reducible repeat (first|refine blk_drewN ?_ _|refine blk_drew ?_|refine blk_alloc ?_ _));exact BK240.out) k_ hk⟩));(case aO => exact (by (with_reducible repeat (first|apply Kd.R_alloc|apply Kd.R_drewN|apply Kd.R_drew));exact HO_5.out));(case aS => exact (below_size (by repeat (first|(with_reducible first|exact HB.out|apply below_alloc|apply pw_below_drewN|apply below_drew1|refine below_set ?_ GE240.out)|exact HB.out))));(case aL => have:=LMc33.out;omega);intro v272 w36 ho hb hg hat;rw [← Ny271.out] at ho;have n0_:=Aside0.mk (Kd.R_after (ok:=(fun k_ => (P0_ k_ ∨ w.heap.size ≤ k_) ∧ k_ ≠ gb240)) (by (with_reducible repeat (first|apply Kd.R_alloc|apply Kd.R_drewN|apply Kd.R_drew));exact Kd.R_mono HO_0.out (fun _ hk => ⟨⟨hk.1, hk.2.2⟩, hk.2.1⟩)) hg hat);have n1_:=Aside0.mk (blk_grown (g:=gb240) (o:=.cells #[.int .i64 a1_0, .int .i64 a1_1] 70 (0, 0)) (by (with_reducible repeat (first|refine blk_drewN ?_ _|refine blk_drew ?_|refine blk_alloc ?_ _));exact BK240.out) hg (Kd.R_away HO_5.out (fun _ hk => hk.2.2)));have n2_:=Aside0.mk (hb);have n3_:=Aside0.mk (Kept.of_grown (S:=(fun k_ => P0_ k_)) hg (by repeat (first|(with_reducible first|exact HK.out|apply Kept.alloc|apply Kept.drewN|apply Kept.drew|refine Kept.setCell ?_ (.inr GW240.out) _)|exact HK.out)) (fun k_ e_ => (HO_5.out.1 k_ e_).1));have n4_:=Aside0.mk (ho);clear HO_0;clear BK240;clear HB;clear HK;clear HO_5;have HO_0:=n0_;have BK240:=n1_;have HB:=n2_;have HK:=n3_;have HO273:=n4_;clear n0_ n1_ n2_ n3_ n4_;clear ho hb hg hat));try go_wp2_with (first|((with_reducible refine gate_builtin (b:=.append) (xs:=#[.tmp 57, .tmp 62]) rfl ?_);at_builtin;refine Kd.R_append k70 (w0:=w0) w0.heap.size rfl (.tmp 57) (.tmp 62) 23 70 (.agg #[(.int .i64 0), (.int .i64 0)]) 16 rfl Tryd.underlying23 info70 rfl (by decide) (by omega) u5 x5_1 (⟨(rd_T70 l0 x7_1).f0, (rd_T70 l0 x7_1).f1⟩ : S70) [.int .i64 ((rd_T70 l0 x7_1).f0), .int .i64 ((rd_T70 l0 x7_1).f1)] (fun k_ => (P0_ k_ ∨ w.heap.size ≤ k_) ∧ some k_ ≠ (.slice (some ad244) l0.length co34 : Value).ownBlock ∧ k_ ≠ gb240) (fun _ => False) rfl rfl ?aP (fun _ hk => hk.elim) ?aF ?aO ?aB ?aS ?aL ?_;(case aP => exact k70_mkM _ _ _ (⟨(rd_T70 l0 x7_1).f0, (rd_T70 l0 x7_1).f1⟩ : S70));(case aB => exact (by repeat (first|(with_reducible first|exact HB.out|apply below_alloc|apply pw_below_drewN|apply below_drew1|refine below_set ?_ GE240.out)|exact HB.out)));(case aF => exact (fun k_ hk => ⟨(.inr (Nat.le_trans (by first|exact HK.out.1|exact (show Kept w _ (fun k_ => P0_ k_) from by repeat (first|(with_reducible first|exact HK.out|apply Kept.alloc|apply Kept.drewN|apply Kept.drew|refine Kept.setCell ?_ (.inr GW240.out) _)|exact HK.out)).1) hk)), Kd.fresh' (Kd.R_lt (by (with_reducible repeat (first|apply Kd.R_alloc|apply Kd.R_drewN|apply Kd.R_drew));exact HO_0.out)) k_ hk, Kd.freshB (g:=gb240) (o:=.cells #[.int .i64 a1_0, .int .i64 a1_1] 70 (0, 0)) (by (with_reducible repeat (first|refine blk_drewN ?_ _|refine blk_drew ?_|refine blk_alloc ?_ _));exact BK240.out) k_ hk⟩));(case aO => exact (by (with_reducible repeat (first|apply Kd.R_alloc|apply Kd.R_drewN|apply Kd.R_drew));exact HO_5.out));(case aS => exact (below_size (by repeat (first|(with_reducible first|exact HB.out|apply below_alloc|apply pw_below_drewN|apply below_drew1|refine below_set ?_ GE240.out)|exact HB.out))));(case aL => have:=LMc33.out;omega);intro v272 w36 ho hb hg hat;rw [← Ny271.out] at ho;have n0_:=Aside0.mk (Kd.R_after (ok:=(fun k_ => (P0_ k_ ∨ w.heap.size ≤ k_) ∧ k_ ≠ gb240)) (by (with_reducible repeat (first|apply Kd.R_alloc|apply Kd.R_drewN|apply Kd.R_drew));exact Kd.R_mono HO_0.out (fun _ hk => ⟨⟨hk.1, hk.2.2⟩, hk.2.1⟩)) hg hat);have n1_:=Aside0.mk (blk_grown (g:=gb240) (o:=.cells #[.int .i64 a1_0, .int .i64 a1_1] 70 (0, 0)) (by (with_reducible repeat (first|refine blk_drewN ?_ _|refine blk_drew ?_|refine blk_alloc ?_ _));exact BK240.out) hg (Kd.R_away HO_5.out (fun _ hk => hk.2.2)));have n2_:=Aside0.mk (hb);have n3_:=Aside0.mk (Kept.of_grown (S:=(fun k_ => P0_ k_)) hg (by repeat (first|(with_reducible first|exact HK.out|apply Kept.alloc|apply Kept.drewN|apply Kept.drew|refine Kept.setCell ?_ (.inr GW240.out) _)|exact HK.out)) (fun k_ e_ => (HO_5.out.1 k_ e_).1));have n4_:=Aside0.mk (ho);clear HO_0;clear BK240;clear HB;clear HK;clear HO_5;have HO_0:=n0_;have BK240:=n1_;have HB:=n2_;have HK:=n3_;have HO273:=n4_;clear n0_ n1_ n2_ n3_ n4_;clear ho hb hg hat)))
          go_roundg k1
          case measure => have := HK1.out; omega
          case rel => exact ⟨(y271), (false), (wrap64 (x7_1 + 1)), (by first|rfl|(simp;done)|(simp [*];done)), (by first|rfl|(simp;done)|(simp [*];done)), H', ⟨by have:=HK1.out;omega⟩, ⟨by (with_reducible repeat (first|apply Kd.R_alloc|apply Kd.R_drewN|apply Kd.R_drew));exact Kd.R_mono HO_0.out (fun _ hk => ⟨hk.1.1, ⟨hk.2, hk.1.2⟩⟩)⟩, ⟨by (with_reducible repeat (first|apply Kd.R_alloc|apply Kd.R_drewN|apply Kd.R_drew));exact HO273.out⟩, ⟨by (with_reducible repeat (first|refine blk_drewN ?_ _|refine blk_drew ?_|refine blk_alloc ?_ _));exact BK240.out⟩, ⟨by repeat (first|(with_reducible first|exact HK.out|apply Kept.alloc|apply Kept.drewN|apply Kept.drew|refine Kept.setCell ?_ (.inr GW240.out) _)|exact HK.out)⟩, ⟨by repeat (first|(with_reducible first|exact HB.out|apply below_alloc|apply pw_below_drewN|apply below_drew1|refine below_set ?_ GE240.out)|exact HB.out)⟩⟩
         ·rw [if_neg c33] at H
          exact absurd H (by simp)
    ·rw [if_neg c5] at H
     exact absurd H (by simp)
   ·rw [if_neg c4] at H
    have c4b0 : decide (x7_1 < (l0.length : Int)) = false := decide_eq_false c4
    clear c4
    by_cases c37 : x6_1 = true
    ·subst c37
     have H1 : (some x5_1) = some r := by rw [if_pos rfl] at H; exact H
     clear H
     have H := H1
     clear H1
     obtain rfl := Option.some.inj H
     obtain ⟨Ao38, co38, eo38⟩ := Kd.R_slice HO_0.out
     subst eo38
     go_wp2
     repeat (go_quiet (fail); try go_wp2)
     go_ret
     exact ⟨_, by first|rfl|(simp [errW_none, errW_some] <;> rfl)|(simp [*, errW_none, errW_some] <;> rfl), by (with_reducible repeat (first|apply Kd.R_alloc|apply Kd.R_drewN|apply Kd.R_drew));exact Kd.R_mono HO_5.out (fun _ hk => hk.1), by repeat (first|(with_reducible first|exact HB.out|apply below_alloc|apply pw_below_drewN|apply below_drew1|refine below_set ?_ GE240.out)|exact HB.out), by repeat (first|(with_reducible first|exact HK.out|apply Kept.alloc|apply Kept.drewN|apply Kept.drew|refine Kept.setCell ?_ (.inr GW240.out) _)|exact HK.out)⟩
    ·replace c37 := Bool.eq_false_iff.mpr c37
     subst c37
     have H1 : (if x5_1.length < 8796093022208 then (some (x5_1 ++ [(⟨a1_0, a1_1⟩ : S70)])) else (none)) = some r := by rw [if_neg (show ¬ (false = true) by decide)] at H; exact H
     clear H
     have H := H1
     clear H1
     by_cases c39 : x5_1.length < 8796093022208
     ·rw [if_pos c39] at H
      have LMc39 := Aside0.mk c39
      clear c39
      obtain ⟨y241, hy241⟩ : ∃ y_ : List (S70), y_ = (x5_1 ++ [(⟨a1_0, a1_1⟩ : S70)]) := ⟨_, rfl⟩
      replace H : (some y241) = some r:=by first|(rw [hy241];with_reducible exact H)|(have H2_:=(Option.bind_some _ _).symm.trans H;rw [hy241];with_reducible exact H2_)|(have H2_:=(Option.bind_some _ _).symm.trans H;with_reducible exact H2_)|with_reducible exact H|(rw [hy241];exact H)|exact H
      have Ny241 := Aside0.mk hy241
      clear hy241
      obtain rfl := Option.some.inj H
      obtain ⟨Ao40, co40, eo40⟩ := Kd.R_slice HO_0.out
      subst eo40
      have hcz41_0 : wr.cell? ⟨gb240, 0, none⟩ = some (.int .i64 a1_0) := (blk_cell BK240.out 0).trans rfl
      have hcz41_1 : wr.cell? ⟨gb240, 1, none⟩ = some (.int .i64 a1_1) := (blk_cell BK240.out 1).trans rfl
      have hfz41_0 := blk_frozen BK240.out 0
      have hfz41_1 := blk_frozen BK240.out 1
      go_wp2_with (first|((with_reducible refine gate_builtin (b:=.append) (xs:=#[.tmp 66, .tmp 68]) rfl ?_);at_builtin;refine Kd.R_append k70 (w0:=w0) w0.heap.size rfl (.tmp 66) (.tmp 68) 23 70 (.agg #[(.int .i64 0), (.int .i64 0)]) 16 rfl Tryd.underlying23 info70 rfl (by decide) (by omega) u5 x5_1 (⟨a1_0, a1_1⟩ : S70) [.int .i64 a1_0, .int .i64 a1_1] (fun k_ => (P0_ k_ ∨ w.heap.size ≤ k_) ∧ some k_ ≠ (.slice Ao40 l0.length co40 : Value).ownBlock ∧ k_ ≠ gb240) (fun _ => False) rfl rfl ?aP (fun _ hk => hk.elim) ?aF ?aO ?aB ?aS ?aL ?_;(case aP => exact k70_mkM _ _ _ (⟨a1_0, a1_1⟩ : S70));(case aB => exact (by repeat (first|(with_reducible first|exact HB.out|apply below_alloc|apply pw_below_drewN|apply below_drew1|refine below_set ?_ GE240.out)|exact HB.out)));(case aF => exact (fun k_ hk => ⟨(.inr (Nat.le_trans (by first|exact HK.out.1|exact (show Kept w _ (fun k_ => P0_ k_) from by repeat (first|(with_reducible first|exact HK.out|apply Kept.alloc|apply Kept.drewN|apply Kept.drew|refine Kept.setCell ?_ (.inr GW240.out) _)|exact HK.out)).1) hk)), Kd.fresh' (Kd.R_lt (by (with_reducible repeat (first|apply Kd.R_alloc|apply Kd.R_drewN|apply Kd.R_drew));exact HO_0.out)) k_ hk, Kd.freshB (g:=gb240) (o:=.cells #[.int .i64 a1_0, .int .i64 a1_1] 70 (0, 0)) (by (with_reducible repeat (first|refine blk_drewN ?_ _|refine blk_drew ?_|refine blk_alloc ?_ _));exact BK240.out) k_ hk⟩));(case aO => exact (by (with_reducible repeat (first|apply Kd.R_alloc|apply Kd.R_drewN|apply Kd.R_drew));exact HO_5.out));(case aS => exact (below_size (by repeat (first|(with_reducible first|exact HB.out|apply below_alloc|apply pw_below_drewN|apply below_drew1|refine below_set ?_ GE240.out)|exact HB.out))));(case aL => have:=LMc39.out;omega);intro v242 w42 ho hb hg hat;rw [← Ny241.out] at ho;have n0_:=Aside0.mk (Kd.R_after (ok:=(fun k_ => (P0_ k_ ∨ w.heap.size ≤ k_) ∧ k_ ≠ gb240)) (by (with_reducible repeat (first|apply Kd.R_alloc|apply Kd.R_drewN|apply Kd.R_drew));exact Kd.R_mono HO_0.out (fun _ hk => ⟨⟨hk.1, hk.2.2⟩, hk.2.1⟩)) hg hat);have n1_:=Aside0.mk (blk_grown (g:=gb240) (o:=.cells #[.int .i64 a1_0, .int .i64 a1_1] 70 (0, 0)) (by (with_reducible repeat (first|refine blk_drewN ?_ _|refine blk_drew ?_|refine blk_alloc ?_ _));exact BK240.out) hg (Kd.R_away HO_5.out (fun _ hk => hk.2.2)));have n2_:=Aside0.mk (hb);have n3_:=Aside0.mk (Kept.of_grown (S:=(fun k_ => P0_ k_)) hg (by repeat (first|(with_reducible first|exact HK.out|apply Kept.alloc|apply Kept.drewN|apply Kept.drew|refine Kept.setCell ?_ (.inr GW240.out) _)|exact HK.out)) (fun k_ e_ => (HO_5.out.1 k_ e_).1));have n4_:=Aside0.mk (ho);clear HO_0;clear BK240;clear HB;clear HK;clear HO_5;have HO_0:=n0_;have BK240:=n1_;have HB:=n2_;have HK:=n3_;have HO243:=n4_;clear n0_ n1_ n2_ n3_ n4_;clear ho hb hg hat))
      go_ret
      exact ⟨_, by first|rfl|(simp [errW_none, errW_some] <;> rfl)|(simp [*, errW_none, errW_some] <;> rfl), by (with_reducible repeat (first|apply Kd.R_alloc|apply Kd.R_drewN|apply Kd.R_drew));exact Kd.R_mono HO243.out (fun _ hk => hk.1), by repeat (first|(with_reducible first|exact HB.out|apply below_alloc|apply pw_below_drewN|apply below_drew1|refine below_set ?_ GE240.out)|exact HB.out), by repeat (first|(with_reducible first|exact HK.out|apply Kept.alloc|apply Kept.drewN|apply Kept.drew|refine Kept.setCell ?_ (.inr GW240.out) _)|exact HK.out)⟩
     ·rw [if_neg c39] at H
      exact absurd H (by simp)

-- NOT PRINTED: function 49 (chancelref04_Put)
-- NOT PRINTED: function 49 (chancelref04_Put)

/-! ### chancelref01_Byte: function 78 -/
def chancelref01_Byte.l0 : Nat → ByteArray → Int → Int → Int → Option (Int)
 | 0, _, _, _, _ => none
 | k + 1, x0, x1, x5, x6 => if x6 < x1 then (if x5 < (x0.size : Int) then (if 0 ≤ x5 then (if x5 ≤ (x0.size : Int) then ((chancelref01_size.f k (x0.extract (x5 : Int).toNat x0.size)).bind fun bt308 => (chancelref01_Byte.l0 k x0 x1 (wrap64 (x5 + bt308.1)) (wrap64 (x6 + 1)))) else (none)) else (none)) else (some x5)) else (some x5)
def chancelref01_Byte.f (k : Nat) (a0 : ByteArray) (a1 : Int) : Option (Int) := chancelref01_Byte.l0 k a0 a1 0 0
theorem chancelref01_Byte.mono_l : ∀ k, (∀ y0 y1 y2 y3, LeO (chancelref01_Byte.l0 k y0 y1 y2 y3) (chancelref01_Byte.l0 (k + 1) y0 y1 y2 y3))
 | 0 => fun _ _ _ _ r h => by simp [chancelref01_Byte.l0] at h
 | k + 1 => by
  have ih0 := chancelref01_Byte.mono_l k
  ·intro y0 y1 y2 y3
   unfold chancelref01_Byte.l0
   repeat' first
   | (with_reducible exact ih0 _ _ _ _)
   | (with_reducible exact chancelref01_size.mono _ _)
   | (with_reducible exact LeO.refl _)
   | (with_reducible exact LeO.none _)
   | (with_reducible refine LeO.ite ?_ ?_)
   | (with_reducible refine LeO.bind ?_ (fun _ => ?_))
   | exact ih0 _ _ _ _
   | exact chancelref01_size.mono _ _
   | exact LeO.none _
   | refine LeO.ite ?_ ?_
   | refine LeO.bind ?_ (fun _ => ?_)
theorem chancelref01_Byte.mono : ∀ a0 a1 k, LeO (chancelref01_Byte.f k a0 a1) (chancelref01_Byte.f (k + 1) a0 a1) := by
 intro a0 a1 k
 have ih0 := chancelref01_Byte.mono_l k
 unfold chancelref01_Byte.f
 repeat' first
   | (with_reducible exact ih0 _ _ _ _)
   | (with_reducible exact chancelref01_size.mono _ _)
   | (with_reducible exact LeO.refl _)
   | (with_reducible exact LeO.none _)
   | (with_reducible refine LeO.ite ?_ ?_)
   | (with_reducible refine LeO.bind ?_ (fun _ => ?_))
   | exact ih0 _ _ _ _
   | exact chancelref01_size.mono _ _
   | exact LeO.none _
   | refine LeO.ite ?_ ?_
   | refine LeO.bind ?_ (fun _ => ?_)
set_option maxHeartbeats 8000000 in
set_option maxRecDepth 100000 in
theorem chancelref01_Byte.calls (k : Nat) (a0 : ByteArray) (a1 : Int) (r : Int) (w : World) (h : chancelref01_Byte.f k a0 a1 = some r) :
  Calls Tryd.prog 78 #[.string a0, .int .i64 a1] w fun e w' => e = .returned (.int .i64 r) ∧ Drawn0 w w' := by
 have H : (chancelref01_Byte.l0 k a0 a1 0 0) = some r := h
 clear h
 have H' := Aside0.mk H
 clear H
 go_enter Tryd.func78, Tryd.ntmps78
 go_wp2
 go_loopg [5, 6] k (fun kq v5 v6 w' => ∃ (x5_1 : Int) (x6_1 : Int), v5 = .int .i64 x5_1 ∧ v6 = .int .i64 x6_1 ∧ Aside0 (chancelref01_Byte.l0 kq a0 a1 x5_1 x6_1 = some r) ∧ Aside0 (kq ≤ k) ∧ Drawn0 w w')
 case atStart => exact ⟨(0), (0), (by first | rfl | (simp; done) | (simp [*]; done)), (by first | rfl | (simp; done) | (simp [*]; done)), H', ⟨Nat.le_refl _⟩, by repeat (first | exact Drawn0.refl _ | apply Drawn0.step)⟩
 case round =>
  clear H'
  try clear p2
  obtain ⟨x5_1, x6_1, rfl, rfl, HA, HK1, ⟨m1, rfl⟩⟩ := hrel
  cases gk with
  | zero => exact absurd HA.out (by simp [chancelref01_Byte.l0])
  | succ k1 =>
   have H := HA.out
   clear HA
   simp only [chancelref01_Byte.l0] at H
   by_cases c3 : x6_1 < a1
   ·rw [if_pos c3] at H
    have c3b0 : decide (x6_1 < a1) = true := decide_eq_true c3
    clear c3
    by_cases c4 : x5_1 < (a0.size : Int)
    ·rw [if_pos c4] at H
     have c4b0 : decide (x5_1 < (a0.size : Int)) = true := decide_eq_true c4
     clear c4
     by_cases c5 : 0 ≤ x5_1
     ·rw [if_pos c5] at H
      have c5b0 := eq_true c5
      have c5b1 : decide (0 ≤ x5_1) = true := decide_eq_true c5
      clear c5
      by_cases c6 : x5_1 ≤ (a0.size : Int)
      ·rw [if_pos c6] at H
       have c6b0 := eq_true c6
       have c6b1 : decide (x5_1 ≤ (a0.size : Int)) = true := decide_eq_true c6
       clear c6
       replace H := Option.bind_eq_some_iff.mp H
       obtain ⟨⟨t308, t309⟩, A70, H⟩ := H
       replace H : (chancelref01_Byte.l0 k1 a0 a1 (wrap64 (x5_1 + t308)) (wrap64 (x6_1 + 1))) = some r := H
       have A7 := Aside0.mk A70
       clear A70
       have H' := Aside0.mk H
       clear H
       go_wp2_with (first|((with_reducible refine gate_callee (f:=65) rfl ?_);refine goesL_ (some 24) rfl rfl Tryd.func65 (by kernel_rfl) rfl #[.string (a0.extract (x5_1 : Int).toNat a0.size)] rfl (by (try simp only [List.map_toArray, List.map_cons, List.map_nil]);first|done|rfl|(simp only [List.length_drop, List.length_take];rfl)) ?_;(with_reducible refine (chancelref01_size.calls k1 (a0.extract (x5_1 : Int).toNat a0.size) t308 t309 _ A7.out).mono ?_);rintro e w' ⟨rfl, ⟨nd, rfl⟩⟩;refine ⟨_, rfl, ?_⟩))
       go_roundg k1
       case measure => have := HK1.out; omega
       case rel => exact ⟨(wrap64 (x5_1 + t308)), (wrap64 (x6_1 + 1)), (by first | rfl | (simp; done) | (simp [*]; done)), (by first | rfl | (simp; done) | (simp [*]; done)), H', ⟨by have := HK1.out; omega⟩, by repeat (first | exact Drawn0.refl _ | apply Drawn0.step)⟩
      ·rw [if_neg c6] at H
       exact absurd H (by simp)
     ·rw [if_neg c5] at H
      exact absurd H (by simp)
    ·rw [if_neg c4] at H
     have c4b0 : decide (x5_1 < (a0.size : Int)) = false := decide_eq_false c4
     clear c4
     obtain rfl := Option.some.inj H
     go_wp2
     go_ret
     exact ⟨by first | rfl | (simp; done) | (simp [*]; done), by repeat (first | exact Drawn0.refl _ | apply Drawn0.step)⟩
   ·rw [if_neg c3] at H
    have c3b0 : decide (x6_1 < a1) = false := decide_eq_false c3
    clear c3
    obtain rfl := Option.some.inj H
    go_wp2
    go_ret
    exact ⟨by first | rfl | (simp; done) | (simp [*]; done), by repeat (first | exact Drawn0.refl _ | apply Drawn0.step)⟩

/-! ### chancelref01_Put: function 50 -/

-- NOT PRINTED: function 19 (chancelref05_Insert)

-- NOT PRINTED: function 4 (chancellaw05_SegmentInsert)

-- NOT PRINTED: function 51 (segment_Segment_places)

end Go.Proofs.YtjphmebhofkhcaaDoor.PSegAll
