-- Written by a program of this session around the given print (and over contracts of this session): not checked by anybody but Lean.
import Derived.Test.YtjphmebhofkhcaaDoorPSegAllx0
namespace Go.Proofs.YtjphmebhofkhcaaDoor.PSegAll
open Go.RowKit Go.Proofs.YtjphmebhofkhcaaDoorW.PrintWords Go.Proofs.YtjphmebhofkhcaaDoorW.PrintLast Go.Proofs.YtjphmebhofkhcaaDoorW.PrintMore
attribute [local go_sem] max2_int min2_int max_two min_two max_three min_three max_four min_four   -- for this text's walks alone
set_option linter.unusedVariables false
set_option linter.unusedSimpArgs false

/-! ### chancelref04_each: function 75 -/
mutual
def chancelref04_each.l0 : Nat → List Int → Int → List (S67) → List (S70) → Option (List Int)
 | 0, _, _, _, _ => none
 | k + 1, x5, x6, x216000, x216001 => if x6 < (x216000.length : Int) then (if 0 ≤ x6 then (chancelref04_each.l1 k x5 x6 ((rd_T67 x216000 x6).f1) x216000 x216001) else (none)) else (some x5)
def chancelref04_each.l1 : Nat → List Int → Int → Int → List (S67) → List (S70) → Option (List Int)
 | 0, _, _, _, _, _ => none
 | k + 1, x5, x6, x7, x216000, x216001 => if 0 ≤ x6 then (if x6 < (x216000.length : Int) then (if x7 < ((rd_T67 x216000 x6).f2) then (if 0 ≤ x7 then (if x7 < (x5.length : Int) then (chancelref04_each.l1 k (x5.set (x7 : Int).toNat ((rd_T67 x216000 x6).f0)) x6 (wrap64 (x7 + 1)) x216000 x216001) else (none)) else (none)) else (chancelref04_each.l0 k x5 (wrap64 (x6 + 1)) x216000 x216001)) else (none)) else (none)
end
def chancelref04_each.f (k : Nat) (l0_0 : List (S67)) (l0_1 : List (S70)) (a1 : Int) : Option (List Int) := if 0 ≤ a1 then (if (a1 : Int).toNat ≤ 35184372088832 then (chancelref04_each.l0 k (List.replicate (a1 : Int).toNat 0) 0 l0_0 l0_1) else (none)) else (none)
theorem chancelref04_each.mono_l : ∀ k, (∀ y0 y1 y2 y3, LeO (chancelref04_each.l0 k y0 y1 y2 y3) (chancelref04_each.l0 (k + 1) y0 y1 y2 y3)) ∧ (∀ y0 y1 y2 y3 y4, LeO (chancelref04_each.l1 k y0 y1 y2 y3 y4) (chancelref04_each.l1 (k + 1) y0 y1 y2 y3 y4))
 | 0 => ⟨fun _ _ _ _ r h => by simp [chancelref04_each.l0] at h, fun _ _ _ _ _ r h => by simp [chancelref04_each.l1] at h⟩
 | k + 1 => by
  obtain ⟨ih0, ih1⟩ := chancelref04_each.mono_l k
  refine ⟨?_, ?_⟩
  ·intro y0 y1 y2 y3
   unfold chancelref04_each.l0
   repeat' first
   | (with_reducible exact ih0 _ _ _ _)
   | (with_reducible exact ih1 _ _ _ _ _)
   | (with_reducible exact LeO.refl _)
   | (with_reducible exact LeO.none _)
   | (with_reducible refine LeO.ite ?_ ?_)
   | (with_reducible refine LeO.bind ?_ (fun _ => ?_))
   | exact ih0 _ _ _ _
   | exact ih1 _ _ _ _ _
   | exact LeO.none _
   | refine LeO.ite ?_ ?_
   | refine LeO.bind ?_ (fun _ => ?_)
  ·intro y0 y1 y2 y3 y4
   unfold chancelref04_each.l1
   repeat' first
   | (with_reducible exact ih0 _ _ _ _)
   | (with_reducible exact ih1 _ _ _ _ _)
   | (with_reducible exact LeO.refl _)
   | (with_reducible exact LeO.none _)
   | (with_reducible refine LeO.ite ?_ ?_)
   | (with_reducible refine LeO.bind ?_ (fun _ => ?_))
   | exact ih0 _ _ _ _
   | exact ih1 _ _ _ _ _
   | exact LeO.none _
   | refine LeO.ite ?_ ?_
   | refine LeO.bind ?_ (fun _ => ?_)
theorem chancelref04_each.mono : ∀ a0 a1 a2 k, LeO (chancelref04_each.f k a0 a1 a2) (chancelref04_each.f (k + 1) a0 a1 a2) := by
 intro a0 a1 a2 k
 obtain ⟨ih0, ih1⟩ := chancelref04_each.mono_l k
 unfold chancelref04_each.f
 repeat' first
   | (with_reducible exact ih0 _ _ _ _)
   | (with_reducible exact ih1 _ _ _ _ _)
   | (with_reducible exact LeO.refl _)
   | (with_reducible exact LeO.none _)
   | (with_reducible refine LeO.ite ?_ ?_)
   | (with_reducible refine LeO.bind ?_ (fun _ => ?_))
   | exact ih0 _ _ _ _
   | exact ih1 _ _ _ _ _
   | exact LeO.none _
   | refine LeO.ite ?_ ?_
   | refine LeO.bind ?_ (fun _ => ?_)
set_option maxHeartbeats 8000000 in
set_option maxRecDepth 100000 in
theorem chancelref04_each.calls (k : Nat) (A0_0 : Option Addr) (c0_0 : Nat) (l0_0 : List (S67)) (A0_1 : Option Addr) (c0_1 : Nat) (l0_1 : List (S70)) (a1 : Int) (r : List Int) (w : World) (hr0_0 : Kd.C k67 w A0_0 l0_0.length l0_0) (hc0_0 : l0_0.length ≤ c0_0) (hr0_1 : Kd.C k70 w A0_1 l0_1.length l0_1) (hc0_1 : l0_1.length ≤ c0_1) (h : chancelref04_each.f k l0_0 l0_1 a1 = some r) :
  Calls Tryd.prog 75 #[.agg #[.slice A0_0 l0_0.length c0_0, .slice A0_1 l0_1.length c0_1], .int .i64 a1] w fun e w' => ∃ v0_ : Value, e = .returned (v0_) ∧ Kd.R (Kd.int .i64) 3 w' w.heap.size (fun _ => True) v0_ r ∧ Below w.heap.size w w' := by
 have hu74 := Tryd.underlying74
 have HR0_0 := Aside0.mk hr0_0
 have HC0_0 := Aside0.mk hc0_0
 clear hr0_0 hc0_0
 have HR0_1 := Aside0.mk hr0_1
 have HC0_1 := Aside0.mk hc0_1
 clear hr0_1 hc0_1
 have HB := Aside0.mk (Below.refl w.heap.size w)
 have H : (if 0 ≤ a1 then (if (a1 : Int).toNat ≤ 35184372088832 then (chancelref04_each.l0 k (List.replicate (a1 : Int).toNat 0) 0 l0_0 l0_1) else (none)) else (none)) = some r := h
 clear h
 by_cases c3 : 0 ≤ a1
 ·rw [if_pos c3] at H
  have c3b0 := eq_true c3
  have c3b1 : decide (0 ≤ a1) = true := decide_eq_true c3
  clear c3
  by_cases c4 : (a1 : Int).toNat ≤ 35184372088832
  ·rw [if_pos c4] at H
   have c4b0 := eq_true c4
   have c4b1 : decide ((a1 : Int).toNat ≤ 35184372088832) = true := decide_eq_true c4
   clear c4
   obtain ⟨y216, hy216⟩ : ∃ y_ : List Int, y_ = (List.replicate (a1 : Int).toNat 0) := ⟨_, rfl⟩
   replace H : (chancelref04_each.l0 k y216 0 l0_0 l0_1) = some r:=by first|(rw [hy216];with_reducible exact H)|(have H2_:=(Option.bind_some _ _).symm.trans H;rw [hy216];with_reducible exact H2_)|(have H2_:=(Option.bind_some _ _).symm.trans H;with_reducible exact H2_)|with_reducible exact H|(rw [hy216];exact H)|exact H
   have Ny216 := Aside0.mk hy216
   clear hy216
   have H' := Aside0.mk H
   clear H
   go_enter Tryd.func75, Tryd.ntmps75
   go_wp2_with (first|((with_reducible refine gate_dst (N:=2) rfl ?_);refine box_event ?hg (N:=2) ?hd (cs:=#[.slice A0_0 l0_0.length c0_0, .slice A0_1 l0_1.length c0_1]) (t:=74) ?hr ?_;(case hd => rfl);(case hg => rfl);(case hr => first|(go_simp;done)|(go_simp;rfl));intro gb215 hg w5 hbox hb;have n0_:=Aside0.mk (below_step (by repeat (first|(with_reducible first|exact HB.out|apply below_alloc|apply pw_below_drewN|apply below_drew1)|exact HB.out)) hb);have n1_:=Aside0.mk (hbox);have n2_:=Aside0.mk ((by rw [hg];exact (below_size (by repeat (first|(with_reducible first|exact HB.out|apply below_alloc|apply pw_below_drewN|apply below_drew1)|exact HB.out))) : w.heap.size ≤ gb215));have n3_:=Aside0.mk ((by rw [hg];exact (below_size (by repeat (first|(with_reducible first|exact HB.out|apply below_alloc|apply pw_below_drewN|apply below_drew1)|exact HB.out))) : w.heap.size ≤ gb215));clear HB;have HB:=n0_;have BK215:=n1_;have GW215:=n2_;have GE215:=n3_;clear n0_ n1_ n2_ n3_;clear hb hbox hg)|((with_reducible refine gate_dst (N:=9) rfl ?_);refine Kd.R_make (Kd.int .i64) _ 3 rfl (N:=9) rfl 83 _ _ rfl a1 rfl rfl Tryd.underlying83 (.int .i64 0) 8 info3 rfl (by decide) (by omega) 0 (ok:=fun _ => True) (okp:=fun _ => True) rfl (fun _ hk => hk) trivial (of_decide_eq_true (by first|(with_reducible assumption)|assumption)) (Nat.le_trans (Nat.mul_le_mul_right _ (of_decide_eq_true (by first|(with_reducible assumption)|assumption) : a1.toNat ≤ 35184372088832)) (by omega)) (Below.refl _ _) (Nat.le_refl _) ?_;intro v217 w6 ho7 hb hg_ hnew_;clear hg_ hnew_;(first|rw [← Ny216.out] at ho7|(simp only [Int.reduceToNat] at ho7;rw [← Ny216.out] at ho7));have n0_:=Aside0.mk (Kd.R_lower ho7 (below_size (by repeat (first|(with_reducible first|exact HB.out|apply below_alloc|apply pw_below_drewN|apply below_drew1|refine below_set ?_ GE215.out)|exact HB.out))));have n1_:=Aside0.mk (blk_below (g:=gb215) (o:=.cells #[.slice A0_0 l0_0.length c0_0, .slice A0_1 l0_1.length c0_1] 74 (0, 0)) (by (with_reducible repeat (first|refine blk_drewN ?_ _|refine blk_drew ?_|refine blk_alloc ?_ _));exact BK215.out) hb);have n2_:=Aside0.mk (below_step (by repeat (first|(with_reducible first|exact HB.out|apply below_alloc|apply pw_below_drewN|apply below_drew1|refine below_set ?_ GE215.out)|exact HB.out)) hb);clear BK215;clear HB;have HO218:=n0_;have BK215:=n1_;have HB:=n2_;clear n0_ n1_ n2_;clear hb ho7))
   go_loopg [6] k (fun kq v6 w' => ∃ (x5_1 : List Int) (x6_1 : Int), v6 = .int .i64 x6_1 ∧ Aside0 (chancelref04_each.l0 kq x5_1 x6_1 l0_0 l0_1 = some r) ∧ Aside0 (kq ≤ k) ∧ Aside0 (Kd.R (Kd.int .i64) 3 w' w.heap.size (fun _ => True) v217 x5_1) ∧ Aside0 (w'.heap[gb215]? = some (.cells #[(.slice A0_0 l0_0.length c0_0), (.slice A0_1 l0_1.length c0_1)] 74 (0, 0))) ∧ Aside0 (Below w.heap.size w w'))
   case atStart => exact ⟨(y216), (0), (by first|rfl|(simp;done)|(simp [*];done)), H', ⟨Nat.le_refl _⟩, ⟨by (with_reducible repeat (first|apply Kd.R_alloc|apply Kd.R_drewN|apply Kd.R_drew));exact HO218.out⟩, ⟨by (with_reducible repeat (first|refine blk_drewN ?_ _|refine blk_drew ?_|refine blk_alloc ?_ _));exact BK215.out⟩, ⟨by repeat (first|(with_reducible first|exact HB.out|apply below_alloc|apply pw_below_drewN|apply below_drew1|refine below_set ?_ GE215.out)|exact HB.out)⟩⟩
   case round =>
    clear H'
    try clear p2
    try clear c3
    try clear c3b0
    try clear c3b1
    try clear c4
    try clear c4b0
    try clear c4b1
    try clear c7
    obtain ⟨x5_1, x6_1, rfl, HA, HK1, HO_5, BK215, HB⟩ := hrel
    cases gk with
    | zero => exact absurd HA.out (by simp [chancelref04_each.l0])
    | succ k1 =>
     have H := HA.out
     clear HA
     simp only [chancelref04_each.l0] at H
     by_cases c8 : x6_1 < (l0_0.length : Int)
     ·rw [if_pos c8] at H
      have c8b0 : decide (x6_1 < (l0_0.length : Int)) = true := decide_eq_true c8
      clear c8
      by_cases c9 : 0 ≤ x6_1
      ·rw [if_pos c9] at H
       have c9b0 : decide (0 ≤ x6_1) = true := decide_eq_true c9
       clear c9
       have H' := Aside0.mk H
       clear H
       have hcz10_0 : wr.cell? ⟨gb215, 0, none⟩ = some (.slice A0_0 l0_0.length c0_0) := (blk_cell BK215.out 0).trans rfl
       have hcz10_1 : wr.cell? ⟨gb215, 1, none⟩ = some (.slice A0_1 l0_1.length c0_1) := (blk_cell BK215.out 1).trans rfl
       have hfz10_0 := blk_frozen BK215.out 0
       have hfz10_1 := blk_frozen BK215.out 1
       have p219 : 0 ≤ (x6_1 : Int):=of_decide_eq_true (by first|(with_reducible assumption)|assumption)
       have q219 : x6_1 < (l0_0.length : Int):=of_decide_eq_true (by first|(with_reducible assumption)|assumption)
       obtain ⟨ad219, e219, hx219_0, hx219_1, hx219_2⟩ := at_T67 HR0_0.out x6_1 p219 q219
       cases e219
       replace hx219_0 := (HB.out.cell (World.block_lt_of_cell? w _ hx219_0)).trans hx219_0
       replace hx219_1 := (HB.out.cell (World.block_lt_of_cell? w _ hx219_1)).trans hx219_1
       replace hx219_2 := (HB.out.cell (World.block_lt_of_cell? w _ hx219_2)).trans hx219_2
       replace p219 := eq_true p219
       replace q219 := eq_true q219
       go_wp2
       go_loopg [7] k1 (fun kq v7 w' => ∃ (x5_2 : List Int) (x7_2 : Int), v7 = .int .i64 x7_2 ∧ Aside0 (chancelref04_each.l1 kq x5_2 x6_1 x7_2 l0_0 l0_1 = some r) ∧ Aside0 (kq ≤ k1) ∧ Aside0 (Kd.R (Kd.int .i64) 3 w' w.heap.size (fun _ => True) v217 x5_2) ∧ Aside0 (w'.heap[gb215]? = some (.cells #[(.slice (some ad219) l0_0.length c0_0), (.slice A0_1 l0_1.length c0_1)] 74 (0, 0))) ∧ Aside0 (Below w.heap.size w w'))
       case atStart => exact ⟨(x5_1), ((rd_T67 l0_0 x6_1).f1), (by first|rfl|(simp;done)|(simp [*];done)), H', ⟨Nat.le_refl _⟩, ⟨by (with_reducible repeat (first|apply Kd.R_alloc|apply Kd.R_drewN|apply Kd.R_drew));exact HO_5.out⟩, ⟨by (with_reducible repeat (first|refine blk_drewN ?_ _|refine blk_drew ?_|refine blk_alloc ?_ _));exact BK215.out⟩, ⟨by repeat (first|(with_reducible first|exact HB.out|apply below_alloc|apply pw_below_drewN|apply below_drew1|refine below_set ?_ GE215.out)|exact HB.out)⟩⟩
       case round =>
        clear H'
        try clear p2
        try clear q2
        try clear hx2
        try clear c3
        try clear c3b0
        try clear c3b1
        try clear c4
        try clear c4b0
        try clear c4b1
        try clear c7
        try clear c8
        try clear c8b0
        try clear c9
        try clear c9b0
        try clear hcz10_0
        try clear hcz10_1
        try clear hfz10_0
        try clear hfz10_1
        try clear hx219_0
        try clear hx219_1
        try clear hx219_2
        try clear p2
        try clear p219
        try clear q219
        obtain ⟨x5_2, x7_2, rfl, HA, HK2, HO_5, BK215, HB⟩ := hrel
        cases gk with
        | zero => exact absurd HA.out (by simp [chancelref04_each.l1])
        | succ k2 =>
         have H := HA.out
         clear HA
         simp only [chancelref04_each.l1] at H
         by_cases c11 : 0 ≤ x6_1
         ·rw [if_pos c11] at H
          have c11b0 : decide (0 ≤ x6_1) = true := decide_eq_true c11
          clear c11
          by_cases c12 : x6_1 < (l0_0.length : Int)
          ·rw [if_pos c12] at H
           have c12b0 : decide (x6_1 < (l0_0.length : Int)) = true := decide_eq_true c12
           clear c12
           by_cases c13 : x7_2 < ((rd_T67 l0_0 x6_1).f2)
           ·rw [if_pos c13] at H
            have c13b0 : decide (x7_2 < ((rd_T67 l0_0 x6_1).f2)) = true := decide_eq_true c13
            clear c13
            by_cases c14 : 0 ≤ x7_2
            ·rw [if_pos c14] at H
             have c14b0 : decide (0 ≤ x7_2) = true := decide_eq_true c14
             clear c14
             by_cases c15 : x7_2 < (x5_2.length : Int)
             ·rw [if_pos c15] at H
              have c15b0 : decide (x7_2 < (x5_2.length : Int)) = true := decide_eq_true c15
              clear c15
              obtain ⟨y222, hy222⟩ : ∃ y_ : List Int, y_ = (x5_2.set (x7_2 : Int).toNat ((rd_T67 l0_0 x6_1).f0)) := ⟨_, rfl⟩
              replace H : (chancelref04_each.l1 k2 y222 x6_1 (wrap64 (x7_2 + 1)) l0_0 l0_1) = some r:=by first|(rw [hy222];with_reducible exact H)|(have H2_:=(Option.bind_some _ _).symm.trans H;rw [hy222];with_reducible exact H2_)|(have H2_:=(Option.bind_some _ _).symm.trans H;with_reducible exact H2_)|with_reducible exact H|(rw [hy222];exact H)|exact H
              have Ny222 := Aside0.mk hy222
              clear hy222
              have H' := Aside0.mk H
              clear H
              have hcz17_0 : wr.cell? ⟨gb215, 0, none⟩ = some (.slice (some ad219) l0_0.length c0_0) := (blk_cell BK215.out 0).trans rfl
              have hcz17_1 : wr.cell? ⟨gb215, 1, none⟩ = some (.slice A0_1 l0_1.length c0_1) := (blk_cell BK215.out 1).trans rfl
              have hfz17_0 := blk_frozen BK215.out 0
              have hfz17_1 := blk_frozen BK215.out 1
              have p220 : 0 ≤ (x6_1 : Int):=of_decide_eq_true (by first|(with_reducible assumption)|assumption)
              have q220 : x6_1 < (l0_0.length : Int):=of_decide_eq_true (by first|(with_reducible assumption)|assumption)
              obtain ⟨ad220, e220, hx220_0, hx220_1, hx220_2⟩ := at_T67 HR0_0.out x6_1 p220 q220
              obtain rfl : ad219 = ad220 := (by injection e220)
              replace hx220_0 := (HB.out.cell (World.block_lt_of_cell? w _ hx220_0)).trans hx220_0
              replace hx220_1 := (HB.out.cell (World.block_lt_of_cell? w _ hx220_1)).trans hx220_1
              replace hx220_2 := (HB.out.cell (World.block_lt_of_cell? w _ hx220_2)).trans hx220_2
              replace p220 := eq_true p220
              replace q220 := eq_true q220
              have p221 : 0 ≤ (x6_1 : Int):=of_decide_eq_true (by first|(with_reducible assumption)|assumption)
              have q221 : x6_1 < (l0_0.length : Int):=of_decide_eq_true (by first|(with_reducible assumption)|assumption)
              obtain ⟨ad221, e221, hx221_0, hx221_1, hx221_2⟩ := at_T67 HR0_0.out x6_1 p221 q221
              obtain rfl : ad219 = ad221 := (by injection e221)
              replace hx221_0 := (HB.out.cell (World.block_lt_of_cell? w _ hx221_0)).trans hx221_0
              replace hx221_1 := (HB.out.cell (World.block_lt_of_cell? w _ hx221_1)).trans hx221_1
              replace hx221_2 := (HB.out.cell (World.block_lt_of_cell? w _ hx221_2)).trans hx221_2
              replace p221 := eq_true p221
              replace q221 := eq_true q221
              have p16 : 0 ≤ (x7_2 : Int):=of_decide_eq_true (by first|(with_reducible assumption)|assumption)
              have q16 : (x7_2 : Int) < ((x5_2.length : Int) : Int):=of_decide_eq_true (by first|(with_reducible assumption)|assumption)
              obtain ⟨go16, co16, eo16, gb16, gl16, cl16, HG16⟩ := Kd.R_form HO_5.out (by omega)
              (first | cases eo16 | (injection eo16 with ea_ en_ ec_; (first | subst ea_ | (injection ea_ with ea_; subst ea_)); subst ec_; clear en_))
              have GB16 := Aside0.mk gb16
              have GG16 := Aside0.mk HG16
              clear gb16 gl16 HG16
              obtain ⟨hx16_0, hf16_0⟩ := Kd.R_celln 0 HO_5.out (x7_2 : Int) p16 q16
              replace p16 := eq_true p16
              replace q16 := eq_true q16
              have HP18 := Kd.R_putg HO_5.out (x7_2 : Int) ((rd_T67 l0_0 x6_1).f0)
              go_wp2_with (first|((with_reducible refine gate_store (t:=3) (p:=41) rfl ?_);refine store_event (t:=3) (p:=41) (v:=?vo_w19) (w1:=(wr.setCell ⟨go16, (x7_2 : Int).toNat, none⟩ (.int .i64 ((rd_T67 l0_0 x6_1).f0)))) ?hg ?ho ?hn ?hr ?_;(case ho => rfl);(case hg => rfl);(case hn => rfl);(case hr => first|(go_simp;done)|(go_simp;rfl));intro w19 hw;have hg : wr.grownBy w19 (some go16):=(by rw [hw];exact HP18.2);have hp_ : Kd.R (Kd.int .i64) 3 w19 w.heap.size (fun _ => True) (.slice (some ⟨go16, 0, none⟩) x5_2.length co16) y222:=(by rw [hw, Ny222.out];exact HP18.1);clear HP18;have n0_:=Aside0.mk (hp_);have n1_:=Aside0.mk (blk_grown (g:=gb215) (o:=.cells #[.slice (some ad219) l0_0.length c0_0, .slice A0_1 l0_1.length c0_1] 74 (0, 0)) (by (with_reducible repeat (first|refine blk_drewN ?_ _|refine blk_drew ?_|refine blk_alloc ?_ _));exact BK215.out) hg (Kd.R_ne HO_5.out BK215.out (by decide)));have n2_:=Aside0.mk ((by rw [hw];exact below_set (HB.out) GB16.out : Below w.heap.size w w19));clear HO_5;clear BK215;clear HB;have HO_5:=n0_;have BK215:=n1_;have HB:=n2_;clear n0_ n1_ n2_;clear hg hw hp_))
              go_roundg k2
              case measure => have := HK1.out; have := HK2.out; omega
              case rel => exact ⟨(y222), (wrap64 (x7_2 + 1)), (by first|rfl|(simp;done)|(simp [*];done)), H', ⟨by have:=HK1.out;have:=HK2.out;omega⟩, ⟨by (with_reducible repeat (first|apply Kd.R_alloc|apply Kd.R_drewN|apply Kd.R_drew));exact HO_5.out⟩, ⟨by (with_reducible repeat (first|refine blk_drewN ?_ _|refine blk_drew ?_|refine blk_alloc ?_ _));exact BK215.out⟩, ⟨by repeat (first|(with_reducible first|exact HB.out|apply below_alloc|apply pw_below_drewN|apply below_drew1|refine below_set ?_ GE215.out)|exact HB.out)⟩⟩
             ·rw [if_neg c15] at H
              exact absurd H (by simp)
            ·rw [if_neg c14] at H
             exact absurd H (by simp)
           ·rw [if_neg c13] at H
            have c13b0 : decide (x7_2 < ((rd_T67 l0_0 x6_1).f2)) = false := decide_eq_false c13
            clear c13
            have H' := Aside0.mk H
            clear H
            have hcz20_0 : wr.cell? ⟨gb215, 0, none⟩ = some (.slice (some ad219) l0_0.length c0_0) := (blk_cell BK215.out 0).trans rfl
            have hcz20_1 : wr.cell? ⟨gb215, 1, none⟩ = some (.slice A0_1 l0_1.length c0_1) := (blk_cell BK215.out 1).trans rfl
            have hfz20_0 := blk_frozen BK215.out 0
            have hfz20_1 := blk_frozen BK215.out 1
            have p220 : 0 ≤ (x6_1 : Int):=of_decide_eq_true (by first|(with_reducible assumption)|assumption)
            have q220 : x6_1 < (l0_0.length : Int):=of_decide_eq_true (by first|(with_reducible assumption)|assumption)
            obtain ⟨ad220, e220, hx220_0, hx220_1, hx220_2⟩ := at_T67 HR0_0.out x6_1 p220 q220
            obtain rfl : ad219 = ad220 := (by injection e220)
            replace hx220_0 := (HB.out.cell (World.block_lt_of_cell? w _ hx220_0)).trans hx220_0
            replace hx220_1 := (HB.out.cell (World.block_lt_of_cell? w _ hx220_1)).trans hx220_1
            replace hx220_2 := (HB.out.cell (World.block_lt_of_cell? w _ hx220_2)).trans hx220_2
            replace p220 := eq_true p220
            replace q220 := eq_true q220
            go_wp2
            go_roundg k2
            case measure => have := HK1.out; have := HK2.out; omega
            case rel => exact ⟨(x5_2), (wrap64 (x6_1 + 1)), (by first|rfl|(simp;done)|(simp [*];done)), H', ⟨by have:=HK1.out;have:=HK2.out;omega⟩, ⟨by (with_reducible repeat (first|apply Kd.R_alloc|apply Kd.R_drewN|apply Kd.R_drew));exact HO_5.out⟩, ⟨by (with_reducible repeat (first|refine blk_drewN ?_ _|refine blk_drew ?_|refine blk_alloc ?_ _));exact BK215.out⟩, ⟨by repeat (first|(with_reducible first|exact HB.out|apply below_alloc|apply pw_below_drewN|apply below_drew1|refine below_set ?_ GE215.out)|exact HB.out)⟩⟩
          ·rw [if_neg c12] at H
           exact absurd H (by simp)
         ·rw [if_neg c11] at H
          exact absurd H (by simp)
      ·rw [if_neg c9] at H
       exact absurd H (by simp)
     ·rw [if_neg c8] at H
      have c8b0 : decide (x6_1 < (l0_0.length : Int)) = false := decide_eq_false c8
      clear c8
      obtain rfl := Option.some.inj H
      have hcz21_0 : wr.cell? ⟨gb215, 0, none⟩ = some (.slice A0_0 l0_0.length c0_0) := (blk_cell BK215.out 0).trans rfl
      have hcz21_1 : wr.cell? ⟨gb215, 1, none⟩ = some (.slice A0_1 l0_1.length c0_1) := (blk_cell BK215.out 1).trans rfl
      have hfz21_0 := blk_frozen BK215.out 0
      have hfz21_1 := blk_frozen BK215.out 1
      go_wp2
      go_ret
      exact ⟨_, by first|rfl|(simp [errW_none, errW_some] <;> rfl)|(simp [*, errW_none, errW_some] <;> rfl), by (with_reducible repeat (first|apply Kd.R_alloc|apply Kd.R_drewN|apply Kd.R_drew));exact HO_5.out, by repeat (first|(with_reducible first|exact HB.out|apply below_alloc|apply pw_below_drewN|apply below_drew1|refine below_set ?_ GE215.out)|exact HB.out)⟩
  ·rw [if_neg c4] at H
   exact absurd H (by simp)
 ·rw [if_neg c3] at H
  exact absurd H (by simp)

/-! ### chancelref04_spans: function 76 -/
def chancelref04_spans.l0 : Nat → List Int → List (S67) → Int → Option ((List (S67)))
 | 0, _, _, _ => none
 | k + 1, x0, x3, x4 => if x4 < (x0.length : Int) then (if 0 ≤ x4 then (if (rd x0 x4) = 0 then (chancelref04_spans.l0 k x0 x3 (wrap64 (x4 + 1))) else (if (x3.length : Int) > 0 then (if 0 ≤ (wrap64 ((x3.length : Int) - 1)) then (if (wrap64 ((x3.length : Int) - 1)) < (x3.length : Int) then (if ((rd_T67 x3 (wrap64 ((x3.length : Int) - 1))).f2) = x4 then (if ((rd_T67 x3 (wrap64 ((x3.length : Int) - 1))).f0) = (rd x0 x4) then (chancelref04_spans.l0 k x0 (x3.set ((wrap64 ((x3.length : Int) - 1)) : Int).toNat (⟨(rd_T67 x3 (wrap64 ((x3.length : Int) - 1))).f0, (rd_T67 x3 (wrap64 ((x3.length : Int) - 1))).f1, wrap64 (x4 + 1)⟩ : S67)) (wrap64 (x4 + 1))) else (if x3.length < 5864062014805 then (chancelref04_spans.l0 k x0 (x3 ++ [(⟨rd x0 x4, x4, wrap64 (x4 + 1)⟩ : S67)]) (wrap64 (x4 + 1))) else (none))) else (if x3.length < 5864062014805 then (chancelref04_spans.l0 k x0 (x3 ++ [(⟨rd x0 x4, x4, wrap64 (x4 + 1)⟩ : S67)]) (wrap64 (x4 + 1))) else (none))) else (none)) else (none)) else (if x3.length < 5864062014805 then (chancelref04_spans.l0 k x0 (x3 ++ [(⟨rd x0 x4, x4, wrap64 (x4 + 1)⟩ : S67)]) (wrap64 (x4 + 1))) else (none)))) else (none)) else (some x3)
def chancelref04_spans.f (k : Nat) (l0 : List Int) : Option ((List (S67))) := chancelref04_spans.l0 k l0 ([] : List (S67)) 0
theorem chancelref04_spans.mono_l : ∀ k, (∀ y0 y1 y2, LeO (chancelref04_spans.l0 k y0 y1 y2) (chancelref04_spans.l0 (k + 1) y0 y1 y2))
 | 0 => fun _ _ _ r h => by simp [chancelref04_spans.l0] at h
 | k + 1 => by
  have ih0 := chancelref04_spans.mono_l k
  ·intro y0 y1 y2
   unfold chancelref04_spans.l0
   repeat' first
   | (with_reducible exact ih0 _ _ _)
   | (with_reducible exact LeO.refl _)
   | (with_reducible exact LeO.none _)
   | (with_reducible refine LeO.ite ?_ ?_)
   | (with_reducible refine LeO.bind ?_ (fun _ => ?_))
   | exact ih0 _ _ _
   | exact LeO.none _
   | refine LeO.ite ?_ ?_
   | refine LeO.bind ?_ (fun _ => ?_)
theorem chancelref04_spans.mono : ∀ a0 k, LeO (chancelref04_spans.f k a0) (chancelref04_spans.f (k + 1) a0) := by
 intro a0 k
 have ih0 := chancelref04_spans.mono_l k
 unfold chancelref04_spans.f
 repeat' first
   | (with_reducible exact ih0 _ _ _)
   | (with_reducible exact LeO.refl _)
   | (with_reducible exact LeO.none _)
   | (with_reducible refine LeO.ite ?_ ?_)
   | (with_reducible refine LeO.bind ?_ (fun _ => ?_))
   | exact ih0 _ _ _
   | exact LeO.none _
   | refine LeO.ite ?_ ?_
   | refine LeO.bind ?_ (fun _ => ?_)
set_option maxHeartbeats 8000000 in
set_option maxRecDepth 100000 in
theorem chancelref04_spans.calls (k : Nat) (A0 : Option Addr) (c0 : Nat) (l0 : List Int) (r : List (S67)) (w : World) (hr0 : Kd.C (Kd.int .i64) w A0 l0.length l0) (hc0 : l0.length ≤ c0) (h : chancelref04_spans.f k l0 = some r) :
  Calls Tryd.prog 76 #[.slice A0 l0.length c0] w fun e w' => ∃ v0_ : Value, e = .returned (v0_) ∧ Kd.R k67 67 w' w.heap.size (fun _ => True) v0_ r ∧ Below w.heap.size w w' := by
 have hu67 := Tryd.underlying67
 have HR0 := Aside0.mk hr0
 have HC0 := Aside0.mk hc0
 clear hr0 hc0
 have HB := Aside0.mk (Below.refl w.heap.size w)
 have H : (chancelref04_spans.l0 k l0 ([] : List (S67)) 0) = some r := h
 clear h
 have H' := Aside0.mk H
 clear H
 go_enter Tryd.func76, Tryd.ntmps76
 go_wp2
 repeat (go_quiet (fail); try go_wp2)
 go_loopg [3, 4] k (fun kq v3 v4 w' => ∃ (x3_1 : List (S67)) (x4_1 : Int), v4 = .int .i64 x4_1 ∧ Aside0 (chancelref04_spans.l0 kq l0 x3_1 x4_1 = some r) ∧ Aside0 (kq ≤ k) ∧ Aside0 (Kd.R k67 67 w' w.heap.size (fun _ => True) v3 x3_1) ∧ Aside0 (Below w.heap.size w w'))
 case atStart => exact ⟨(([] : List (S67))), (0), (by first|rfl|(simp;done)|(simp [*];done)), H', ⟨Nat.le_refl _⟩, ⟨by first|exact Kd.R_nil _ _ _ _ _|exact Kd.N_nil _ _ _ _ _|exact Kd.V_nil _ _ _ _ _|exact Kd.Q_nil _ _ _ _ _|exact Kd.S_nil _ _ _ _ _⟩, ⟨by repeat (first|(with_reducible first|exact HB.out|apply below_alloc|apply pw_below_drewN|apply below_drew1)|exact HB.out)⟩⟩
 case round =>
  clear H'
  obtain ⟨x3_1, x4_1, rfl, HA, HK1, HO_3, HB⟩ := hrel
  cases gk with
  | zero => exact absurd HA.out (by simp [chancelref04_spans.l0])
  | succ k1 =>
   have H := HA.out
   clear HA
   simp only [chancelref04_spans.l0] at H
   by_cases c2 : x4_1 < (l0.length : Int)
   ·rw [if_pos c2] at H
    have c2b0 : decide (x4_1 < (l0.length : Int)) = true := decide_eq_true c2
    clear c2
    by_cases c3 : 0 ≤ x4_1
    ·rw [if_pos c3] at H
     have c3b0 : decide (0 ≤ x4_1) = true := decide_eq_true c3
     clear c3
     by_cases c4 : (rd l0 x4_1) = 0
     ·rw [if_pos c4] at H
      have c4b0 : ((rd l0 x4_1) == 0) = true := beq_iff_eq.mpr c4
      have c4b1 : ((rd l0 x4_1) != 0) = false := bne_eq_false_iff_eq.mpr c4
      clear c4
      have H' := Aside0.mk H
      clear H
      have p223 : 0 ≤ (x4_1 : Int):=of_decide_eq_true (by first|(with_reducible assumption)|assumption)
      have q223 : x4_1 < (l0.length : Int):=of_decide_eq_true (by first|(with_reducible assumption)|assumption)
      obtain ⟨ad223, e223, hx223_0⟩ := Kd.at_int HR0.out x4_1 p223 q223
      cases e223
      replace hx223_0 := (HB.out.cell (World.block_lt_of_cell? w _ hx223_0)).trans hx223_0
      replace p223 := eq_true p223
      replace q223 := eq_true q223
      go_wp2
      repeat (go_quiet (fail); try go_wp2)
      go_roundg k1
      case measure => have := HK1.out; omega
      case rel => exact ⟨(x3_1), (wrap64 (x4_1 + 1)), (by first|rfl|(simp;done)|(simp [*];done)), H', ⟨by have:=HK1.out;omega⟩, ⟨by (with_reducible repeat (first|apply Kd.R_alloc|apply Kd.R_drewN|apply Kd.R_drew));exact HO_3.out⟩, ⟨by repeat (first|(with_reducible first|exact HB.out|apply below_alloc|apply pw_below_drewN|apply below_drew1)|exact HB.out)⟩⟩
     ·rw [if_neg c4] at H
      have c4b0 : ((rd l0 x4_1) == 0) = false := beq_eq_false_iff_ne.mpr c4
      have c4b1 : ((rd l0 x4_1) != 0) = true := bne_iff_ne.mpr c4
      by_cases c5 : (x3_1.length : Int) > 0
      ·rw [if_pos c5] at H
       have c5b0 : decide (0 < (x3_1.length : Int)) = true := decide_eq_true c5
       have c5b1 : decide (0 < x3_1.length) = true := decide_eq_true (by omega)
       clear c5
       obtain ⟨ji6, hji6⟩ : ∃ j_ : Int, (wrap64 ((x3_1.length : Int) - 1)) = j_ := ⟨_, rfl⟩
       replace H : (if 0 ≤ (ji6) then (if (ji6) < (x3_1.length : Int) then (if ((rd_T67 x3_1 (ji6)).f2) = x4_1 then (if ((rd_T67 x3_1 (ji6)).f0) = (rd l0 x4_1) then (chancelref04_spans.l0 k1 l0 (x3_1.set ((ji6) : Int).toNat (⟨(rd_T67 x3_1 (ji6)).f0, (rd_T67 x3_1 (ji6)).f1, wrap64 (x4_1 + 1)⟩ : S67)) (wrap64 (x4_1 + 1))) else (if x3_1.length < 5864062014805 then (chancelref04_spans.l0 k1 l0 (x3_1 ++ [(⟨rd l0 x4_1, x4_1, wrap64 (x4_1 + 1)⟩ : S67)]) (wrap64 (x4_1 + 1))) else (none))) else (if x3_1.length < 5864062014805 then (chancelref04_spans.l0 k1 l0 (x3_1 ++ [(⟨rd l0 x4_1, x4_1, wrap64 (x4_1 + 1)⟩ : S67)]) (wrap64 (x4_1 + 1))) else (none))) else (none)) else (none)) = some r := by first | (rw [hji6] at H; exact H) | (simp only [hji6] at H ⊢; exact H)
       have hji6w : (IntKind.i64.wrap ((x3_1.length : Int) - 1)) = ji6 := (i64_w _).trans hji6
       by_cases c7 : 0 ≤ (ji6)
       ·rw [if_pos c7] at H
        have c7b0 : decide (0 ≤ (ji6)) = true := decide_eq_true c7
        clear c7
        by_cases c8 : (ji6) < (x3_1.length : Int)
        ·rw [if_pos c8] at H
         have c8b0 : decide ((ji6) < (x3_1.length : Int)) = true := decide_eq_true c8
         clear c8
         by_cases c9 : ((rd_T67 x3_1 (ji6)).f2) = x4_1
         ·rw [if_pos c9] at H
          have c9b0 : (((rd_T67 x3_1 (ji6)).f2) == x4_1) = true := beq_iff_eq.mpr c9
          have c9b1 : (((rd_T67 x3_1 (ji6)).f2) != x4_1) = false := bne_eq_false_iff_eq.mpr c9
          clear c9
          by_cases c10 : ((rd_T67 x3_1 (ji6)).f0) = (rd l0 x4_1)
          ·rw [if_pos c10] at H
           have c10b0 : (((rd_T67 x3_1 (ji6)).f0) == (rd l0 x4_1)) = true := beq_iff_eq.mpr c10
           have c10b1 : (((rd_T67 x3_1 (ji6)).f0) != (rd l0 x4_1)) = false := bne_eq_false_iff_eq.mpr c10
           clear c10
           obtain ⟨y227, hy227⟩ : ∃ y_ : List (S67), y_ = (x3_1.set ((ji6) : Int).toNat (⟨(rd_T67 x3_1 (ji6)).f0, (rd_T67 x3_1 (ji6)).f1, wrap64 (x4_1 + 1)⟩ : S67)) := ⟨_, rfl⟩
           replace H : (chancelref04_spans.l0 k1 l0 y227 (wrap64 (x4_1 + 1))) = some r:=by first|(rw [hy227];with_reducible exact H)|(have H2_:=(Option.bind_some _ _).symm.trans H;rw [hy227];with_reducible exact H2_)|(have H2_:=(Option.bind_some _ _).symm.trans H;with_reducible exact H2_)|with_reducible exact H|(rw [hy227];exact H)|exact H
           have Ny227 := Aside0.mk hy227
           clear hy227
           have H' := Aside0.mk H
           clear H
           have p223 : 0 ≤ (x4_1 : Int):=of_decide_eq_true (by first|(with_reducible assumption)|assumption)
           have q223 : x4_1 < (l0.length : Int):=of_decide_eq_true (by first|(with_reducible assumption)|assumption)
           obtain ⟨ad223, e223, hx223_0⟩ := Kd.at_int HR0.out x4_1 p223 q223
           cases e223
           replace hx223_0 := (HB.out.cell (World.block_lt_of_cell? w _ hx223_0)).trans hx223_0
           replace p223 := eq_true p223
           replace q223 := eq_true q223
           obtain ⟨Ao12, co12, eo12⟩ := Kd.R_slice HO_3.out
           subst eo12
           have p224 : 0 ≤ ((ji6) : Int):=of_decide_eq_true (by first|(with_reducible assumption)|assumption)
           have q224 : (ji6) < (x3_1.length : Int):=of_decide_eq_true (by first|(with_reducible assumption)|assumption)
           obtain ⟨ad224, e224, hx224_0, hx224_1, hx224_2⟩ := at_T67 (Kd.R_reads' HO_3.out).2.2 (ji6) p224 q224
           cases e224
           replace p224 := eq_true p224
           replace q224 := eq_true q224
           have p225 : 0 ≤ ((ji6) : Int):=of_decide_eq_true (by first|(with_reducible assumption)|assumption)
           have q225 : (ji6) < (x3_1.length : Int):=of_decide_eq_true (by first|(with_reducible assumption)|assumption)
           obtain ⟨ad225, e225, hx225_0, hx225_1, hx225_2⟩ := at_T67 (Kd.R_reads' HO_3.out).2.2 (ji6) p225 q225
           obtain rfl : ad224 = ad225 := (by injection e225)
           replace p225 := eq_true p225
           replace q225 := eq_true q225
           have p226 : 0 ≤ (x4_1 : Int):=of_decide_eq_true (by first|(with_reducible assumption)|assumption)
           have q226 : x4_1 < (l0.length : Int):=of_decide_eq_true (by first|(with_reducible assumption)|assumption)
           obtain ⟨ad226, e226, hx226_0⟩ := Kd.at_int HR0.out x4_1 p226 q226
           obtain rfl : ad223 = ad226 := (by injection e226)
           replace hx226_0 := (HB.out.cell (World.block_lt_of_cell? w _ hx226_0)).trans hx226_0
           replace p226 := eq_true p226
           replace q226 := eq_true q226
           have p11 : 0 ≤ ((ji6) : Int):=of_decide_eq_true (by first|(with_reducible assumption)|assumption)
           have q11 : ((ji6) : Int) < ((x3_1.length : Int) : Int):=of_decide_eq_true (by first|(with_reducible assumption)|assumption)
           obtain ⟨go11, co11, eo11, gb11, gl11, cl11, HG11⟩ := Kd.R_form HO_3.out (by omega)
           (first | cases eo11 | (injection eo11 with ea_ en_ ec_; (first | subst ea_ | (injection ea_ with ea_; subst ea_)); subst ec_; clear en_))
           have GB11 := Aside0.mk gb11
           have GG11 := Aside0.mk HG11
           clear gb11 gl11 HG11
           (first | simp only [add_plain] at hx224_0 | skip)
           (first | simp only [add_plain] at hx224_1 | skip)
           (first | simp only [add_plain] at hx224_2 | skip)
           (first | simp only [add_plain] at hx225_0 | skip)
           (first | simp only [add_plain] at hx225_1 | skip)
           (first | simp only [add_plain] at hx225_2 | skip)
           obtain ⟨ce11, hcl11, hM11, hcc11, hfr11⟩ := Kd.R_elem HO_3.out z67 ((ji6) : Int) p11 q11
           obtain rfl := k67_openM hM11
           have hx11_0 : wr.cell? ⟨go11, ((ji6) : Int).toNat * 3, none⟩ = some (.int .i64 ((rd_T67 x3_1 (ji6)).f0)) := hcc11 0 _ rfl
           have hx11_1 : wr.cell? ⟨go11, ((ji6) : Int).toNat * 3 + 1, none⟩ = some (.int .i64 ((rd_T67 x3_1 (ji6)).f1)) := hcc11 1 _ rfl
           have hx11_2 : wr.cell? ⟨go11, ((ji6) : Int).toNat * 3 + 2, none⟩ = some (.int .i64 ((rd_T67 x3_1 (ji6)).f2)) := hcc11 2 _ rfl
           have hf11_0 : wr.frozen? ⟨go11, ((ji6) : Int).toNat * 3, none⟩ = false := hfr11 0
           have hf11_1 : wr.frozen? ⟨go11, ((ji6) : Int).toNat * 3 + 1, none⟩ = false := hfr11 1
           have hf11_2 : wr.frozen? ⟨go11, ((ji6) : Int).toNat * 3 + 2, none⟩ = false := hfr11 2
           clear hcl11 hcc11 hfr11 hM11
           replace p11 := eq_true p11
           replace q11 := eq_true q11
           have HX13:=Aside0.mk (show Kd.R k67 67 wr w.heap.size (fun _ => True) (.slice (some ⟨go11, 0, none⟩) x3_1.length co12) x3_1 from (by (with_reducible repeat (first|apply Kd.R_alloc|apply Kd.R_drewN|apply Kd.R_drew));exact HO_3.out))
           obtain ⟨ce13, hcl13, hM13, hcc13, hfr13⟩:=Kd.R_elem HX13.out z67 ((ji6) : Int) (of_decide_eq_true (by first|(with_reducible assumption)|assumption)) (by have h_ : ((ji6) : Int) < ((x3_1.length : Int) : Int):=of_decide_eq_true (by first|(with_reducible assumption)|assumption);first|exact h_|(have e_:=(Kd.R_reads' HO_3.out).1;omega)|simpa using h_)
           obtain rfl := k67_openM hM13
           have HP13:=Kd.R_seg HX13.out ((ji6) : Int) (of_decide_eq_true (by first|(with_reducible assumption)|assumption)) (by have h_ : ((ji6) : Int) < ((x3_1.length : Int) : Int):=of_decide_eq_true (by first|(with_reducible assumption)|assumption);first|exact h_|(have e_:=(Kd.R_reads' HO_3.out).1;omega)|simpa using h_) (seg:=[.int .i64 (wrap64 (x4_1 + 1))]) (j:=2) hcl13 hcc13 (show 3 ≤ 3 from by decide) (x':=(⟨(rd_T67 x3_1 (ji6)).f0, (rd_T67 x3_1 (ji6)).f1, wrap64 (x4_1 + 1)⟩ : S67)) (k67_mkM _ _ _ (⟨(rd_T67 x3_1 (ji6)).f0, (rd_T67 x3_1 (ji6)).f1, wrap64 (x4_1 + 1)⟩ : S67) ) (fun _ hk => hk)
           have hx13_2 := hcc13 2 _ rfl
           (try simp only [show (k67).sz = 3 from rfl, Nat.mul_one, Nat.add_zero] at hx13_2)
           have hf13_2 := hfr13 2
           (try simp only [show (k67).sz = 3 from rfl, Nat.mul_one, Nat.add_zero] at hf13_2)
           clear hcl13 hcc13 hfr13 hM13
           go_wp2_with (first|((with_reducible refine gate_store (t:=3) (p:=64) rfl ?_);(try (rw [drewN_self wr];generalize hq_ : World.drewN wr _ = wr;have n0_:=Aside0.mk (Kd.R_at hq_ HO_3.out);have n1_:=Aside0.mk (below_at hq_ HB.out);clear hq_ HO_3 HB;have HO_3:=n0_;have HB:=n1_;clear n0_ n1_;(try (have HX13:=Aside0.mk (show Kd.R k67 67 wr w.heap.size (fun _ => True) (.slice (some ⟨go11, 0, none⟩) x3_1.length co12) x3_1 from (by (with_reducible repeat (first|apply Kd.R_alloc|apply Kd.R_drewN|apply Kd.R_drew));exact HO_3.out))));(try (obtain ⟨ce13, hcl13, hM13, hcc13, hfr13⟩:=Kd.R_elem HX13.out z67 ((ji6) : Int) (of_decide_eq_true (by first|(with_reducible assumption)|assumption)) (by have h_ : ((ji6) : Int) < ((x3_1.length : Int) : Int):=of_decide_eq_true (by first|(with_reducible assumption)|assumption);first|exact h_|(have e_:=(Kd.R_reads' HO_3.out).1;omega)|simpa using h_)));(try (obtain rfl:=k67_openM hM13));(try (have HP13:=Kd.R_seg HX13.out ((ji6) : Int) (of_decide_eq_true (by first|(with_reducible assumption)|assumption)) (by have h_ : ((ji6) : Int) < ((x3_1.length : Int) : Int):=of_decide_eq_true (by first|(with_reducible assumption)|assumption);first|exact h_|(have e_:=(Kd.R_reads' HO_3.out).1;omega)|simpa using h_) (seg:=[.int .i64 (wrap64 (x4_1 + 1))]) (j:=2) hcl13 hcc13 (show 3 ≤ 3 from by decide) (x':=(⟨(rd_T67 x3_1 (ji6)).f0, (rd_T67 x3_1 (ji6)).f1, wrap64 (x4_1 + 1)⟩ : S67)) (k67_mkM _ _ _ (⟨(rd_T67 x3_1 (ji6)).f0, (rd_T67 x3_1 (ji6)).f1, wrap64 (x4_1 + 1)⟩ : S67) ) (fun _ hk => hk)));(try (have hx13_2:=hcc13 2 _ rfl));(try (try simp only [show (k67).sz = 3 from rfl, Nat.mul_one, Nat.add_zero] at hx13_2));(try (have hf13_2:=hfr13 2));(try (try simp only [show (k67).sz = 3 from rfl, Nat.mul_one, Nat.add_zero] at hf13_2));(try (clear hcl13 hcc13 hfr13 hM13))));refine store_event (t:=3) (p:=64) (v:=?vo_w14) (w1:=(wr.setCell ⟨go11, ((ji6) : Int).toNat * 3 + 2, none⟩ (.int .i64 (wrap64 (x4_1 + 1))))) ?hg ?ho ?hn ?hr ?_;(case ho => rfl);(case hg => rfl);(case hn => rfl);(case hr => first|(go_simp;done)|(go_simp;rfl));intro w14 hw;have hg : wr.grownBy w14 (some go11):=(by rw [hw];exact HP13.2);have hp_ : Kd.R k67 67 w14 w.heap.size (fun _ => True) (.slice (some ⟨go11, 0, none⟩) x3_1.length co12) y227:=(by rw [hw, Ny227.out];exact HP13.1);clear HP13;have n0_:=Aside0.mk (hp_);have n1_:=Aside0.mk ((by rw [hw];exact below_set (HB.out) GB11.out : Below w.heap.size w w14));clear HO_3;clear HB;have HO_3:=n0_;have HB:=n1_;clear n0_ n1_;clear hg hw hp_))
           repeat (go_quiet (first|((with_reducible refine gate_store (t:=3) (p:=64) rfl ?_);(try (rw [drewN_self wr];generalize hq_ : World.drewN wr _ = wr;have n0_:=Aside0.mk (Kd.R_at hq_ HO_3.out);have n1_:=Aside0.mk (below_at hq_ HB.out);clear hq_ HO_3 HB;have HO_3:=n0_;have HB:=n1_;clear n0_ n1_;(try (have HX13:=Aside0.mk (show Kd.R k67 67 wr w.heap.size (fun _ => True) (.slice (some ⟨go11, 0, none⟩) x3_1.length co12) x3_1 from (by (with_reducible repeat (first|apply Kd.R_alloc|apply Kd.R_drewN|apply Kd.R_drew));exact HO_3.out))));(try (obtain ⟨ce13, hcl13, hM13, hcc13, hfr13⟩:=Kd.R_elem HX13.out z67 ((ji6) : Int) (of_decide_eq_true (by first|(with_reducible assumption)|assumption)) (by have h_ : ((ji6) : Int) < ((x3_1.length : Int) : Int):=of_decide_eq_true (by first|(with_reducible assumption)|assumption);first|exact h_|(have e_:=(Kd.R_reads' HO_3.out).1;omega)|simpa using h_)));(try (obtain rfl:=k67_openM hM13));(try (have HP13:=Kd.R_seg HX13.out ((ji6) : Int) (of_decide_eq_true (by first|(with_reducible assumption)|assumption)) (by have h_ : ((ji6) : Int) < ((x3_1.length : Int) : Int):=of_decide_eq_true (by first|(with_reducible assumption)|assumption);first|exact h_|(have e_:=(Kd.R_reads' HO_3.out).1;omega)|simpa using h_) (seg:=[.int .i64 (wrap64 (x4_1 + 1))]) (j:=2) hcl13 hcc13 (show 3 ≤ 3 from by decide) (x':=(⟨(rd_T67 x3_1 (ji6)).f0, (rd_T67 x3_1 (ji6)).f1, wrap64 (x4_1 + 1)⟩ : S67)) (k67_mkM _ _ _ (⟨(rd_T67 x3_1 (ji6)).f0, (rd_T67 x3_1 (ji6)).f1, wrap64 (x4_1 + 1)⟩ : S67) ) (fun _ hk => hk)));(try (have hx13_2:=hcc13 2 _ rfl));(try (try simp only [show (k67).sz = 3 from rfl, Nat.mul_one, Nat.add_zero] at hx13_2));(try (have hf13_2:=hfr13 2));(try (try simp only [show (k67).sz = 3 from rfl, Nat.mul_one, Nat.add_zero] at hf13_2));(try (clear hcl13 hcc13 hfr13 hM13))));refine store_event (t:=3) (p:=64) (v:=?vo_w14) (w1:=(wr.setCell ⟨go11, ((ji6) : Int).toNat * 3 + 2, none⟩ (.int .i64 (wrap64 (x4_1 + 1))))) ?hg ?ho ?hn ?hr ?_;(case ho => rfl);(case hg => rfl);(case hn => rfl);(case hr => first|(go_simp;done)|(go_simp;rfl));intro w14 hw;have hg : wr.grownBy w14 (some go11):=(by rw [hw];exact HP13.2);have hp_ : Kd.R k67 67 w14 w.heap.size (fun _ => True) (.slice (some ⟨go11, 0, none⟩) x3_1.length co12) y227:=(by rw [hw, Ny227.out];exact HP13.1);clear HP13;have n0_:=Aside0.mk (hp_);have n1_:=Aside0.mk ((by rw [hw];exact below_set (HB.out) GB11.out : Below w.heap.size w w14));clear HO_3;clear HB;have HO_3:=n0_;have HB:=n1_;clear n0_ n1_;clear hg hw hp_));try go_wp2_with (first|((with_reducible refine gate_store (t:=3) (p:=64) rfl ?_);(try (rw [drewN_self wr];generalize hq_ : World.drewN wr _ = wr;have n0_:=Aside0.mk (Kd.R_at hq_ HO_3.out);have n1_:=Aside0.mk (below_at hq_ HB.out);clear hq_ HO_3 HB;have HO_3:=n0_;have HB:=n1_;clear n0_ n1_;(try (have HX13:=Aside0.mk (show Kd.R k67 67 wr w.heap.size (fun _ => True) (.slice (some ⟨go11, 0, none⟩) x3_1.length co12) x3_1 from (by (with_reducible repeat (first|apply Kd.R_alloc|apply Kd.R_drewN|apply Kd.R_drew));exact HO_3.out))));(try (obtain ⟨ce13, hcl13, hM13, hcc13, hfr13⟩:=Kd.R_elem HX13.out z67 ((ji6) : Int) (of_decide_eq_true (by first|(with_reducible assumption)|assumption)) (by have h_ : ((ji6) : Int) < ((x3_1.length : Int) : Int):=of_decide_eq_true (by first|(with_reducible assumption)|assumption);first|exact h_|(have e_:=(Kd.R_reads' HO_3.out).1;omega)|simpa using h_)));(try (obtain rfl:=k67_openM hM13));(try (have HP13:=Kd.R_seg HX13.out ((ji6) : Int) (of_decide_eq_true (by first|(with_reducible assumption)|assumption)) (by have h_ : ((ji6) : Int) < ((x3_1.length : Int) : Int):=of_decide_eq_true (by first|(with_reducible assumption)|assumption);first|exact h_|(have e_:=(Kd.R_reads' HO_3.out).1;omega)|simpa using h_) (seg:=[.int .i64 (wrap64 (x4_1 + 1))]) (j:=2) hcl13 hcc13 (show 3 ≤ 3 from by decide) (x':=(⟨(rd_T67 x3_1 (ji6)).f0, (rd_T67 x3_1 (ji6)).f1, wrap64 (x4_1 + 1)⟩ : S67)) (k67_mkM _ _ _ (⟨(rd_T67 x3_1 (ji6)).f0, (rd_T67 x3_1 (ji6)).f1, wrap64 (x4_1 + 1)⟩ : S67) ) (fun _ hk => hk)));(try (have hx13_2:=hcc13 2 _ rfl));(try (try simp only [show (k67).sz = 3 from rfl, Nat.mul_one, Nat.add_zero] at hx13_2));(try (have hf13_2:=hfr13 2));(try (try simp only [show (k67).sz = 3 from rfl, Nat.mul_one, Nat.add_zero] at hf13_2));(try (clear hcl13 hcc13 hfr13 hM13))));refine store_event (t:=3) (p:=64) (v:=?vo_w14) (w1:=(wr.setCell ⟨go11, ((ji6) : Int).toNat * 3 + 2, none⟩ (.int .i64 (wrap64 (x4_1 + 1))))) ?hg ?ho ?hn ?hr ?_;(case ho => rfl);(case hg => rfl);(case hn => rfl);(case hr => first|(go_simp;done)|(go_simp;rfl));intro w14 hw;have hg : wr.grownBy w14 (some go11):=(by rw [hw];exact HP13.2);have hp_ : Kd.R k67 67 w14 w.heap.size (fun _ => True) (.slice (some ⟨go11, 0, none⟩) x3_1.length co12) y227:=(by rw [hw, Ny227.out];exact HP13.1);clear HP13;have n0_:=Aside0.mk (hp_);have n1_:=Aside0.mk ((by rw [hw];exact below_set (HB.out) GB11.out : Below w.heap.size w w14));clear HO_3;clear HB;have HO_3:=n0_;have HB:=n1_;clear n0_ n1_;clear hg hw hp_)))
           go_roundg k1
           case measure => have := HK1.out; omega
           case rel => exact ⟨(y227), (wrap64 (x4_1 + 1)), (by first|rfl|(simp;done)|(simp [*];done)), H', ⟨by have:=HK1.out;omega⟩, ⟨by (with_reducible repeat (first|apply Kd.R_alloc|apply Kd.R_drewN|apply Kd.R_drew));exact HO_3.out⟩, ⟨by repeat (first|(with_reducible first|exact HB.out|apply below_alloc|apply pw_below_drewN|apply below_drew1)|exact HB.out)⟩⟩
          ·rw [if_neg c10] at H
           have c10b0 : (((rd_T67 x3_1 (ji6)).f0) == (rd l0 x4_1)) = false := beq_eq_false_iff_ne.mpr c10
           have c10b1 : (((rd_T67 x3_1 (ji6)).f0) != (rd l0 x4_1)) = true := bne_iff_ne.mpr c10
           by_cases c15 : x3_1.length < 5864062014805
           ·rw [if_pos c15] at H
            have LMc15 := Aside0.mk c15
            clear c15
            obtain ⟨y229, hy229⟩ : ∃ y_ : List (S67), y_ = (x3_1 ++ [(⟨rd l0 x4_1, x4_1, wrap64 (x4_1 + 1)⟩ : S67)]) := ⟨_, rfl⟩
            replace H : (chancelref04_spans.l0 k1 l0 y229 (wrap64 (x4_1 + 1))) = some r:=by first|(rw [hy229];with_reducible exact H)|(have H2_:=(Option.bind_some _ _).symm.trans H;rw [hy229];with_reducible exact H2_)|(have H2_:=(Option.bind_some _ _).symm.trans H;with_reducible exact H2_)|with_reducible exact H|(rw [hy229];exact H)|exact H
            have Ny229 := Aside0.mk hy229
            clear hy229
            have H' := Aside0.mk H
            clear H
            have p223 : 0 ≤ (x4_1 : Int):=of_decide_eq_true (by first|(with_reducible assumption)|assumption)
            have q223 : x4_1 < (l0.length : Int):=of_decide_eq_true (by first|(with_reducible assumption)|assumption)
            obtain ⟨ad223, e223, hx223_0⟩ := Kd.at_int HR0.out x4_1 p223 q223
            cases e223
            replace hx223_0 := (HB.out.cell (World.block_lt_of_cell? w _ hx223_0)).trans hx223_0
            replace p223 := eq_true p223
            replace q223 := eq_true q223
            obtain ⟨Ao16, co16, eo16⟩ := Kd.R_slice HO_3.out
            subst eo16
            have p224 : 0 ≤ ((ji6) : Int):=of_decide_eq_true (by first|(with_reducible assumption)|assumption)
            have q224 : (ji6) < (x3_1.length : Int):=of_decide_eq_true (by first|(with_reducible assumption)|assumption)
            obtain ⟨ad224, e224, hx224_0, hx224_1, hx224_2⟩ := at_T67 (Kd.R_reads' HO_3.out).2.2 (ji6) p224 q224
            cases e224
            replace p224 := eq_true p224
            replace q224 := eq_true q224
            have p225 : 0 ≤ ((ji6) : Int):=of_decide_eq_true (by first|(with_reducible assumption)|assumption)
            have q225 : (ji6) < (x3_1.length : Int):=of_decide_eq_true (by first|(with_reducible assumption)|assumption)
            obtain ⟨ad225, e225, hx225_0, hx225_1, hx225_2⟩ := at_T67 (Kd.R_reads' HO_3.out).2.2 (ji6) p225 q225
            obtain rfl : ad224 = ad225 := (by injection e225)
            replace p225 := eq_true p225
            replace q225 := eq_true q225
            have p226 : 0 ≤ (x4_1 : Int):=of_decide_eq_true (by first|(with_reducible assumption)|assumption)
            have q226 : x4_1 < (l0.length : Int):=of_decide_eq_true (by first|(with_reducible assumption)|assumption)
            obtain ⟨ad226, e226, hx226_0⟩ := Kd.at_int HR0.out x4_1 p226 q226
            obtain rfl : ad223 = ad226 := (by injection e226)
            replace hx226_0 := (HB.out.cell (World.block_lt_of_cell? w _ hx226_0)).trans hx226_0
            replace p226 := eq_true p226
            replace q226 := eq_true q226
            have p228 : 0 ≤ (x4_1 : Int):=of_decide_eq_true (by first|(with_reducible assumption)|assumption)
            have q228 : x4_1 < (l0.length : Int):=of_decide_eq_true (by first|(with_reducible assumption)|assumption)
            obtain ⟨ad228, e228, hx228_0⟩ := Kd.at_int HR0.out x4_1 p228 q228
            obtain rfl : ad223 = ad228 := (by injection e228)
            replace hx228_0 := (HB.out.cell (World.block_lt_of_cell? w _ hx228_0)).trans hx228_0
            replace p228 := eq_true p228
            replace q228 := eq_true q228
            go_wp2_with (first|((with_reducible refine gate_builtin (b:=.append) (xs:=#[.tmp 11, .tmp 20]) rfl ?_);(try (refine gate_guard (by rfl) ?_;dsimp only));at_builtin;refine Kd.R_append k67 (w0:=w) w.heap.size rfl (.tmp 11) (.tmp 20) 22 67 (.agg #[(.int .i64 0), (.int .i64 0), (.int .i64 0)]) 24 rfl Tryd.underlying22 info67 rfl (by decide) (by omega) (.slice (some ad224) x3_1.length co16) x3_1 (⟨rd l0 x4_1, x4_1, wrap64 (x4_1 + 1)⟩ : S67) [.int .i64 (rd l0 x4_1), .int .i64 x4_1, .int .i64 (wrap64 (x4_1 + 1))] (fun _ => True) (fun _ => False) rfl rfl ?aP (fun _ hk => hk.elim) ?aF ?aO ?aB ?aS ?aL ?_;(case aP => exact k67_mkM _ _ _ (⟨rd l0 x4_1, x4_1, wrap64 (x4_1 + 1)⟩ : S67));(case aB => exact (by repeat (first|(with_reducible first|exact HB.out|apply below_alloc|apply pw_below_drewN|apply below_drew1)|exact HB.out)));(case aF => exact (fun _ _ => trivial));(case aO => exact (by (with_reducible repeat (first|apply Kd.R_alloc|apply Kd.R_drewN|apply Kd.R_drew));exact HO_3.out));(case aS => exact (below_size (by repeat (first|(with_reducible first|exact HB.out|apply below_alloc|apply pw_below_drewN|apply below_drew1)|exact HB.out))));(case aL => have:=LMc15.out;omega);intro v230 w17 ho hb hg hat;rw [← Ny229.out] at ho;have n0_:=Aside0.mk (hb);have n1_:=Aside0.mk (ho);clear HB;clear HO_3;have HB:=n0_;have HO231:=n1_;clear n0_ n1_;clear ho hb hg hat))
            repeat (go_quiet (first|((with_reducible refine gate_builtin (b:=.append) (xs:=#[.tmp 11, .tmp 20]) rfl ?_);(try (refine gate_guard (by rfl) ?_;dsimp only));at_builtin;refine Kd.R_append k67 (w0:=w) w.heap.size rfl (.tmp 11) (.tmp 20) 22 67 (.agg #[(.int .i64 0), (.int .i64 0), (.int .i64 0)]) 24 rfl Tryd.underlying22 info67 rfl (by decide) (by omega) (.slice (some ad224) x3_1.length co16) x3_1 (⟨rd l0 x4_1, x4_1, wrap64 (x4_1 + 1)⟩ : S67) [.int .i64 (rd l0 x4_1), .int .i64 x4_1, .int .i64 (wrap64 (x4_1 + 1))] (fun _ => True) (fun _ => False) rfl rfl ?aP (fun _ hk => hk.elim) ?aF ?aO ?aB ?aS ?aL ?_;(case aP => exact k67_mkM _ _ _ (⟨rd l0 x4_1, x4_1, wrap64 (x4_1 + 1)⟩ : S67));(case aB => exact (by repeat (first|(with_reducible first|exact HB.out|apply below_alloc|apply pw_below_drewN|apply below_drew1)|exact HB.out)));(case aF => exact (fun _ _ => trivial));(case aO => exact (by (with_reducible repeat (first|apply Kd.R_alloc|apply Kd.R_drewN|apply Kd.R_drew));exact HO_3.out));(case aS => exact (below_size (by repeat (first|(with_reducible first|exact HB.out|apply below_alloc|apply pw_below_drewN|apply below_drew1)|exact HB.out))));(case aL => have:=LMc15.out;omega);intro v230 w17 ho hb hg hat;rw [← Ny229.out] at ho;have n0_:=Aside0.mk (hb);have n1_:=Aside0.mk (ho);clear HB;clear HO_3;have HB:=n0_;have HO231:=n1_;clear n0_ n1_;clear ho hb hg hat));try go_wp2_with (first|((with_reducible refine gate_builtin (b:=.append) (xs:=#[.tmp 11, .tmp 20]) rfl ?_);(try (refine gate_guard (by rfl) ?_;dsimp only));at_builtin;refine Kd.R_append k67 (w0:=w) w.heap.size rfl (.tmp 11) (.tmp 20) 22 67 (.agg #[(.int .i64 0), (.int .i64 0), (.int .i64 0)]) 24 rfl Tryd.underlying22 info67 rfl (by decide) (by omega) (.slice (some ad224) x3_1.length co16) x3_1 (⟨rd l0 x4_1, x4_1, wrap64 (x4_1 + 1)⟩ : S67) [.int .i64 (rd l0 x4_1), .int .i64 x4_1, .int .i64 (wrap64 (x4_1 + 1))] (fun _ => True) (fun _ => False) rfl rfl ?aP (fun _ hk => hk.elim) ?aF ?aO ?aB ?aS ?aL ?_;(case aP => exact k67_mkM _ _ _ (⟨rd l0 x4_1, x4_1, wrap64 (x4_1 + 1)⟩ : S67));(case aB => exact (by repeat (first|(with_reducible first|exact HB.out|apply below_alloc|apply pw_below_drewN|apply below_drew1)|exact HB.out)));(case aF => exact (fun _ _ => trivial));(case aO => exact (by (with_reducible repeat (first|apply Kd.R_alloc|apply Kd.R_drewN|apply Kd.R_drew));exact HO_3.out));(case aS => exact (below_size (by repeat (first|(with_reducible first|exact HB.out|apply below_alloc|apply pw_below_drewN|apply below_drew1)|exact HB.out))));(case aL => have:=LMc15.out;omega);intro v230 w17 ho hb hg hat;rw [← Ny229.out] at ho;have n0_:=Aside0.mk (hb);have n1_:=Aside0.mk (ho);clear HB;clear HO_3;have HB:=n0_;have HO231:=n1_;clear n0_ n1_;clear ho hb hg hat)))
            go_roundg k1
            case measure => have := HK1.out; omega
            case rel => exact ⟨(y229), (wrap64 (x4_1 + 1)), (by first|rfl|(simp;done)|(simp [*];done)), H', ⟨by have:=HK1.out;omega⟩, ⟨by (with_reducible repeat (first|apply Kd.R_alloc|apply Kd.R_drewN|apply Kd.R_drew));exact HO231.out⟩, ⟨by repeat (first|(with_reducible first|exact HB.out|apply below_alloc|apply pw_below_drewN|apply below_drew1)|exact HB.out)⟩⟩
           ·rw [if_neg c15] at H
            exact absurd H (by simp)
         ·rw [if_neg c9] at H
          have c9b0 : (((rd_T67 x3_1 (ji6)).f2) == x4_1) = false := beq_eq_false_iff_ne.mpr c9
          have c9b1 : (((rd_T67 x3_1 (ji6)).f2) != x4_1) = true := bne_iff_ne.mpr c9
          by_cases c18 : x3_1.length < 5864062014805
          ·rw [if_pos c18] at H
           have LMc18 := Aside0.mk c18
           clear c18
           obtain ⟨y233, hy233⟩ : ∃ y_ : List (S67), y_ = (x3_1 ++ [(⟨rd l0 x4_1, x4_1, wrap64 (x4_1 + 1)⟩ : S67)]) := ⟨_, rfl⟩
           replace H : (chancelref04_spans.l0 k1 l0 y233 (wrap64 (x4_1 + 1))) = some r:=by first|(rw [hy233];with_reducible exact H)|(have H2_:=(Option.bind_some _ _).symm.trans H;rw [hy233];with_reducible exact H2_)|(have H2_:=(Option.bind_some _ _).symm.trans H;with_reducible exact H2_)|with_reducible exact H|(rw [hy233];exact H)|exact H
           have Ny233 := Aside0.mk hy233
           clear hy233
           have H' := Aside0.mk H
           clear H
           have p223 : 0 ≤ (x4_1 : Int):=of_decide_eq_true (by first|(with_reducible assumption)|assumption)
           have q223 : x4_1 < (l0.length : Int):=of_decide_eq_true (by first|(with_reducible assumption)|assumption)
           obtain ⟨ad223, e223, hx223_0⟩ := Kd.at_int HR0.out x4_1 p223 q223
           cases e223
           replace hx223_0 := (HB.out.cell (World.block_lt_of_cell? w _ hx223_0)).trans hx223_0
           replace p223 := eq_true p223
           replace q223 := eq_true q223
           obtain ⟨Ao19, co19, eo19⟩ := Kd.R_slice HO_3.out
           subst eo19
           have p224 : 0 ≤ ((ji6) : Int):=of_decide_eq_true (by first|(with_reducible assumption)|assumption)
           have q224 : (ji6) < (x3_1.length : Int):=of_decide_eq_true (by first|(with_reducible assumption)|assumption)
           obtain ⟨ad224, e224, hx224_0, hx224_1, hx224_2⟩ := at_T67 (Kd.R_reads' HO_3.out).2.2 (ji6) p224 q224
           cases e224
           replace p224 := eq_true p224
           replace q224 := eq_true q224
           have p232 : 0 ≤ (x4_1 : Int):=of_decide_eq_true (by first|(with_reducible assumption)|assumption)
           have q232 : x4_1 < (l0.length : Int):=of_decide_eq_true (by first|(with_reducible assumption)|assumption)
           obtain ⟨ad232, e232, hx232_0⟩ := Kd.at_int HR0.out x4_1 p232 q232
           obtain rfl : ad223 = ad232 := (by injection e232)
           replace hx232_0 := (HB.out.cell (World.block_lt_of_cell? w _ hx232_0)).trans hx232_0
           replace p232 := eq_true p232
           replace q232 := eq_true q232
           go_wp2_with (first|((with_reducible refine gate_builtin (b:=.append) (xs:=#[.tmp 11, .tmp 20]) rfl ?_);(try (refine gate_guard (by rfl) ?_;dsimp only));at_builtin;refine Kd.R_append k67 (w0:=w) w.heap.size rfl (.tmp 11) (.tmp 20) 22 67 (.agg #[(.int .i64 0), (.int .i64 0), (.int .i64 0)]) 24 rfl Tryd.underlying22 info67 rfl (by decide) (by omega) (.slice (some ad224) x3_1.length co19) x3_1 (⟨rd l0 x4_1, x4_1, wrap64 (x4_1 + 1)⟩ : S67) [.int .i64 (rd l0 x4_1), .int .i64 x4_1, .int .i64 (wrap64 (x4_1 + 1))] (fun _ => True) (fun _ => False) rfl rfl ?aP (fun _ hk => hk.elim) ?aF ?aO ?aB ?aS ?aL ?_;(case aP => exact k67_mkM _ _ _ (⟨rd l0 x4_1, x4_1, wrap64 (x4_1 + 1)⟩ : S67));(case aB => exact (by repeat (first|(with_reducible first|exact HB.out|apply below_alloc|apply pw_below_drewN|apply below_drew1)|exact HB.out)));(case aF => exact (fun _ _ => trivial));(case aO => exact (by (with_reducible repeat (first|apply Kd.R_alloc|apply Kd.R_drewN|apply Kd.R_drew));exact HO_3.out));(case aS => exact (below_size (by repeat (first|(with_reducible first|exact HB.out|apply below_alloc|apply pw_below_drewN|apply below_drew1)|exact HB.out))));(case aL => have:=LMc18.out;omega);intro v234 w20 ho hb hg hat;rw [← Ny233.out] at ho;have n0_:=Aside0.mk (hb);have n1_:=Aside0.mk (ho);clear HB;clear HO_3;have HB:=n0_;have HO235:=n1_;clear n0_ n1_;clear ho hb hg hat))
           repeat (go_quiet (first|((with_reducible refine gate_builtin (b:=.append) (xs:=#[.tmp 11, .tmp 20]) rfl ?_);(try (refine gate_guard (by rfl) ?_;dsimp only));at_builtin;refine Kd.R_append k67 (w0:=w) w.heap.size rfl (.tmp 11) (.tmp 20) 22 67 (.agg #[(.int .i64 0), (.int .i64 0), (.int .i64 0)]) 24 rfl Tryd.underlying22 info67 rfl (by decide) (by omega) (.slice (some ad224) x3_1.length co19) x3_1 (⟨rd l0 x4_1, x4_1, wrap64 (x4_1 + 1)⟩ : S67) [.int .i64 (rd l0 x4_1), .int .i64 x4_1, .int .i64 (wrap64 (x4_1 + 1))] (fun _ => True) (fun _ => False) rfl rfl ?aP (fun _ hk => hk.elim) ?aF ?aO ?aB ?aS ?aL ?_;(case aP => exact k67_mkM _ _ _ (⟨rd l0 x4_1, x4_1, wrap64 (x4_1 + 1)⟩ : S67));(case aB => exact (by repeat (first|(with_reducible first|exact HB.out|apply below_alloc|apply pw_below_drewN|apply below_drew1)|exact HB.out)));(case aF => exact (fun _ _ => trivial));(case aO => exact (by (with_reducible repeat (first|apply Kd.R_alloc|apply Kd.R_drewN|apply Kd.R_drew));exact HO_3.out));(case aS => exact (below_size (by repeat (first|(with_reducible first|exact HB.out|apply below_alloc|apply pw_below_drewN|apply below_drew1)|exact HB.out))));(case aL => have:=LMc18.out;omega);intro v234 w20 ho hb hg hat;rw [← Ny233.out] at ho;have n0_:=Aside0.mk (hb);have n1_:=Aside0.mk (ho);clear HB;clear HO_3;have HB:=n0_;have HO235:=n1_;clear n0_ n1_;clear ho hb hg hat));try go_wp2_with (first|((with_reducible refine gate_builtin (b:=.append) (xs:=#[.tmp 11, .tmp 20]) rfl ?_);(try (refine gate_guard (by rfl) ?_;dsimp only));at_builtin;refine Kd.R_append k67 (w0:=w) w.heap.size rfl (.tmp 11) (.tmp 20) 22 67 (.agg #[(.int .i64 0), (.int .i64 0), (.int .i64 0)]) 24 rfl Tryd.underlying22 info67 rfl (by decide) (by omega) (.slice (some ad224) x3_1.length co19) x3_1 (⟨rd l0 x4_1, x4_1, wrap64 (x4_1 + 1)⟩ : S67) [.int .i64 (rd l0 x4_1), .int .i64 x4_1, .int .i64 (wrap64 (x4_1 + 1))] (fun _ => True) (fun _ => False) rfl rfl ?aP (fun _ hk => hk.elim) ?aF ?aO ?aB ?aS ?aL ?_;(case aP => exact k67_mkM _ _ _ (⟨rd l0 x4_1, x4_1, wrap64 (x4_1 + 1)⟩ : S67));(case aB => exact (by repeat (first|(with_reducible first|exact HB.out|apply below_alloc|apply pw_below_drewN|apply below_drew1)|exact HB.out)));(case aF => exact (fun _ _ => trivial));(case aO => exact (by (with_reducible repeat (first|apply Kd.R_alloc|apply Kd.R_drewN|apply Kd.R_drew));exact HO_3.out));(case aS => exact (below_size (by repeat (first|(with_reducible first|exact HB.out|apply below_alloc|apply pw_below_drewN|apply below_drew1)|exact HB.out))));(case aL => have:=LMc18.out;omega);intro v234 w20 ho hb hg hat;rw [← Ny233.out] at ho;have n0_:=Aside0.mk (hb);have n1_:=Aside0.mk (ho);clear HB;clear HO_3;have HB:=n0_;have HO235:=n1_;clear n0_ n1_;clear ho hb hg hat)))
           go_roundg k1
           case measure => have := HK1.out; omega
           case rel => exact ⟨(y233), (wrap64 (x4_1 + 1)), (by first|rfl|(simp;done)|(simp [*];done)), H', ⟨by have:=HK1.out;omega⟩, ⟨by (with_reducible repeat (first|apply Kd.R_alloc|apply Kd.R_drewN|apply Kd.R_drew));exact HO235.out⟩, ⟨by repeat (first|(with_reducible first|exact HB.out|apply below_alloc|apply pw_below_drewN|apply below_drew1)|exact HB.out)⟩⟩
          ·rw [if_neg c18] at H
           exact absurd H (by simp)
        ·rw [if_neg c8] at H
         exact absurd H (by simp)
       ·rw [if_neg c7] at H
        exact absurd H (by simp)
      ·rw [if_neg c5] at H
       have c5b0 : decide (0 < (x3_1.length : Int)) = false := decide_eq_false c5
       have c5b1 : decide (0 < x3_1.length) = false := decide_eq_false (by omega)
       clear c5
       by_cases c21 : x3_1.length < 5864062014805
       ·rw [if_pos c21] at H
        have LMc21 := Aside0.mk c21
        clear c21
        obtain ⟨y237, hy237⟩ : ∃ y_ : List (S67), y_ = (x3_1 ++ [(⟨rd l0 x4_1, x4_1, wrap64 (x4_1 + 1)⟩ : S67)]) := ⟨_, rfl⟩
        replace H : (chancelref04_spans.l0 k1 l0 y237 (wrap64 (x4_1 + 1))) = some r:=by first|(rw [hy237];with_reducible exact H)|(have H2_:=(Option.bind_some _ _).symm.trans H;rw [hy237];with_reducible exact H2_)|(have H2_:=(Option.bind_some _ _).symm.trans H;with_reducible exact H2_)|with_reducible exact H|(rw [hy237];exact H)|exact H
        have Ny237 := Aside0.mk hy237
        clear hy237
        have H' := Aside0.mk H
        clear H
        have p223 : 0 ≤ (x4_1 : Int):=of_decide_eq_true (by first|(with_reducible assumption)|assumption)
        have q223 : x4_1 < (l0.length : Int):=of_decide_eq_true (by first|(with_reducible assumption)|assumption)
        obtain ⟨ad223, e223, hx223_0⟩ := Kd.at_int HR0.out x4_1 p223 q223
        cases e223
        replace hx223_0 := (HB.out.cell (World.block_lt_of_cell? w _ hx223_0)).trans hx223_0
        replace p223 := eq_true p223
        replace q223 := eq_true q223
        obtain ⟨Ao22, co22, eo22⟩ := Kd.R_slice HO_3.out
        subst eo22
        have p236 : 0 ≤ (x4_1 : Int):=of_decide_eq_true (by first|(with_reducible assumption)|assumption)
        have q236 : x4_1 < (l0.length : Int):=of_decide_eq_true (by first|(with_reducible assumption)|assumption)
        obtain ⟨ad236, e236, hx236_0⟩ := Kd.at_int HR0.out x4_1 p236 q236
        obtain rfl : ad223 = ad236 := (by injection e236)
        replace hx236_0 := (HB.out.cell (World.block_lt_of_cell? w _ hx236_0)).trans hx236_0
        replace p236 := eq_true p236
        replace q236 := eq_true q236
        go_wp2_with (first|((with_reducible refine gate_builtin (b:=.append) (xs:=#[.tmp 11, .tmp 20]) rfl ?_);(try (refine gate_guard (by rfl) ?_;dsimp only));at_builtin;refine Kd.R_append k67 (w0:=w) w.heap.size rfl (.tmp 11) (.tmp 20) 22 67 (.agg #[(.int .i64 0), (.int .i64 0), (.int .i64 0)]) 24 rfl Tryd.underlying22 info67 rfl (by decide) (by omega) (.slice Ao22 x3_1.length co22) x3_1 (⟨rd l0 x4_1, x4_1, wrap64 (x4_1 + 1)⟩ : S67) [.int .i64 (rd l0 x4_1), .int .i64 x4_1, .int .i64 (wrap64 (x4_1 + 1))] (fun _ => True) (fun _ => False) rfl rfl ?aP (fun _ hk => hk.elim) ?aF ?aO ?aB ?aS ?aL ?_;(case aP => exact k67_mkM _ _ _ (⟨rd l0 x4_1, x4_1, wrap64 (x4_1 + 1)⟩ : S67));(case aB => exact (by repeat (first|(with_reducible first|exact HB.out|apply below_alloc|apply pw_below_drewN|apply below_drew1)|exact HB.out)));(case aF => exact (fun _ _ => trivial));(case aO => exact (by (with_reducible repeat (first|apply Kd.R_alloc|apply Kd.R_drewN|apply Kd.R_drew));exact HO_3.out));(case aS => exact (below_size (by repeat (first|(with_reducible first|exact HB.out|apply below_alloc|apply pw_below_drewN|apply below_drew1)|exact HB.out))));(case aL => have:=LMc21.out;omega);intro v238 w23 ho hb hg hat;rw [← Ny237.out] at ho;have n0_:=Aside0.mk (hb);have n1_:=Aside0.mk (ho);clear HB;clear HO_3;have HB:=n0_;have HO239:=n1_;clear n0_ n1_;clear ho hb hg hat))
        repeat (go_quiet (first|((with_reducible refine gate_builtin (b:=.append) (xs:=#[.tmp 11, .tmp 20]) rfl ?_);(try (refine gate_guard (by rfl) ?_;dsimp only));at_builtin;refine Kd.R_append k67 (w0:=w) w.heap.size rfl (.tmp 11) (.tmp 20) 22 67 (.agg #[(.int .i64 0), (.int .i64 0), (.int .i64 0)]) 24 rfl Tryd.underlying22 info67 rfl (by decide) (by omega) (.slice Ao22 x3_1.length co22) x3_1 (⟨rd l0 x4_1, x4_1, wrap64 (x4_1 + 1)⟩ : S67) [.int .i64 (rd l0 x4_1), .int .i64 x4_1, .int .i64 (wrap64 (x4_1 + 1))] (fun _ => True) (fun _ => False) rfl rfl ?aP (fun _ hk => hk.elim) ?aF ?aO ?aB ?aS ?aL ?_;(case aP => exact k67_mkM _ _ _ (⟨rd l0 x4_1, x4_1, wrap64 (x4_1 + 1)⟩ : S67));(case aB => exact (by repeat (first|(with_reducible first|exact HB.out|apply below_alloc|apply pw_below_drewN|apply below_drew1)|exact HB.out)));(case aF => exact (fun _ _ => trivial));(case aO => exact (by (with_reducible repeat (first|apply Kd.R_alloc|apply Kd.R_drewN|apply Kd.R_drew));exact HO_3.out));(case aS => exact (below_size (by repeat (first|(with_reducible first|exact HB.out|apply below_alloc|apply pw_below_drewN|apply below_drew1)|exact HB.out))));(case aL => have:=LMc21.out;omega);intro v238 w23 ho hb hg hat;rw [← Ny237.out] at ho;have n0_:=Aside0.mk (hb);have n1_:=Aside0.mk (ho);clear HB;clear HO_3;have HB:=n0_;have HO239:=n1_;clear n0_ n1_;clear ho hb hg hat));try go_wp2_with (first|((with_reducible refine gate_builtin (b:=.append) (xs:=#[.tmp 11, .tmp 20]) rfl ?_);(try (refine gate_guard (by rfl) ?_;dsimp only));at_builtin;refine Kd.R_append k67 (w0:=w) w.heap.size rfl (.tmp 11) (.tmp 20) 22 67 (.agg #[(.int .i64 0), (.int .i64 0), (.int .i64 0)]) 24 rfl Tryd.underlying22 info67 rfl (by decide) (by omega) (.slice Ao22 x3_1.length co22) x3_1 (⟨rd l0 x4_1, x4_1, wrap64 (x4_1 + 1)⟩ : S67) [.int .i64 (rd l0 x4_1), .int .i64 x4_1, .int .i64 (wrap64 (x4_1 + 1))] (fun _ => True) (fun _ => False) rfl rfl ?aP (fun _ hk => hk.elim) ?aF ?aO ?aB ?aS ?aL ?_;(case aP => exact k67_mkM _ _ _ (⟨rd l0 x4_1, x4_1, wrap64 (x4_1 + 1)⟩ : S67));(case aB => exact (by repeat (first|(with_reducible first|exact HB.out|apply below_alloc|apply pw_below_drewN|apply below_drew1)|exact HB.out)));(case aF => exact (fun _ _ => trivial));(case aO => exact (by (with_reducible repeat (first|apply Kd.R_alloc|apply Kd.R_drewN|apply Kd.R_drew));exact HO_3.out));(case aS => exact (below_size (by repeat (first|(with_reducible first|exact HB.out|apply below_alloc|apply pw_below_drewN|apply below_drew1)|exact HB.out))));(case aL => have:=LMc21.out;omega);intro v238 w23 ho hb hg hat;rw [← Ny237.out] at ho;have n0_:=Aside0.mk (hb);have n1_:=Aside0.mk (ho);clear HB;clear HO_3;have HB:=n0_;have HO239:=n1_;clear n0_ n1_;clear ho hb hg hat)))
        go_roundg k1
        case measure => have := HK1.out; omega
        case rel => exact ⟨(y237), (wrap64 (x4_1 + 1)), (by first|rfl|(simp;done)|(simp [*];done)), H', ⟨by have:=HK1.out;omega⟩, ⟨by (with_reducible repeat (first|apply Kd.R_alloc|apply Kd.R_drewN|apply Kd.R_drew));exact HO239.out⟩, ⟨by repeat (first|(with_reducible first|exact HB.out|apply below_alloc|apply pw_below_drewN|apply below_drew1)|exact HB.out)⟩⟩
       ·rw [if_neg c21] at H
        exact absurd H (by simp)
    ·rw [if_neg c3] at H
     exact absurd H (by simp)
   ·rw [if_neg c2] at H
    have c2b0 : decide (x4_1 < (l0.length : Int)) = false := decide_eq_false c2
    clear c2
    obtain rfl := Option.some.inj H
    go_wp2
    repeat (go_quiet (fail); try go_wp2)
    go_ret
    exact ⟨_, by first|rfl|(simp [errW_none, errW_some] <;> rfl)|(simp [*, errW_none, errW_some] <;> rfl), by (with_reducible repeat (first|apply Kd.R_alloc|apply Kd.R_drewN|apply Kd.R_drew));exact HO_3.out, by repeat (first|(with_reducible first|exact HB.out|apply below_alloc|apply pw_below_drewN|apply below_drew1)|exact HB.out)⟩

end Go.Proofs.YtjphmebhofkhcaaDoor.PSegAll
