-- Written by a program of this session around the given print (and over contracts of this session): not checked by anybody but Lean.
import Derived.Test.YtjphmebhofkhcaaDoorPSegAllx0
import Derived.Test.YtjphmebhofkhcaaDoorPSegAllx3
namespace Go.Proofs.YtjphmebhofkhcaaDoor.PSegAll
open Go.RowKit Go.Proofs.YtjphmebhofkhcaaDoorW.PrintWords Go.Proofs.YtjphmebhofkhcaaDoorW.PrintLast Go.Proofs.YtjphmebhofkhcaaDoorW.PrintMore
attribute [local go_sem] max2_int min2_int max_two min_two max_three min_three max_four min_four   -- for this text's walks alone
set_option linter.unusedVariables false
set_option linter.unusedSimpArgs false

/-! ### marks_compare: function 64 -/
def marks_compare.f (k : Nat) (a0_0 : Int) (a0_1 : Int) (a1_0 : Int) (a1_1 : Int) : Option (Int) := (cmp_Compare_int.f a0_1 a1_1).bind fun t127 => ((cmp_Compare_int.f a0_0 a1_0).bind fun t128 => ((cmp_Or_int.f k (([t127, t128] : List Int))).bind fun t132 => (some t132)))
theorem marks_compare.mono : ∀ a0 a1 a2 a3 k, LeO (marks_compare.f k a0 a1 a2 a3) (marks_compare.f (k + 1) a0 a1 a2 a3) := by
 intro a0 a1 a2 a3 k
 unfold marks_compare.f
 repeat' first
   | (with_reducible exact cmp_Or_int.mono _ _)
   | (with_reducible exact LeO.refl _)
   | (with_reducible exact LeO.none _)
   | (with_reducible refine LeO.ite ?_ ?_)
   | (with_reducible refine LeO.bind ?_ (fun _ => ?_))
   | exact cmp_Or_int.mono _ _
   | exact LeO.none _
   | refine LeO.ite ?_ ?_
   | refine LeO.bind ?_ (fun _ => ?_)
def marks_compare.T1 : Bool × List (List Nat × List Nat) := (true, [([], []), ([0], [0]), ([], []), ([2], [2]), ([1, 3], [1, 3]), ([], []), ([5], [5]), ([], []), ([7], [7]), ([6, 8, 4], [6, 8]), ([4, 9], [4, 9]), ([10, 9], [10]), ([11, 11, 0, 1, 2, 3, 4, 5, 6, 7, 8, 9, 10, 11], [11])])
def marks_compare.B1 : List Nat := [0, 1, 0, 4, 15, 0, 32, 0, 128, 511, 1023, 2047, 4095]
theorem marks_compare.tab1 : rtab .any (opsOf Tryd.f64 1) = marks_compare.T1 := by kernel_rfl
theorem marks_compare.bits1 : waitsOk marks_compare.T1.2 marks_compare.B1 = true := by kernel_rfl
set_option maxHeartbeats 8000000 in
set_option maxRecDepth 100000 in
theorem marks_compare.calls (k : Nat) (a0_0 : Int) (a0_1 : Int) (a1_0 : Int) (a1_1 : Int) (r : Int) (w : World) (h : marks_compare.f k a0_0 a0_1 a1_0 a1_1 = some r) :
  Calls Tryd.prog 64 #[.agg #[.int .i64 a0_0, .int .i64 a0_1], .agg #[.int .i64 a1_0, .int .i64 a1_1]] w fun e w' => e = .returned (.int .i64 r) ∧ Below w.heap.size w w' := by
 have hu70 := Tryd.underlying70
 have HB := Aside0.mk (Below.refl w.heap.size w)
 have H : ((cmp_Compare_int.f a0_1 a1_1).bind fun t127 => ((cmp_Compare_int.f a0_0 a1_0).bind fun t128 => ((cmp_Or_int.f k (([t127, t128] : List Int))).bind fun t132 => (some t132)))) = some r := h
 clear h
 replace H := Option.bind_eq_some_iff.mp H
 obtain ⟨t127, A30, H⟩ := H
 replace H : ((cmp_Compare_int.f a0_0 a1_0).bind fun t128 => ((cmp_Or_int.f k (([t127, t128] : List Int))).bind fun t132 => (some t132))) = some r := H
 have A3 := Aside0.mk A30
 clear A30
 replace H := Option.bind_eq_some_iff.mp H
 obtain ⟨t128, A40, H⟩ := H
 replace H : ((cmp_Or_int.f k (([t127, t128] : List Int))).bind fun t132 => (some t132)) = some r := H
 have A4 := Aside0.mk A40
 clear A40
 obtain ⟨y129, hy129⟩ : ∃ y_ : List Int, y_ = (([t127, t128] : List Int)) := ⟨_, rfl⟩
 replace H : ((cmp_Or_int.f k y129).bind fun t132 => (some t132)) = some r:=by first|(rw [hy129];with_reducible exact H)|(have H2_:=(Option.bind_some _ _).symm.trans H;rw [hy129];with_reducible exact H2_)|(have H2_:=(Option.bind_some _ _).symm.trans H;with_reducible exact H2_)|with_reducible exact H|(rw [hy129];exact H)|exact H
 have Ny129 := Aside0.mk hy129
 clear hy129
 replace H := Option.bind_eq_some_iff.mp H
 obtain ⟨t132, A50, H⟩ := H
 replace H : (some t132) = some r := H
 have A5 := Aside0.mk A50
 clear A50
 obtain rfl := Option.some.inj H
 go_enter Tryd.func64, Tryd.ntmps64
 try go_wp2_with (first|((with_reducible refine gate_dst (N:=2) rfl ?_);refine box_event ?hg (N:=2) ?hd (cs:=#[.int .i64 a0_0, .int .i64 a0_1]) (t:=70) ?hr ?_;(case hd => rfl);(case hg => rfl);(case hr => first|(go_simp;done)|(go_simp;rfl));intro gb125 hg w6 hbox hb;have n0_:=Aside0.mk (below_step (by repeat (first|(with_reducible first|exact HB.out|apply below_alloc|apply pw_below_drewN|apply below_drew1)|exact HB.out)) hb);have n1_:=Aside0.mk (hbox);have n2_:=Aside0.mk ((by rw [hg];exact (below_size (by repeat (first|(with_reducible first|exact HB.out|apply below_alloc|apply pw_below_drewN|apply below_drew1)|exact HB.out))) : w.heap.size ≤ gb125));have n3_:=Aside0.mk ((by rw [hg];exact (below_size (by repeat (first|(with_reducible first|exact HB.out|apply below_alloc|apply pw_below_drewN|apply below_drew1)|exact HB.out))) : w.heap.size ≤ gb125));clear HB;have HB:=n0_;have BK125:=n1_;have GW125:=n2_;have GE125:=n3_;clear n0_ n1_ n2_ n3_;clear hb hbox hg)|((with_reducible refine gate_dst (N:=3) rfl ?_);refine box_event ?hg (N:=3) ?hd (cs:=#[.int .i64 a1_0, .int .i64 a1_1]) (t:=70) ?hr ?_;(case hd => rfl);(case hg => rfl);(case hr => first|(go_simp;done)|(go_simp;rfl));intro gb126 hg w7 hbox hb;have n0_:=Aside0.mk (blk_below (g:=gb125) (o:=.cells #[.int .i64 a0_0, .int .i64 a0_1] 70 (0, 0)) (by (with_reducible repeat (first|refine blk_drewN ?_ _|refine blk_drew ?_|refine blk_alloc ?_ _));exact BK125.out) hb);have n1_:=Aside0.mk (below_step (by repeat (first|(with_reducible first|exact HB.out|apply below_alloc|apply pw_below_drewN|apply below_drew1|refine below_set ?_ GE125.out)|exact HB.out)) hb);have n2_:=Aside0.mk (hbox);have n3_:=Aside0.mk ((by rw [hg];exact (below_size (by repeat (first|(with_reducible first|exact HB.out|apply below_alloc|apply pw_below_drewN|apply below_drew1|refine below_set ?_ GE125.out)|exact HB.out))) : w.heap.size ≤ gb126));have n4_:=Aside0.mk ((by rw [hg];exact (below_size (by repeat (first|(with_reducible first|exact HB.out|apply below_alloc|apply pw_below_drewN|apply below_drew1|refine below_set ?_ GE125.out)|exact HB.out))) : w.heap.size ≤ gb126));have n5_:=Aside0.mk ((by rw [hg];exact Nat.ne_of_lt (blk_lt (g:=gb125) (o:=.cells #[.int .i64 a0_0, .int .i64 a0_1] 70 (0, 0)) (by (with_reducible repeat (first|refine blk_drewN ?_ _|refine blk_drew ?_|refine blk_alloc ?_ _));exact BK125.out)) : gb125 ≠ gb126));have n6_:=Aside0.mk ((by rw [hg];exact Nat.ne_of_gt (blk_lt (g:=gb125) (o:=.cells #[.int .i64 a0_0, .int .i64 a0_1] 70 (0, 0)) (by (with_reducible repeat (first|refine blk_drewN ?_ _|refine blk_drew ?_|refine blk_alloc ?_ _));exact BK125.out)) : gb126 ≠ gb125));clear BK125;clear HB;have BK125:=n0_;have HB:=n1_;have BK126:=n2_;have GW126:=n3_;have GE126:=n4_;have NB125_126:=n5_;have NB126_125:=n6_;clear n0_ n1_ n2_ n3_ n4_ n5_ n6_;clear hb hbox hg))
 have n0_ := Aside0.mk (blk_drew BK125.out)
 have n1_ := Aside0.mk (blk_drew BK126.out)
 have n2_ := Aside0.mk (below_drew1 HB.out)
 clear BK125
 clear BK126
 clear HB
 have BK125 := n0_
 have BK126 := n1_
 have HB := n2_
 clear n0_ n1_ n2_
 refine start_ (n := 13) (S := fun w' => w'.cell? ⟨gb125, 0, none⟩ = some (.int .i64 a0_0) ∧ w'.cell? ⟨gb125, 1, none⟩ = some (.int .i64 a0_1) ∧ w'.cell? ⟨gb126, 0, none⟩ = some (.int .i64 a1_0) ∧ w'.cell? ⟨gb126, 1, none⟩ = some (.int .i64 a1_1)) (ds := []) #[false, false, false, false, false, false, false, false, false, false, false, false, false] (by kernel_rfl) rfl rfl ⟨(blk_cell BK125.out 0).trans rfl, (blk_cell BK125.out 1).trans rfl, (blk_cell BK126.out 0).trans rfl, (blk_cell BK126.out 1).trans rfl⟩ (fun hHeld => ?_); refine with_tabW marks_compare.tab1 marks_compare.bits1 (fun HT_ HW_ => ?_)
 generalize w7.drew = w8 at BK125 BK126 HB hHeld ⊢
 refine pure_ (i := 0) (N := some 5) (v := ?_) (a' := ?_) #[true, false, false, false, false, false, false, false, false, false, false, false, false] rfl rfl (any_of HT_.out (by kernel_rfl)) (fun _ _ _ h => h) (Or.inl ⟨by rfl, ?_⟩) ?_ ?_
 rotate_left
 ·intro w'
  go_simp
  with_reducible rfl
 rotate_left
 ·simp only [Act.put, List.setIfInBounds_toArray, List.set_cons_zero, List.set_cons_succ, i64_w, i32_w]
  rfl
 refine pure_ (i := 2) (N := some 7) (v := ?_) (a' := ?_) #[true, false, true, false, false, false, false, false, false, false, false, false, false] rfl rfl (any_of HT_.out (by kernel_rfl)) (fun _ _ _ h => h) (Or.inl ⟨by rfl, ?_⟩) ?_ ?_
 rotate_left
 ·intro w'
  go_simp
  with_reducible rfl
 rotate_left
 ·simp only [Act.put, List.setIfInBounds_toArray, List.set_cons_zero, List.set_cons_succ, i64_w, i32_w]
  rfl
 refine pure_ (i := 5) (N := some 10) (v := ?_) (a' := ?_) #[true, false, true, false, false, true, false, false, false, false, false, false, false] rfl rfl (any_of HT_.out (by kernel_rfl)) (fun _ _ _ h => h) (Or.inl ⟨by rfl, ?_⟩) ?_ ?_
 rotate_left
 ·intro w'
  go_simp
  with_reducible rfl
 rotate_left
 ·simp only [Act.put, List.setIfInBounds_toArray, List.set_cons_zero, List.set_cons_succ, i64_w, i32_w]
  rfl
 refine pure_ (i := 7) (N := some 12) (v := ?_) (a' := ?_) #[true, false, true, false, false, true, false, true, false, false, false, false, false] rfl rfl (any_of HT_.out (by kernel_rfl)) (fun _ _ _ h => h) (Or.inl ⟨by rfl, ?_⟩) ?_ ?_
 rotate_left
 ·intro w'
  go_simp
  with_reducible rfl
 rotate_left
 ·simp only [Act.put, List.setIfInBounds_toArray, List.set_cons_zero, List.set_cons_succ, i64_w, i32_w]
  rfl
 refine take_ (i := 1) (N := some 6) (v := ?_) (a' := ?_) #[true, true, true, false, false, true, false, true, false, false, false, false, false] rfl rfl (take_ofW HT_.out HW_.out (by kernel_rfl)) (fun _ _ _ h => h) (Or.inl ⟨by rfl, ?_⟩) hHeld ?_ ?_
 rotate_left
 ·rintro w' ⟨s0, s1, s2, s3⟩
  go_simp
  with_reducible rfl
 rotate_left
 ·simp only [Act.put, List.setIfInBounds_toArray, List.set_cons_zero, List.set_cons_succ, i64_w, i32_w]
  rfl
 refine take_ (i := 3) (N := some 8) (v := ?_) (a' := ?_) #[true, true, true, true, false, true, false, true, false, false, false, false, false] rfl rfl (take_ofW HT_.out HW_.out (by kernel_rfl)) (fun _ _ _ h => h) (Or.inl ⟨by rfl, ?_⟩) hHeld ?_ ?_
 rotate_left
 ·rintro w' ⟨s0, s1, s2, s3⟩
  go_simp
  with_reducible rfl
 rotate_left
 ·simp only [Act.put, List.setIfInBounds_toArray, List.set_cons_zero, List.set_cons_succ, i64_w, i32_w]
  rfl
 refine take_ (i := 6) (N := some 11) (v := ?_) (a' := ?_) #[true, true, true, true, false, true, true, true, false, false, false, false, false] rfl rfl (take_ofW HT_.out HW_.out (by kernel_rfl)) (fun _ _ _ h => h) (Or.inl ⟨by rfl, ?_⟩) hHeld ?_ ?_
 rotate_left
 ·rintro w' ⟨s0, s1, s2, s3⟩
  go_simp
  with_reducible rfl
 rotate_left
 ·simp only [Act.put, List.setIfInBounds_toArray, List.set_cons_zero, List.set_cons_succ, i64_w, i32_w]
  rfl
 refine take_ (i := 8) (N := some 13) (v := ?_) (a' := ?_) #[true, true, true, true, false, true, true, true, true, false, false, false, false] rfl rfl (take_ofW HT_.out HW_.out (by kernel_rfl)) (fun _ _ _ h => h) (Or.inl ⟨by rfl, ?_⟩) hHeld ?_ ?_
 rotate_left
 ·rintro w' ⟨s0, s1, s2, s3⟩
  go_simp
  with_reducible rfl
 rotate_left
 ·simp only [Act.put, List.setIfInBounds_toArray, List.set_cons_zero, List.set_cons_succ, i64_w, i32_w]
  rfl
 refine one_ (i := 4) (N := some 9) #[true, true, true, true, true, true, true, true, true, false, false, false, false] rfl rfl (one_of HT_.out (by kernel_rfl)) (by decide) (fun K hK => ?_)
 refine goes_ Tryd.func86 (by kernel_rfl) rfl #[.int .i64 a0_1, .int .i64 a1_1] (by rfl) rfl rfl (by (try simp only [List.map_toArray, List.map_cons, List.map_nil]); first | done | rfl | (simp only [List.length_drop, List.length_take]; rfl)) ?_
 with_reducible refine (cmp_Compare_int.calls a0_1 a1_1 t127 _ A3.out).mono ?_
 rintro e w' ⟨rfl, ⟨nd, rfl⟩⟩
 refine ⟨_, rfl, ?_⟩
 refine hK.out _ _ ⟨(blk_cell BK125.out 0).trans rfl, (blk_cell BK125.out 1).trans rfl, (blk_cell BK126.out 0).trans rfl, (blk_cell BK126.out 1).trans rfl⟩ (fun hHeld => ?_)
 clear hK K
 refine norm_ (a' := ?_) ?_ ?_
 rotate_left
 ·show Act.put _ (some 9) _ = _
  simp only [Act.put, List.setIfInBounds_toArray, List.set_cons_zero, List.set_cons_succ, i64_w, i32_w]
  rfl
 refine one_ (i := 9) (N := some 14) #[true, true, true, true, true, true, true, true, true, true, false, false, false] rfl rfl (one_of HT_.out (by kernel_rfl)) (by decide) (fun K hK => ?_)
 refine goes_ Tryd.func86 (by kernel_rfl) rfl #[.int .i64 a0_0, .int .i64 a1_0] (by rfl) rfl rfl (by (try simp only [List.map_toArray, List.map_cons, List.map_nil]); first | done | rfl | (simp only [List.length_drop, List.length_take]; rfl)) ?_
 with_reducible refine (cmp_Compare_int.calls a0_0 a1_0 t128 _ A4.out).mono ?_
 rintro e w' ⟨rfl, ⟨nd, rfl⟩⟩
 refine ⟨_, rfl, ?_⟩
 refine hK.out _ _ ⟨(blk_cell BK125.out 0).trans rfl, (blk_cell BK125.out 1).trans rfl, (blk_cell BK126.out 0).trans rfl, (blk_cell BK126.out 1).trans rfl⟩ (fun hHeld => ?_)
 clear hK K
 refine norm_ (a' := ?_) ?_ ?_
 rotate_left
 ·show Act.put _ (some 14) _ = _
  simp only [Act.put, List.setIfInBounds_toArray, List.set_cons_zero, List.set_cons_succ, i64_w, i32_w]
  rfl
 refine one_ (i := 10) (N := some 15) #[true, true, true, true, true, true, true, true, true, true, true, false, false] rfl rfl (one_of HT_.out (by kernel_rfl)) (by decide) (fun K hK => ?_)
 refine Kd.R_lit_step (Kd.int .i64) _ 3 ?hg (N := 15) ?hd (xs := ([t127, t128] : List Int)) (inner := [.int .i64 t127, .int .i64 t128]) (ok := fun _ => True) (okp := fun _ => True) ?hr ?hp (fun _ hk => hk) trivial (Below.refl _ _) (Nat.le_refl _) (by simp) ?_; (case hd => rfl); (case hg => rfl); (case hr => first | (go_simp; done) | (go_simp; rfl)); (case hp => exact (Reps.one (show Kd.M (Kd.int .i64) _ _ _ t127 [.int .i64 t127] from rfl) (Reps.one (show Kd.M (Kd.int .i64) _ _ _ t128 [.int .i64 t128] from rfl) (Reps.none _ _))))
 intro v130 w9 ho10 hb hg_ hnew_
 clear hg_ hnew_
 (first | rw [← Ny129.out] at ho10 | (simp only [Int.reduceToNat] at ho10; rw [← Ny129.out] at ho10))
 have n0_:=Aside0.mk (Kd.R_lower ho10 (below_size (by repeat (first|(with_reducible first|exact HB.out|apply below_alloc|apply pw_below_drewN|apply below_drew1|refine below_set ?_ GE125.out|refine below_set ?_ GE126.out)|exact HB.out))))
 have n1_:=Aside0.mk (blk_below (g:=gb125) (o:=.cells #[.int .i64 a0_0, .int .i64 a0_1] 70 (0, 0)) (by (with_reducible repeat (first|refine blk_drewN ?_ _|refine blk_drew ?_|refine blk_alloc ?_ _));exact BK125.out) hb)
 have n2_:=Aside0.mk (blk_below (g:=gb126) (o:=.cells #[.int .i64 a1_0, .int .i64 a1_1] 70 (0, 0)) (by (with_reducible repeat (first|refine blk_drewN ?_ _|refine blk_drew ?_|refine blk_alloc ?_ _));exact BK126.out) hb)
 have n3_:=Aside0.mk (below_step (by repeat (first|(with_reducible first|exact HB.out|apply below_alloc|apply pw_below_drewN|apply below_drew1|refine below_set ?_ GE125.out|refine below_set ?_ GE126.out)|exact HB.out)) hb)
 clear BK125
 clear BK126
 clear HB
 have HO131 := n0_
 have BK125 := n1_
 have BK126 := n2_
 have HB := n3_
 clear n0_ n1_ n2_ n3_
 clear hb ho10
 obtain ⟨Ao11, co11, eo11⟩ := Kd.R_slice HO131.out
 (first | subst eo11 | (injection eo11 with f1_ f2_ f3_; have f4_ := f1_.symm; have f5_ := f3_.symm; clear f1_ f2_ f3_; subst f4_; subst f5_))
 refine hK.out _ _ ⟨(blk_cell BK125.out 0).trans rfl, (blk_cell BK125.out 1).trans rfl, (blk_cell BK126.out 0).trans rfl, (blk_cell BK126.out 1).trans rfl⟩ (fun hHeld => ?_)
 clear hK K
 refine norm_ (a' := ?_) ?_ ?_
 rotate_left
 ·show Act.put _ (some 15) _ = _
  simp only [Act.put, List.setIfInBounds_toArray, List.set_cons_zero, List.set_cons_succ, i64_w, i32_w]
  rfl
 refine one_ (i := 11) (N := some 16) #[true, true, true, true, true, true, true, true, true, true, true, true, false] rfl rfl (one_of HT_.out (by kernel_rfl)) (by decide) (fun K hK => ?_)
 refine goes_ Tryd.func85 (by kernel_rfl) rfl #[.slice Ao11 y129.length co11] (by rfl) rfl rfl (by (try simp only [List.map_toArray, List.map_cons, List.map_nil]); first | done | rfl | (simp only [List.length_drop, List.length_take]; rfl)) ?_
 with_reducible refine (cmp_Or_int.calls k _ _ y129 t132 _ ?side1 ?side2 A5.out).mono ?_
 (case side1 => repeat (first|exact (Kd.R_reads' HO131.out).2.2|(with_reducible refine Kd.C_alloc ?_ _)|(with_reducible refine Kd.C_drewN ?_ _)|(with_reducible refine Kd.C_drew ?_)))
 (case side2 => exact (Kd.R_reads' HO131.out).2.1)
 rintro e w' ⟨rfl, ⟨nd, rfl⟩⟩
 refine ⟨_, rfl, ?_⟩
 refine hK.out _ _ ⟨(blk_cell BK125.out 0).trans rfl, (blk_cell BK125.out 1).trans rfl, (blk_cell BK126.out 0).trans rfl, (blk_cell BK126.out 1).trans rfl⟩ (fun hHeld => ?_)
 clear hK K
 refine norm_ (a' := ?_) ?_ ?_
 rotate_left
 ·show Act.put _ (some 16) _ = _
  simp only [Act.put, List.setIfInBounds_toArray, List.set_cons_zero, List.set_cons_succ, i64_w, i32_w]
  rfl
 refine pure_ (i := 12) (N := some 4) (v := ?_) (a' := ?_) #[true, true, true, true, true, true, true, true, true, true, true, true, true] rfl rfl (any_of HT_.out (by kernel_rfl)) (fun _ _ _ h => h) (Or.inl ⟨by rfl, ?_⟩) ?_ ?_
 rotate_left
 ·intro w'
  go_simp
  with_reducible rfl
 rotate_left
 ·simp only [Act.put, List.setIfInBounds_toArray, List.set_cons_zero, List.set_cons_succ, i64_w, i32_w]
  rfl
 refine done_ (done_of HT_.out (by kernel_rfl)) ?_
 try go_wp2
 go_ret
 exact ⟨by first|rfl|(simp [errW_none, errW_some] <;> rfl)|(simp [*, errW_none, errW_some] <;> rfl), by repeat (first|(with_reducible first|exact HB.out|apply below_alloc|apply pw_below_drewN|apply below_drew1|refine below_set ?_ GE125.out|refine below_set ?_ GE126.out)|exact HB.out)⟩

-- NOT PRINTED: function 110 (api_Site_110)

-- NOT PRINTED: function 121 (api_Site_121)

-- NOT PRINTED: function 111 (api_Site_111)

-- NOT PRINTED: function 123 (slices_xorshift_Next)

-- NOT PRINTED: function 112 (api_Site_112)

-- NOT PRINTED: function 126 (api_Site_126)

-- NOT PRINTED: function 125 (api_Site_125)

-- NOT PRINTED: function 124 (api_Site_124)

-- NOT PRINTED: function 113 (api_Site_113)

-- NOT PRINTED: function 114 (api_Site_114)

-- NOT PRINTED: function 115 (api_Site_115)

-- NOT PRINTED: function 116 (api_Site_116)

-- NOT PRINTED: function 117 (api_Site_117)

-- NOT PRINTED: function 102 (api_Site_102)

-- NOT PRINTED: function 87 (api_Site_87)

-- NOT PRINTED: function 88 (api_Site_88)

-- NOT PRINTED: function 68 (marks_moved)

-- NOT PRINTED: function 43 (marks_Put)

-- NOT PRINTED: function 84 (letters_Count)

-- NOT PRINTED: function 62 (rope_leaf)

-- NOT PRINTED: function 90 (rope_fix)

-- NOT PRINTED: function 91 (rope_node)

-- NOT PRINTED: function 71 (rope_Join)

-- NOT PRINTED: function 89 (letters_Byte)

-- NOT PRINTED: function 70 (rope_Rope_split)

-- NOT PRINTED: function 44 (rope_Rope_Put)

-- NOT PRINTED: function 13 (segment_Segment_Insert)

/-! ### utf8_word_string: function 100 -/

-- NOT PRINTED: function 83 (utf8_ValidString)

-- NOT PRINTED: function 61 (letters_Right)

-- NOT PRINTED: function 63 (rope_build)

-- NOT PRINTED: function 32 (rope_New)

-- NOT PRINTED: function 14 (chancellaw05_of)

-- NOT PRINTED: function 31 (segment_New)

-- NOT PRINTED: function 9 (chancellaw05_text)

/-! ### chancellaw05_small: function 10 -/
def chancellaw05_small.f (a0_0 : Int) (a0_1 : Int) (a0_2 : ByteArray) (l0_3 : List (S67)) (l0_4 : List (S70)) : Option (Bool) := if (a0_2.size : Int) ≤ 1500 then (if (l0_3.length : Int) ≤ 300 then (some (decide ((l0_4.length : Int) ≤ 300))) else (some false)) else (some false)
set_option maxHeartbeats 8000000 in
set_option maxRecDepth 100000 in
theorem chancellaw05_small.calls (a0_0 : Int) (a0_1 : Int) (a0_2 : ByteArray) (A0_3 : Option Addr) (c0_3 : Nat) (l0_3 : List (S67)) (A0_4 : Option Addr) (c0_4 : Nat) (l0_4 : List (S70)) (r : Bool) (w : World) (hr0_3 : Kd.C k67 w A0_3 l0_3.length l0_3) (hc0_3 : l0_3.length ≤ c0_3) (hr0_4 : Kd.C k70 w A0_4 l0_4.length l0_4) (hc0_4 : l0_4.length ≤ c0_4) (h : chancellaw05_small.f a0_0 a0_1 a0_2 l0_3 l0_4 = some r) :
  Calls Tryd.prog 10 #[.agg #[.int .i64 a0_0, .int .i64 a0_1, .string a0_2, .slice A0_3 l0_3.length c0_3, .slice A0_4 l0_4.length c0_4]] w fun e w' => e = .returned (.bool r) ∧ Below w.heap.size w w' := by
 have hu25 := Tryd.underlying25
 have HR0_3 := Aside0.mk hr0_3
 have HC0_3 := Aside0.mk hc0_3
 clear hr0_3 hc0_3
 have HR0_4 := Aside0.mk hr0_4
 have HC0_4 := Aside0.mk hc0_4
 clear hr0_4 hc0_4
 have HB := Aside0.mk (Below.refl w.heap.size w)
 have H : (if (a0_2.size : Int) ≤ 1500 then (if (l0_3.length : Int) ≤ 300 then (some (decide ((l0_4.length : Int) ≤ 300))) else (some false)) else (some false)) = some r := h
 clear h
 by_cases c2 : (a0_2.size : Int) ≤ 1500
 ·rw [if_pos c2] at H
  have c2b0 : decide ((a0_2.size : Int) ≤ 1500) = true := decide_eq_true c2
  have c2b1 : decide (a0_2.size ≤ 1500) = true := decide_eq_true (by omega)
  clear c2
  by_cases c3 : (l0_3.length : Int) ≤ 300
  ·rw [if_pos c3] at H
   have c3b0 : decide ((l0_3.length : Int) ≤ 300) = true := decide_eq_true c3
   have c3b1 : decide (l0_3.length ≤ 300) = true := decide_eq_true (by omega)
   clear c3
   obtain rfl := Option.some.inj H
   go_enter Tryd.func10, Tryd.ntmps10
   go_wp2_with (first|((with_reducible refine gate_dst (N:=1) rfl ?_);(try (refine gate_guard (by rfl) ?_;dsimp only));refine box_event ?hg (N:=1) ?hd (cs:=#[.int .i64 a0_0, .int .i64 a0_1, .string a0_2, .slice A0_3 l0_3.length c0_3, .slice A0_4 l0_4.length c0_4]) (t:=25) ?hr ?_;(case hd => rfl);(case hg => rfl);(case hr => first|(go_simp;done)|(go_simp;rfl));intro gb157 hg w4 hbox hb;have n0_:=Aside0.mk (below_step (by repeat (first|(with_reducible first|exact HB.out|apply below_alloc|apply pw_below_drewN|apply below_drew1)|exact HB.out)) hb);have n1_:=Aside0.mk (hbox);have n2_:=Aside0.mk ((by rw [hg];exact (below_size (by repeat (first|(with_reducible first|exact HB.out|apply below_alloc|apply pw_below_drewN|apply below_drew1)|exact HB.out))) : w.heap.size ≤ gb157));have n3_:=Aside0.mk ((by rw [hg];exact (below_size (by repeat (first|(with_reducible first|exact HB.out|apply below_alloc|apply pw_below_drewN|apply below_drew1)|exact HB.out))) : w.heap.size ≤ gb157));clear HB;have HB:=n0_;have BK157:=n1_;have GW157:=n2_;have GE157:=n3_;clear n0_ n1_ n2_ n3_;clear hb hbox hg;have hcz5_0 : w4.cell? ⟨gb157, 0, none⟩ = some (.int .i64 a0_0):=(blk_cell BK157.out 0).trans rfl;have hcz5_1 : w4.cell? ⟨gb157, 1, none⟩ = some (.int .i64 a0_1):=(blk_cell BK157.out 1).trans rfl;have hcz5_2 : w4.cell? ⟨gb157, 2, none⟩ = some (.string a0_2):=(blk_cell BK157.out 2).trans rfl;have hcz5_3 : w4.cell? ⟨gb157, 3, none⟩ = some (.slice A0_3 l0_3.length c0_3):=(blk_cell BK157.out 3).trans rfl;have hcz5_4 : w4.cell? ⟨gb157, 4, none⟩ = some (.slice A0_4 l0_4.length c0_4):=(blk_cell BK157.out 4).trans rfl;have hfz5_0:=blk_frozen BK157.out 0;have hfz5_1:=blk_frozen BK157.out 1;have hfz5_2:=blk_frozen BK157.out 2;have hfz5_3:=blk_frozen BK157.out 3;have hfz5_4:=blk_frozen BK157.out 4))
   go_ret
   exact ⟨by first|rfl|(simp [errW_none, errW_some] <;> rfl)|(simp [*, errW_none, errW_some] <;> rfl), by repeat (first|(with_reducible first|exact HB.out|apply below_alloc|apply pw_below_drewN|apply below_drew1|refine below_set ?_ GE157.out)|exact HB.out)⟩
  ·rw [if_neg c3] at H
   have c3b0 : decide ((l0_3.length : Int) ≤ 300) = false := decide_eq_false c3
   have c3b1 : decide (l0_3.length ≤ 300) = false := decide_eq_false (by omega)
   clear c3
   obtain rfl := Option.some.inj H
   go_enter Tryd.func10, Tryd.ntmps10
   go_wp2_with (first|((with_reducible refine gate_dst (N:=1) rfl ?_);(try (refine gate_guard (by rfl) ?_;dsimp only));refine box_event ?hg (N:=1) ?hd (cs:=#[.int .i64 a0_0, .int .i64 a0_1, .string a0_2, .slice A0_3 l0_3.length c0_3, .slice A0_4 l0_4.length c0_4]) (t:=25) ?hr ?_;(case hd => rfl);(case hg => rfl);(case hr => first|(go_simp;done)|(go_simp;rfl));intro gb157 hg w6 hbox hb;have n0_:=Aside0.mk (below_step (by repeat (first|(with_reducible first|exact HB.out|apply below_alloc|apply pw_below_drewN|apply below_drew1)|exact HB.out)) hb);have n1_:=Aside0.mk (hbox);have n2_:=Aside0.mk ((by rw [hg];exact (below_size (by repeat (first|(with_reducible first|exact HB.out|apply below_alloc|apply pw_below_drewN|apply below_drew1)|exact HB.out))) : w.heap.size ≤ gb157));have n3_:=Aside0.mk ((by rw [hg];exact (below_size (by repeat (first|(with_reducible first|exact HB.out|apply below_alloc|apply pw_below_drewN|apply below_drew1)|exact HB.out))) : w.heap.size ≤ gb157));clear HB;have HB:=n0_;have BK157:=n1_;have GW157:=n2_;have GE157:=n3_;clear n0_ n1_ n2_ n3_;clear hb hbox hg;have hcz7_0 : w6.cell? ⟨gb157, 0, none⟩ = some (.int .i64 a0_0):=(blk_cell BK157.out 0).trans rfl;have hcz7_1 : w6.cell? ⟨gb157, 1, none⟩ = some (.int .i64 a0_1):=(blk_cell BK157.out 1).trans rfl;have hcz7_2 : w6.cell? ⟨gb157, 2, none⟩ = some (.string a0_2):=(blk_cell BK157.out 2).trans rfl;have hcz7_3 : w6.cell? ⟨gb157, 3, none⟩ = some (.slice A0_3 l0_3.length c0_3):=(blk_cell BK157.out 3).trans rfl;have hcz7_4 : w6.cell? ⟨gb157, 4, none⟩ = some (.slice A0_4 l0_4.length c0_4):=(blk_cell BK157.out 4).trans rfl;have hfz7_0:=blk_frozen BK157.out 0;have hfz7_1:=blk_frozen BK157.out 1;have hfz7_2:=blk_frozen BK157.out 2;have hfz7_3:=blk_frozen BK157.out 3;have hfz7_4:=blk_frozen BK157.out 4))
   go_ret
   exact ⟨by first|rfl|(simp [errW_none, errW_some] <;> rfl)|(simp [*, errW_none, errW_some] <;> rfl), by repeat (first|(with_reducible first|exact HB.out|apply below_alloc|apply pw_below_drewN|apply below_drew1|refine below_set ?_ GE157.out)|exact HB.out)⟩
 ·rw [if_neg c2] at H
  have c2b0 : decide ((a0_2.size : Int) ≤ 1500) = false := decide_eq_false c2
  have c2b1 : decide (a0_2.size ≤ 1500) = false := decide_eq_false (by omega)
  clear c2
  obtain rfl := Option.some.inj H
  go_enter Tryd.func10, Tryd.ntmps10
  go_wp2_with (first|((with_reducible refine gate_dst (N:=1) rfl ?_);(try (refine gate_guard (by rfl) ?_;dsimp only));refine box_event ?hg (N:=1) ?hd (cs:=#[.int .i64 a0_0, .int .i64 a0_1, .string a0_2, .slice A0_3 l0_3.length c0_3, .slice A0_4 l0_4.length c0_4]) (t:=25) ?hr ?_;(case hd => rfl);(case hg => rfl);(case hr => first|(go_simp;done)|(go_simp;rfl));intro gb157 hg w8 hbox hb;have n0_:=Aside0.mk (below_step (by repeat (first|(with_reducible first|exact HB.out|apply below_alloc|apply pw_below_drewN|apply below_drew1)|exact HB.out)) hb);have n1_:=Aside0.mk (hbox);have n2_:=Aside0.mk ((by rw [hg];exact (below_size (by repeat (first|(with_reducible first|exact HB.out|apply below_alloc|apply pw_below_drewN|apply below_drew1)|exact HB.out))) : w.heap.size ≤ gb157));have n3_:=Aside0.mk ((by rw [hg];exact (below_size (by repeat (first|(with_reducible first|exact HB.out|apply below_alloc|apply pw_below_drewN|apply below_drew1)|exact HB.out))) : w.heap.size ≤ gb157));clear HB;have HB:=n0_;have BK157:=n1_;have GW157:=n2_;have GE157:=n3_;clear n0_ n1_ n2_ n3_;clear hb hbox hg;have hcz9_0 : w8.cell? ⟨gb157, 0, none⟩ = some (.int .i64 a0_0):=(blk_cell BK157.out 0).trans rfl;have hcz9_1 : w8.cell? ⟨gb157, 1, none⟩ = some (.int .i64 a0_1):=(blk_cell BK157.out 1).trans rfl;have hcz9_2 : w8.cell? ⟨gb157, 2, none⟩ = some (.string a0_2):=(blk_cell BK157.out 2).trans rfl;have hcz9_3 : w8.cell? ⟨gb157, 3, none⟩ = some (.slice A0_3 l0_3.length c0_3):=(blk_cell BK157.out 3).trans rfl;have hcz9_4 : w8.cell? ⟨gb157, 4, none⟩ = some (.slice A0_4 l0_4.length c0_4):=(blk_cell BK157.out 4).trans rfl;have hfz9_0:=blk_frozen BK157.out 0;have hfz9_1:=blk_frozen BK157.out 1;have hfz9_2:=blk_frozen BK157.out 2;have hfz9_3:=blk_frozen BK157.out 3;have hfz9_4:=blk_frozen BK157.out 4))
  go_ret
  exact ⟨by first|rfl|(simp [errW_none, errW_some] <;> rfl)|(simp [*, errW_none, errW_some] <;> rfl), by repeat (first|(with_reducible first|exact HB.out|apply below_alloc|apply pw_below_drewN|apply below_drew1|refine below_set ?_ GE157.out)|exact HB.out)⟩

end Go.Proofs.YtjphmebhofkhcaaDoor.PSegAll
