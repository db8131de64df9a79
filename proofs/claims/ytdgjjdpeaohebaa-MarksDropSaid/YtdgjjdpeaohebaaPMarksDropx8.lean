-- Written by a program of this session around the given print (and over contracts of this session): not checked by anybody but Lean.
import Derived.Test.YtdgjjdpeaohebaaPMarksDropx0
import Derived.Test.YtdgjjdpeaohebaaPMarksDropx3
import Derived.Test.YtdgjjdpeaohebaaPMarksDropx5
import Derived.Test.YtdgjjdpeaohebaaPMarksDropx6
import Derived.Test.YtdgjjdpeaohebaaPMarksDropx7
import Derived.Test.YtdgjjdpeaohebaaGMarksDrop1
namespace Go.Proofs.Ytdgjjdpeaohebaa.PMarksDrop
open Go.RowKit Go.Proofs.YtdgjjdpeaohebaaW.PrintWords Go.Proofs.YtdgjjdpeaohebaaW.PrintLast Go.Proofs.YtdgjjdpeaohebaaW.PrintMore
attribute [local go_sem] max2_int min2_int max_two min_two max_three min_three max_four min_four   -- for this text's walks alone
set_option linter.unusedVariables false
set_option linter.unusedSimpArgs false

/-! ### chancellaw04_MarksDrop: function 4 -/
def chancellaw04_MarksDrop.j0 : Nat → Int → Bool → List (S26) → List (S38) → Int → Int → Int → Option (Bool)
  | 0, _, _, _, _, _, _, _ => none
  | k + 1, x1, x39, x162000, x162001, x162002, x162003, x162004 => if x39 = true then (some false) else ((chancellaw04_right.f k x162000 x162001 x162002 x162003 x162004).bind fun bt175 => (if bt175.2.2.2.2 = true then ((marks_Of.f k bt175.1 bt175.2.1 x1).bind fun bt190 => ((chancelref04_Of.f k bt175.2.2.1 bt175.2.2.2.1 x1).bind fun bt196 => ((marks_Drop.f bt175.1 bt175.2.1 x1).bind fun bt202 => ((marks_Of.f k bt202.1 bt202.2 x1).bind fun bt209 => ((chancelref04_Same.f k bt190.1 bt196.1 ([] : List (S38)) ([] : List (S38))).bind fun t215 => (if t215 = true then ((chancelref03_Ints.f k bt190.2 bt196.2).bind fun t216 => (if t216 = true then ((chancelref04_Drop.f k bt175.2.2.1 bt175.2.2.2.1 x1).bind fun bt217 => ((chancellaw04_same.f k bt202.1 bt202.2 bt217.1 bt217.2).bind fun t223 => (if t223 = true then (if (bt209.1.length : Int) = 0 then (some ((bt209.2.length : Int) == 0)) else (some false)) else (some false)))) else (some false))) else (some false))))))) else (some true)))
def chancellaw04_MarksDrop.f (k : Nat) (l0_0 : List (S26)) (l0_1 : List (S38)) (a0_2 : Int) (a0_3 : Int) (a0_4 : Int) (a1 : Int) : Option (Bool) := (marks_Of.f k (([(⟨7, 0, 3⟩ : S26)] : List (S26))) (([(⟨7, 2⟩ : S38)] : List (S38))) 7).bind fun bt168 => (if (bt168.1.length : Int) = 1 then (if (bt168.2.length : Int) = 1 then (if 0 < (bt168.2.length : Int) then (chancellaw04_MarksDrop.j0 k a1 ((rd bt168.2 0) != 2) l0_0 l0_1 a0_2 a0_3 a0_4) else (none)) else (chancellaw04_MarksDrop.j0 k a1 true l0_0 l0_1 a0_2 a0_3 a0_4)) else (chancellaw04_MarksDrop.j0 k a1 true l0_0 l0_1 a0_2 a0_3 a0_4))
theorem chancellaw04_MarksDrop.mono_l : ∀ k, (∀ y0 y1 y2 y3 y4 y5 y6, LeO (chancellaw04_MarksDrop.j0 k y0 y1 y2 y3 y4 y5 y6) (chancellaw04_MarksDrop.j0 (k + 1) y0 y1 y2 y3 y4 y5 y6))
  | 0 => fun _ _ _ _ _ _ _ r h => by simp [chancellaw04_MarksDrop.j0] at h
  | k + 1 => by
    have ih0 := chancellaw04_MarksDrop.mono_l k
    · intro y0 y1 y2 y3 y4 y5 y6
      unfold chancellaw04_MarksDrop.j0
      repeat' first
      | (with_reducible exact ih0 _ _ _ _ _ _ _)
      | (with_reducible exact chancellaw04_right.mono _ _ _ _ _ _)
      | (with_reducible exact chancellaw04_same.mono _ _ _ _ _)
      | (with_reducible exact chancelref03_Ints.mono _ _ _)
      | (with_reducible exact chancelref04_Drop.mono _ _ _ _)
      | (with_reducible exact chancelref04_Of.mono _ _ _ _)
      | (with_reducible exact chancelref04_Same.mono _ _ _ _ _)
      | (with_reducible exact marks_Of.mono _ _ _ _)
      | (with_reducible exact LeO.refl _)
      | (with_reducible exact LeO.none _)
      | (with_reducible refine LeO.ite ?_ ?_)
      | (with_reducible refine LeO.bind ?_ (fun _ => ?_))
      | exact ih0 _ _ _ _ _ _ _
      | exact chancellaw04_right.mono _ _ _ _ _ _
      | exact chancellaw04_same.mono _ _ _ _ _
      | exact chancelref03_Ints.mono _ _ _
      | exact chancelref04_Drop.mono _ _ _ _
      | exact chancelref04_Of.mono _ _ _ _
      | exact chancelref04_Same.mono _ _ _ _ _
      | exact marks_Of.mono _ _ _ _
      | exact LeO.none _
      | refine LeO.ite ?_ ?_
      | refine LeO.bind ?_ (fun _ => ?_)
theorem chancellaw04_MarksDrop.mono : ∀ a0 a1 a2 a3 a4 a5 k, LeO (chancellaw04_MarksDrop.f k a0 a1 a2 a3 a4 a5) (chancellaw04_MarksDrop.f (k + 1) a0 a1 a2 a3 a4 a5) := by
  intro a0 a1 a2 a3 a4 a5 k
  have ih0 := chancellaw04_MarksDrop.mono_l k
  unfold chancellaw04_MarksDrop.f
  repeat' first
      | (with_reducible exact ih0 _ _ _ _ _ _ _)
      | (with_reducible exact chancellaw04_right.mono _ _ _ _ _ _)
      | (with_reducible exact chancellaw04_same.mono _ _ _ _ _)
      | (with_reducible exact chancelref03_Ints.mono _ _ _)
      | (with_reducible exact chancelref04_Drop.mono _ _ _ _)
      | (with_reducible exact chancelref04_Of.mono _ _ _ _)
      | (with_reducible exact chancelref04_Same.mono _ _ _ _ _)
      | (with_reducible exact marks_Of.mono _ _ _ _)
      | (with_reducible exact LeO.refl _)
      | (with_reducible exact LeO.none _)
      | (with_reducible refine LeO.ite ?_ ?_)
      | (with_reducible refine LeO.bind ?_ (fun _ => ?_))
      | exact ih0 _ _ _ _ _ _ _
      | exact chancellaw04_right.mono _ _ _ _ _ _
      | exact chancellaw04_same.mono _ _ _ _ _
      | exact chancelref03_Ints.mono _ _ _
      | exact chancelref04_Drop.mono _ _ _ _
      | exact chancelref04_Of.mono _ _ _ _
      | exact chancelref04_Same.mono _ _ _ _ _
      | exact marks_Of.mono _ _ _ _
      | exact LeO.none _
      | refine LeO.ite ?_ ?_
      | refine LeO.bind ?_ (fun _ => ?_)
def chancellaw04_MarksDrop.T11 : Bool × List (List Nat × List Nat) := (true, [([], []), ([], []), ([0, 1], [0, 1]), ([2, 2], [2]), ([3], [3]), ([3], [3]), ([4, 5, 3, 3], [3, 4, 5]), ([3, 6], [3, 6]), ([7, 6], [7]), ([8], [8]), ([8], [8]), ([8], [8]), ([10, 11, 8, 8], [8, 10, 11]), ([9, 12, 12, 8], [8, 9, 12]), ([8, 13], [8, 13]), ([14, 13], [14]), ([15], [15]), ([16, 15], [15, 16]), ([17, 15], [15, 17]), ([15, 18], [15, 18]), ([19, 15], [19]), ([20], [20]), ([21, 20], [20, 21]), ([22, 20], [20, 22]), ([20, 23], [20, 23]), ([24, 20, 0, 1, 2, 3, 4, 5, 6, 7, 8, 9, 10, 11, 12, 13, 14, 15, 16, 17, 18, 19, 20, 21, 22, 23, 24], [24])])
def chancellaw04_MarksDrop.B11 : List Nat := [0, 0, 3, 7, 15, 15, 63, 127, 255, 511, 511, 511, 3583, 8191, 16383, 32767, 65535, 131071, 262143, 524287, 1048575, 2097151, 4194303, 8388607, 16777215, 33554431]
theorem chancellaw04_MarksDrop.tab11 : rtab .any (opsOf Try.f4 11) = chancellaw04_MarksDrop.T11 := by kernel_rfl
theorem chancellaw04_MarksDrop.bits11 : waitsOk chancellaw04_MarksDrop.T11.2 chancellaw04_MarksDrop.B11 = true := by kernel_rfl
set_option maxHeartbeats 8000000 in
set_option maxRecDepth 100000 in
theorem chancellaw04_MarksDrop.calls (k : Nat) (A0_0 : Option Addr) (c0_0 : Nat) (l0_0 : List (S26)) (A0_1 : Option Addr) (c0_1 : Nat) (l0_1 : List (S38)) (a0_2 : Int) (a0_3 : Int) (a0_4 : Int) (a1 : Int) (r : Bool) (hR_ : Aside0 (r = true)) (w : World) (hr0_0 : Kd.C k26 w A0_0 l0_0.length l0_0) (hc0_0 : l0_0.length ≤ c0_0) (hr0_1 : Kd.C k38 w A0_1 l0_1.length l0_1) (hc0_1 : l0_1.length ≤ c0_1) (h : chancellaw04_MarksDrop.f k l0_0 l0_1 a0_2 a0_3 a0_4 a1 = some r) :
    Calls Try.prog 4 #[.agg #[.slice A0_0 l0_0.length c0_0, .slice A0_1 l0_1.length c0_1, .int .i64 a0_2, .int .i64 a0_3, .int .i64 a0_4], .int .i64 a1] w fun e w' => e = .returned (.bool r) ∧ Below w.heap.size w w' := by
  have hu33 := Try.underlying33
  have hu26 := Try.underlying26
  have hu38 := Try.underlying38
  have hu28 := Try.underlying28
  have hu30 := Try.underlying30
  have HR0_0 := Aside0.mk hr0_0
  have HC0_0 := Aside0.mk hc0_0
  clear hr0_0 hc0_0
  have HR0_1 := Aside0.mk hr0_1
  have HC0_1 := Aside0.mk hc0_1
  clear hr0_1 hc0_1
  have HB := Aside0.mk (Below.refl w.heap.size w)
  have H : ((marks_Of.f k (([(⟨7, 0, 3⟩ : S26)] : List (S26))) (([(⟨7, 2⟩ : S38)] : List (S38))) 7).bind fun bt168 => (if (bt168.1.length : Int) = 1 then (if (bt168.2.length : Int) = 1 then (if 0 < (bt168.2.length : Int) then (chancellaw04_MarksDrop.j0 k a1 ((rd bt168.2 0) != 2) l0_0 l0_1 a0_2 a0_3 a0_4) else (none)) else (chancellaw04_MarksDrop.j0 k a1 true l0_0 l0_1 a0_2 a0_3 a0_4)) else (chancellaw04_MarksDrop.j0 k a1 true l0_0 l0_1 a0_2 a0_3 a0_4))) = some r := h
  clear h
  obtain ⟨y162, hy162⟩ : ∃ y_ : List (S26), y_ = (([(⟨7, 0, 3⟩ : S26)] : List (S26))) := ⟨_, rfl⟩
  replace H : ((marks_Of.f k y162 (([(⟨7, 2⟩ : S38)] : List (S38))) 7).bind fun bt168 => (if (bt168.1.length : Int) = 1 then (if (bt168.2.length : Int) = 1 then (if 0 < (bt168.2.length : Int) then (chancellaw04_MarksDrop.j0 k a1 ((rd bt168.2 0) != 2) l0_0 l0_1 a0_2 a0_3 a0_4) else (none)) else (chancellaw04_MarksDrop.j0 k a1 true l0_0 l0_1 a0_2 a0_3 a0_4)) else (chancellaw04_MarksDrop.j0 k a1 true l0_0 l0_1 a0_2 a0_3 a0_4))) = some r:=by first|(rw [hy162];with_reducible exact H)|(have H2_:=(Option.bind_some _ _).symm.trans H;rw [hy162];with_reducible exact H2_)|(have H2_:=(Option.bind_some _ _).symm.trans H;with_reducible exact H2_)|with_reducible exact H|(rw [hy162];exact H)|exact H
  have Ny162 := Aside0.mk hy162
  clear hy162
  obtain ⟨y165, hy165⟩ : ∃ y_ : List (S38), y_ = (([(⟨7, 2⟩ : S38)] : List (S38))) := ⟨_, rfl⟩
  replace H : ((marks_Of.f k y162 y165 7).bind fun bt168 => (if (bt168.1.length : Int) = 1 then (if (bt168.2.length : Int) = 1 then (if 0 < (bt168.2.length : Int) then (chancellaw04_MarksDrop.j0 k a1 ((rd bt168.2 0) != 2) l0_0 l0_1 a0_2 a0_3 a0_4) else (none)) else (chancellaw04_MarksDrop.j0 k a1 true l0_0 l0_1 a0_2 a0_3 a0_4)) else (chancellaw04_MarksDrop.j0 k a1 true l0_0 l0_1 a0_2 a0_3 a0_4))) = some r:=by first|(rw [hy165];with_reducible exact H)|(have H2_:=(Option.bind_some _ _).symm.trans H;rw [hy165];with_reducible exact H2_)|(have H2_:=(Option.bind_some _ _).symm.trans H;with_reducible exact H2_)|with_reducible exact H|(rw [hy165];exact H)|exact H
  have Ny165 := Aside0.mk hy165
  clear hy165
  replace H := Option.bind_eq_some_iff.mp H
  obtain ⟨⟨t168, t171⟩, A30, H⟩ := H
  replace H : (if (t168.length : Int) = 1 then (if (t171.length : Int) = 1 then (if 0 < (t171.length : Int) then (chancellaw04_MarksDrop.j0 k a1 ((rd t171 0) != 2) l0_0 l0_1 a0_2 a0_3 a0_4) else (none)) else (chancellaw04_MarksDrop.j0 k a1 true l0_0 l0_1 a0_2 a0_3 a0_4)) else (chancellaw04_MarksDrop.j0 k a1 true l0_0 l0_1 a0_2 a0_3 a0_4)) = some r := H
  have A3 := Aside0.mk A30
  clear A30
  have HC4 := Aside0.mk H
  clear H
  go_enter Try.func4, Try.ntmps4
  go_upto_region 2 with (first|((with_reducible refine gate_dst (N:=2) rfl ?_);(try (refine gate_guard (by rfl) ?_;dsimp only));refine box_event ?hg (N:=2) ?hd (cs:=#[.slice A0_0 l0_0.length c0_0, .slice A0_1 l0_1.length c0_1, .int .i64 a0_2, .int .i64 a0_3, .int .i64 a0_4]) (t:=33) ?hr ?_;(case hd => rfl);(case hg => rfl);(case hr => first|(go_simp;done)|(go_simp;rfl));intro gb161 hg w5 hbox hb;have n0_:=Aside0.mk (below_step (by repeat (first|(with_reducible first|exact HB.out|apply below_alloc|apply pw_below_drewN|apply below_drew1)|exact HB.out)) hb);have n1_:=Aside0.mk (hbox);have n2_:=Aside0.mk ((by rw [hg];exact (below_size (by repeat (first|(with_reducible first|exact HB.out|apply below_alloc|apply pw_below_drewN|apply below_drew1)|exact HB.out))) : w.heap.size ≤ gb161));have n3_:=Aside0.mk ((by rw [hg];exact (below_size (by repeat (first|(with_reducible first|exact HB.out|apply below_alloc|apply pw_below_drewN|apply below_drew1)|exact HB.out))) : w.heap.size ≤ gb161));clear HB;have HB:=n0_;have BK161:=n1_;have GW161:=n2_;have GE161:=n3_;clear n0_ n1_ n2_ n3_;clear hb hbox hg)|((with_reducible refine gate_dst (N:=19) rfl ?_);(try (refine gate_guard (by rfl) ?_;dsimp only));refine Kd.R_lit k26 _ 26 ?hg (N:=19) ?hd (xs:=([(⟨7, 0, 3⟩ : S26)] : List (S26))) (inner:=[.int .i64 7, .int .i64 0, .int .i64 3]) (ok:=fun _ => True) (okp:=fun _ => True) ?hr ?hp (fun _ hk => hk) trivial (Below.refl _ _) (Nat.le_refl _) (by simp) ?_;(case hd => rfl);(case hg => rfl);(case hr => first|(go_simp;done)|(go_simp;rfl));(case hp => exact (Reps.c3 (show Kd.M k26 _ _ _ (⟨7, 0, 3⟩ : S26) [.int .i64 7, .int .i64 0, .int .i64 3] from (k26_mkM _ _ _ (⟨7, 0, 3⟩ : S26) )) (Reps.none _ _)));intro v163 w6 ho7 hb hg_ hnew_;clear hg_ hnew_;(first|rw [← Ny162.out] at ho7|(simp only [Int.reduceToNat] at ho7;rw [← Ny162.out] at ho7));have n0_:=Aside0.mk (Kd.R_lower ho7 (below_size (by repeat (first|(with_reducible first|exact HB.out|apply below_alloc|apply pw_below_drewN|apply below_drew1|refine below_set ?_ GE161.out)|exact HB.out))));have n1_:=Aside0.mk (blk_below (g:=gb161) (o:=.cells #[.slice A0_0 l0_0.length c0_0, .slice A0_1 l0_1.length c0_1, .int .i64 a0_2, .int .i64 a0_3, .int .i64 a0_4] 33 (0, 0)) (by (with_reducible repeat (first|refine blk_drewN ?_ _|refine blk_drew ?_|refine blk_alloc ?_ _));exact BK161.out) hb);have n2_:=Aside0.mk (below_step (by repeat (first|(with_reducible first|exact HB.out|apply below_alloc|apply pw_below_drewN|apply below_drew1|refine below_set ?_ GE161.out)|exact HB.out)) hb);clear BK161;clear HB;have HO164:=n0_;have BK161:=n1_;have HB:=n2_;clear n0_ n1_ n2_;clear hb ho7)|((with_reducible refine gate_dst (N:=21) rfl ?_);(try (refine gate_guard (by rfl) ?_;dsimp only));refine Kd.R_lit k38 _ 38 ?hg (N:=21) ?hd (xs:=([(⟨7, 2⟩ : S38)] : List (S38))) (inner:=[.int .i64 7, .int .i64 2]) (ok:=fun _ => True) (okp:=fun _ => True) ?hr ?hp (fun _ hk => hk) trivial (Below.refl _ _) (Nat.le_refl _) (by simp) ?_;(case hd => rfl);(case hg => rfl);(case hr => first|(go_simp;done)|(go_simp;rfl));(case hp => exact (Reps.c2 (show Kd.M k38 _ _ _ (⟨7, 2⟩ : S38) [.int .i64 7, .int .i64 2] from (k38_mkM _ _ _ (⟨7, 2⟩ : S38) )) (Reps.none _ _)));intro v166 w8 ho9 hb hg_ hnew_;clear hg_ hnew_;(first|rw [← Ny165.out] at ho9|(simp only [Int.reduceToNat] at ho9;rw [← Ny165.out] at ho9));have n0_:=Aside0.mk (Kd.R_below (by (with_reducible repeat (first|apply Kd.R_alloc|apply Kd.R_drewN|apply Kd.R_drew));exact HO164.out) hb);have n1_:=Aside0.mk (Kd.R_lower ho9 (below_size (by repeat (first|(with_reducible first|exact HB.out|apply below_alloc|apply pw_below_drewN|apply below_drew1|refine below_set ?_ GE161.out)|exact HB.out))));have n2_:=Aside0.mk (blk_below (g:=gb161) (o:=.cells #[.slice A0_0 l0_0.length c0_0, .slice A0_1 l0_1.length c0_1, .int .i64 a0_2, .int .i64 a0_3, .int .i64 a0_4] 33 (0, 0)) (by (with_reducible repeat (first|refine blk_drewN ?_ _|refine blk_drew ?_|refine blk_alloc ?_ _));exact BK161.out) hb);have n3_:=Aside0.mk (below_step (by repeat (first|(with_reducible first|exact HB.out|apply below_alloc|apply pw_below_drewN|apply below_drew1|refine below_set ?_ GE161.out)|exact HB.out)) hb);clear HO164;clear BK161;clear HB;have HO164:=n0_;have HO167:=n1_;have BK161:=n2_;have HB:=n3_;clear n0_ n1_ n2_ n3_;clear hb ho9;obtain ⟨Ao10, co10, eo10⟩:=Kd.R_slice HO167.out;subst eo10;obtain ⟨Ao11, co11, eo11⟩:=Kd.R_slice HO164.out;subst eo11)|((with_reducible refine gate_callee (f:=11) rfl ?_);refine goesL_ (some 23) rfl rfl Try.func11 (by kernel_rfl) rfl #[.agg #[.slice Ao11 y162.length co11, .slice Ao10 y165.length co10], .int .i64 7] rfl (by (try simp only [List.map_toArray, List.map_cons, List.map_nil]);first|done|rfl|(simp only [List.length_drop, List.length_take];rfl)) ?_;(with_reducible refine (marks_Of.calls k _ _ y162 _ _ y165 7 t168 t171 _ ?side1 ?side2 ?side3 ?side4 A3.out).mono ?_);(case side1 => repeat (first|exact (Kd.R_reads' HO164.out).2.2|(with_reducible refine Kd.C_alloc ?_ _)|(with_reducible refine Kd.C_drewN ?_ _)|(with_reducible refine Kd.C_drew ?_)));(case side2 => exact (Kd.R_reads' HO164.out).2.1);(case side3 => repeat (first|exact (Kd.R_reads' HO167.out).2.2|(with_reducible refine Kd.C_alloc ?_ _)|(with_reducible refine Kd.C_drewN ?_ _)|(with_reducible refine Kd.C_drew ?_)));(case side4 => exact (Kd.R_reads' HO167.out).2.1);rintro e w12 ⟨v169, v172, rfl, ho0, ho1, hb⟩;refine ⟨_, rfl, ?_⟩;have n0_:=Aside0.mk (Kd.R_elder' (by (with_reducible repeat (first|apply Kd.R_alloc|apply Kd.R_drewN|apply Kd.R_drew));exact HO164.out) (Kd.R_base ho0) hb);have n1_:=Aside0.mk (Kd.R_below (by (with_reducible repeat (first|apply Kd.R_alloc|apply Kd.R_drewN|apply Kd.R_drew));exact HO167.out) hb);have n2_:=Aside0.mk (Kd.R_lower (Kd.R_new' ho0 (Kd.R_lt (by (with_reducible repeat (first|apply Kd.R_alloc|apply Kd.R_drewN|apply Kd.R_drew));exact HO164.out))) (below_size (by repeat (first|(with_reducible first|exact HB.out|apply below_alloc|apply pw_below_drewN|apply below_drew1|refine below_set ?_ GE161.out)|exact HB.out))));have n3_:=Aside0.mk (Kd.R_lower ho1 (below_size (by repeat (first|(with_reducible first|exact HB.out|apply below_alloc|apply pw_below_drewN|apply below_drew1|refine below_set ?_ GE161.out)|exact HB.out))));have n4_:=Aside0.mk (blk_below (g:=gb161) (o:=.cells #[.slice A0_0 l0_0.length c0_0, .slice A0_1 l0_1.length c0_1, .int .i64 a0_2, .int .i64 a0_3, .int .i64 a0_4] 33 (0, 0)) (by (with_reducible repeat (first|refine blk_drewN ?_ _|refine blk_drew ?_|refine blk_alloc ?_ _));exact BK161.out) hb);have n5_:=Aside0.mk (below_step (by repeat (first|(with_reducible first|exact HB.out|apply below_alloc|apply pw_below_drewN|apply below_drew1|refine below_set ?_ GE161.out)|exact HB.out)) hb);clear HO164;clear HO167;clear BK161;clear HB;have HO164:=n0_;have HO167:=n1_;have HO170:=n2_;have HO173:=n3_;have BK161:=n4_;have HB:=n5_;clear n0_ n1_ n2_ n3_ n4_ n5_;(try clear hb);(try clear hb2);(try clear hk);(try clear hi);(try clear ho0);(try clear ho1)))
  (try simp only [Act.put, List.setIfInBounds_toArray, List.set_cons_zero, List.set_cons_succ])
  go_cut [39] (fun v39 wc => ∃ (kq : Nat) (x39_3 : Bool), v39 = .bool x39_3 ∧ Aside0 (chancellaw04_MarksDrop.j0 kq a1 x39_3 l0_0 l0_1 a0_2 a0_3 a0_4 = some r) ∧ Aside0 (kq ≤ k) ∧ Aside0 (wc.heap[gb161]? = some (.cells #[(.slice A0_0 l0_0.length c0_0), (.slice A0_1 l0_1.length c0_1), .int .i64 a0_2, .int .i64 a0_3, .int .i64 a0_4] 33 (0, 0))) ∧ Aside0 (Below w.heap.size w wc))
  case first =>
    have H := HC4.out
    clear HC4
    by_cases c13 : (t168.length : Int) = 1
    · rw [if_pos c13] at H
      have c13b0 : ((t168.length : Int) == 1) = true := beq_iff_eq.mpr c13
      have c13b1 : ((t168.length : Int) != 1) = false := bne_eq_false_iff_eq.mpr c13
      clear c13
      (first | rw [c13b0] | (simp only [i64_w, i32_w]; rw [c13b0]) | skip)
      by_cases c14 : (t171.length : Int) = 1
      · rw [if_pos c14] at H
        have c14b0 : ((t171.length : Int) == 1) = true := beq_iff_eq.mpr c14
        have c14b1 : ((t171.length : Int) != 1) = false := bne_eq_false_iff_eq.mpr c14
        clear c14
        by_cases c15 : 0 < (t171.length : Int)
        · rw [if_pos c15] at H
          have c15b0 : decide (0 < (t171.length : Int)) = true := decide_eq_true c15
          have c15b1 : decide (0 < t171.length) = true := decide_eq_true (by omega)
          clear c15
          have H' := Aside0.mk H
          clear H
          obtain ⟨Ao16, co16, eo16⟩ := Kd.R_slice HO170.out
          subst eo16
          obtain ⟨Ao17, co17, eo17⟩ := Kd.R_slice HO173.out
          subst eo17
          have p174 : 0 ≤ (0 : Int) := (by omega)
          have q174 : 0 < (t171.length : Int):=of_decide_eq_true (by first|(with_reducible assumption)|assumption)
          obtain ⟨ad174, e174, hx174_0⟩ := Kd.at_int (Kd.R_reads' HO173.out).2.2 0 p174 q174
          cases e174
          have qi174 : (0 < t171.length) = True := eq_true (by omega)
          (try rw [show ((0 : Int)).toNat = 0 from rfl] at hx174_0)
          (try rw [Addr.add_zero'] at hx174_0)
          replace p174 := eq_true p174
          replace q174 := eq_true q174
          go_wp2
          go_meet
          case rel => exact ⟨_, (((rd t171 0) != 2)), (by first|rfl|(simp;done)|(simp [*];done)), H', ⟨by first|omega|exact Nat.le_refl _⟩, ⟨by (with_reducible repeat (first|refine blk_drewN ?_ _|refine blk_drew ?_|refine blk_alloc ?_ _));exact BK161.out⟩, ⟨by repeat (first|(with_reducible first|exact HB.out|apply below_alloc|apply pw_below_drewN|apply below_drew1|refine below_set ?_ GE161.out)|exact HB.out)⟩⟩
        · rw [if_neg c15] at H
          exact absurd H (by simp)
      · rw [if_neg c14] at H
        have c14b0 : ((t171.length : Int) == 1) = false := beq_eq_false_iff_ne.mpr c14
        have c14b1 : ((t171.length : Int) != 1) = true := bne_iff_ne.mpr c14
        have H' := Aside0.mk H
        clear H
        obtain ⟨Ao18, co18, eo18⟩ := Kd.R_slice HO170.out
        subst eo18
        obtain ⟨Ao19, co19, eo19⟩ := Kd.R_slice HO173.out
        subst eo19
        go_wp2
        go_meet
        case rel => exact ⟨_, (true), (by first|rfl|(simp;done)|(simp [*];done)), H', ⟨by first|omega|exact Nat.le_refl _⟩, ⟨by (with_reducible repeat (first|refine blk_drewN ?_ _|refine blk_drew ?_|refine blk_alloc ?_ _));exact BK161.out⟩, ⟨by repeat (first|(with_reducible first|exact HB.out|apply below_alloc|apply pw_below_drewN|apply below_drew1|refine below_set ?_ GE161.out)|exact HB.out)⟩⟩
    · rw [if_neg c13] at H
      have c13b0 : ((t168.length : Int) == 1) = false := beq_eq_false_iff_ne.mpr c13
      have c13b1 : ((t168.length : Int) != 1) = true := bne_iff_ne.mpr c13
      (first | rw [c13b0] | (simp only [i64_w, i32_w]; rw [c13b0]) | skip)
      have H' := Aside0.mk H
      clear H
      obtain ⟨Ao20, co20, eo20⟩ := Kd.R_slice HO170.out
      subst eo20
      go_wp2
      go_meet
      case rel => exact ⟨_, (true), (by first|rfl|(simp;done)|(simp [*];done)), H', ⟨by first|omega|exact Nat.le_refl _⟩, ⟨by (with_reducible repeat (first|refine blk_drewN ?_ _|refine blk_drew ?_|refine blk_alloc ?_ _));exact BK161.out⟩, ⟨by repeat (first|(with_reducible first|exact HB.out|apply below_alloc|apply pw_below_drewN|apply below_drew1|refine below_set ?_ GE161.out)|exact HB.out)⟩⟩
  case rest =>
    clear HC4
    try clear c1
    try clear p1
    try clear q1
    try clear hx1
    try clear qi1
    try clear c2
    try clear p2
    try clear c3
    try clear c4
    try clear c11
    try clear c13
    try clear c13b0
    try clear c13b1
    try clear c14
    try clear c14b0
    try clear c14b1
    try clear c15
    try clear c15b0
    try clear c15b1
    try clear p17
    try clear q17
    try clear hx17
    try clear qi17
    try clear hx174_0
    try clear p174
    try clear q174
    obtain ⟨kq, x39_3, rfl, HA, HJ3, BK161, HB⟩ := hcut
    cases kq with
    | zero => exact absurd HA.out (by simp [chancellaw04_MarksDrop.j0])
    | succ kj3 =>
      have H := HA.out
      clear HA
      simp only [chancellaw04_MarksDrop.j0] at H
      by_cases c21 : x39_3 = true
      · subst c21
        have H1 : (some false) = some r := by rw [if_pos rfl] at H; exact H
        exact absurd ((Option.some.inj H1).trans hR_.out) (by decide)
      · replace c21 := Bool.eq_false_iff.mpr c21
        subst c21
        have H1 : ((chancellaw04_right.f kj3 l0_0 l0_1 a0_2 a0_3 a0_4).bind fun bt175 => (if bt175.2.2.2.2 = true then ((marks_Of.f kj3 bt175.1 bt175.2.1 a1).bind fun bt190 => ((chancelref04_Of.f kj3 bt175.2.2.1 bt175.2.2.2.1 a1).bind fun bt196 => ((marks_Drop.f bt175.1 bt175.2.1 a1).bind fun bt202 => ((marks_Of.f kj3 bt202.1 bt202.2 a1).bind fun bt209 => ((chancelref04_Same.f kj3 bt190.1 bt196.1 ([] : List (S38)) ([] : List (S38))).bind fun t215 => (if t215 = true then ((chancelref03_Ints.f kj3 bt190.2 bt196.2).bind fun t216 => (if t216 = true then ((chancelref04_Drop.f kj3 bt175.2.2.1 bt175.2.2.2.1 a1).bind fun bt217 => ((chancellaw04_same.f kj3 bt202.1 bt202.2 bt217.1 bt217.2).bind fun t223 => (if t223 = true then (if (bt209.1.length : Int) = 0 then (some ((bt209.2.length : Int) == 0)) else (some false)) else (some false)))) else (some false))) else (some false))))))) else (some true))) = some r := by rw [if_neg (show ¬ (false = true) by decide)] at H; exact H
        clear H
        have H := H1
        clear H1
        replace H := Option.bind_eq_some_iff.mp H
        obtain ⟨⟨t175, t178, t181, t184, t187⟩, A220, H⟩ := H
        replace H : (if t187 = true then ((marks_Of.f kj3 t175 t178 a1).bind fun bt190 => ((chancelref04_Of.f kj3 t181 t184 a1).bind fun bt196 => ((marks_Drop.f t175 t178 a1).bind fun bt202 => ((marks_Of.f kj3 bt202.1 bt202.2 a1).bind fun bt209 => ((chancelref04_Same.f kj3 bt190.1 bt196.1 ([] : List (S38)) ([] : List (S38))).bind fun t215 => (if t215 = true then ((chancelref03_Ints.f kj3 bt190.2 bt196.2).bind fun t216 => (if t216 = true then ((chancelref04_Drop.f kj3 t181 t184 a1).bind fun bt217 => ((chancellaw04_same.f kj3 bt202.1 bt202.2 bt217.1 bt217.2).bind fun t223 => (if t223 = true then (if (bt209.1.length : Int) = 0 then (some ((bt209.2.length : Int) == 0)) else (some false)) else (some false)))) else (some false))) else (some false))))))) else (some true)) = some r := H
        have A22 := Aside0.mk A220
        clear A220
        by_cases c23 : t187 = true
        · subst c23
          have H1 : ((marks_Of.f kj3 t175 t178 a1).bind fun bt190 => ((chancelref04_Of.f kj3 t181 t184 a1).bind fun bt196 => ((marks_Drop.f t175 t178 a1).bind fun bt202 => ((marks_Of.f kj3 bt202.1 bt202.2 a1).bind fun bt209 => ((chancelref04_Same.f kj3 bt190.1 bt196.1 ([] : List (S38)) ([] : List (S38))).bind fun t215 => (if t215 = true then ((chancelref03_Ints.f kj3 bt190.2 bt196.2).bind fun t216 => (if t216 = true then ((chancelref04_Drop.f kj3 t181 t184 a1).bind fun bt217 => ((chancellaw04_same.f kj3 bt202.1 bt202.2 bt217.1 bt217.2).bind fun t223 => (if t223 = true then (if (bt209.1.length : Int) = 0 then (some ((bt209.2.length : Int) == 0)) else (some false)) else (some false)))) else (some false))) else (some false))))))) = some r := by rw [if_pos rfl] at H; exact H
          clear H
          have H := H1
          clear H1
          replace H := Option.bind_eq_some_iff.mp H
          obtain ⟨⟨t190, t193⟩, A240, H⟩ := H
          replace H : ((chancelref04_Of.f kj3 t181 t184 a1).bind fun bt196 => ((marks_Drop.f t175 t178 a1).bind fun bt202 => ((marks_Of.f kj3 bt202.1 bt202.2 a1).bind fun bt209 => ((chancelref04_Same.f kj3 t190 bt196.1 ([] : List (S38)) ([] : List (S38))).bind fun t215 => (if t215 = true then ((chancelref03_Ints.f kj3 t193 bt196.2).bind fun t216 => (if t216 = true then ((chancelref04_Drop.f kj3 t181 t184 a1).bind fun bt217 => ((chancellaw04_same.f kj3 bt202.1 bt202.2 bt217.1 bt217.2).bind fun t223 => (if t223 = true then (if (bt209.1.length : Int) = 0 then (some ((bt209.2.length : Int) == 0)) else (some false)) else (some false)))) else (some false))) else (some false)))))) = some r := H
          have A24 := Aside0.mk A240
          clear A240
          replace H := Option.bind_eq_some_iff.mp H
          obtain ⟨⟨t196, t199⟩, A250, H⟩ := H
          replace H : ((marks_Drop.f t175 t178 a1).bind fun bt202 => ((marks_Of.f kj3 bt202.1 bt202.2 a1).bind fun bt209 => ((chancelref04_Same.f kj3 t190 t196 ([] : List (S38)) ([] : List (S38))).bind fun t215 => (if t215 = true then ((chancelref03_Ints.f kj3 t193 t199).bind fun t216 => (if t216 = true then ((chancelref04_Drop.f kj3 t181 t184 a1).bind fun bt217 => ((chancellaw04_same.f kj3 bt202.1 bt202.2 bt217.1 bt217.2).bind fun t223 => (if t223 = true then (if (bt209.1.length : Int) = 0 then (some ((bt209.2.length : Int) == 0)) else (some false)) else (some false)))) else (some false))) else (some false))))) = some r := H
          have A25 := Aside0.mk A250
          clear A250
          replace H := Option.bind_eq_some_iff.mp H
          obtain ⟨⟨t202, t205⟩, A260, H⟩ := H
          replace H : ((marks_Of.f kj3 t202 t205 a1).bind fun bt209 => ((chancelref04_Same.f kj3 t190 t196 ([] : List (S38)) ([] : List (S38))).bind fun t215 => (if t215 = true then ((chancelref03_Ints.f kj3 t193 t199).bind fun t216 => (if t216 = true then ((chancelref04_Drop.f kj3 t181 t184 a1).bind fun bt217 => ((chancellaw04_same.f kj3 t202 t205 bt217.1 bt217.2).bind fun t223 => (if t223 = true then (if (bt209.1.length : Int) = 0 then (some ((bt209.2.length : Int) == 0)) else (some false)) else (some false)))) else (some false))) else (some false)))) = some r := H
          have A26 := Aside0.mk A260
          clear A260
          replace H := Option.bind_eq_some_iff.mp H
          obtain ⟨⟨t209, t212⟩, A270, H⟩ := H
          replace H : ((chancelref04_Same.f kj3 t190 t196 ([] : List (S38)) ([] : List (S38))).bind fun t215 => (if t215 = true then ((chancelref03_Ints.f kj3 t193 t199).bind fun t216 => (if t216 = true then ((chancelref04_Drop.f kj3 t181 t184 a1).bind fun bt217 => ((chancellaw04_same.f kj3 t202 t205 bt217.1 bt217.2).bind fun t223 => (if t223 = true then (if (t209.length : Int) = 0 then (some ((t212.length : Int) == 0)) else (some false)) else (some false)))) else (some false))) else (some false))) = some r := H
          have A27 := Aside0.mk A270
          clear A270
          replace H := Option.bind_eq_some_iff.mp H
          obtain ⟨t215, A280, H⟩ := H
          replace H : (if t215 = true then ((chancelref03_Ints.f kj3 t193 t199).bind fun t216 => (if t216 = true then ((chancelref04_Drop.f kj3 t181 t184 a1).bind fun bt217 => ((chancellaw04_same.f kj3 t202 t205 bt217.1 bt217.2).bind fun t223 => (if t223 = true then (if (t209.length : Int) = 0 then (some ((t212.length : Int) == 0)) else (some false)) else (some false)))) else (some false))) else (some false)) = some r := H
          have A28 := Aside0.mk A280
          clear A280
          by_cases c29 : t215 = true
          · subst c29
            have H1 : ((chancelref03_Ints.f kj3 t193 t199).bind fun t216 => (if t216 = true then ((chancelref04_Drop.f kj3 t181 t184 a1).bind fun bt217 => ((chancellaw04_same.f kj3 t202 t205 bt217.1 bt217.2).bind fun t223 => (if t223 = true then (if (t209.length : Int) = 0 then (some ((t212.length : Int) == 0)) else (some false)) else (some false)))) else (some false))) = some r := by rw [if_pos rfl] at H; exact H
            clear H
            have H := H1
            clear H1
            replace H := Option.bind_eq_some_iff.mp H
            obtain ⟨t216, A300, H⟩ := H
            replace H : (if t216 = true then ((chancelref04_Drop.f kj3 t181 t184 a1).bind fun bt217 => ((chancellaw04_same.f kj3 t202 t205 bt217.1 bt217.2).bind fun t223 => (if t223 = true then (if (t209.length : Int) = 0 then (some ((t212.length : Int) == 0)) else (some false)) else (some false)))) else (some false)) = some r := H
            have A30 := Aside0.mk A300
            clear A300
            by_cases c31 : t216 = true
            · subst c31
              have H1 : ((chancelref04_Drop.f kj3 t181 t184 a1).bind fun bt217 => ((chancellaw04_same.f kj3 t202 t205 bt217.1 bt217.2).bind fun t223 => (if t223 = true then (if (t209.length : Int) = 0 then (some ((t212.length : Int) == 0)) else (some false)) else (some false)))) = some r := by rw [if_pos rfl] at H; exact H
              clear H
              have H := H1
              clear H1
              replace H := Option.bind_eq_some_iff.mp H
              obtain ⟨⟨t217, t220⟩, A320, H⟩ := H
              replace H : ((chancellaw04_same.f kj3 t202 t205 t217 t220).bind fun t223 => (if t223 = true then (if (t209.length : Int) = 0 then (some ((t212.length : Int) == 0)) else (some false)) else (some false))) = some r := H
              have A32 := Aside0.mk A320
              clear A320
              replace H := Option.bind_eq_some_iff.mp H
              obtain ⟨t223, A330, H⟩ := H
              replace H : (if t223 = true then (if (t209.length : Int) = 0 then (some ((t212.length : Int) == 0)) else (some false)) else (some false)) = some r := H
              have A33 := Aside0.mk A330
              clear A330
              by_cases c34 : t223 = true
              · subst c34
                have H1 : (if (t209.length : Int) = 0 then (some ((t212.length : Int) == 0)) else (some false)) = some r := by rw [if_pos rfl] at H; exact H
                clear H
                have H := H1
                clear H1
                by_cases c35 : (t209.length : Int) = 0
                · rw [if_pos c35] at H
                  have c35b0 : ((t209.length : Int) == 0) = true := beq_iff_eq.mpr c35
                  have c35b1 : ((t209.length : Int) != 0) = false := bne_eq_false_iff_eq.mpr c35
                  clear c35
                  obtain rfl := Option.some.inj H
                  have hcz36_0 : wc.cell? ⟨gb161, 0, none⟩ = some (.slice A0_0 l0_0.length c0_0) := (blk_cell BK161.out 0).trans rfl
                  have hcz36_1 : wc.cell? ⟨gb161, 1, none⟩ = some (.slice A0_1 l0_1.length c0_1) := (blk_cell BK161.out 1).trans rfl
                  have hcz36_2 : wc.cell? ⟨gb161, 2, none⟩ = some (.int .i64 a0_2) := (blk_cell BK161.out 2).trans rfl
                  have hcz36_3 : wc.cell? ⟨gb161, 3, none⟩ = some (.int .i64 a0_3) := (blk_cell BK161.out 3).trans rfl
                  have hcz36_4 : wc.cell? ⟨gb161, 4, none⟩ = some (.int .i64 a0_4) := (blk_cell BK161.out 4).trans rfl
                  have hfz36_0 := blk_frozen BK161.out 0
                  have hfz36_1 := blk_frozen BK161.out 1
                  have hfz36_2 := blk_frozen BK161.out 2
                  have hfz36_3 := blk_frozen BK161.out 3
                  have hfz36_4 := blk_frozen BK161.out 4
                  try go_wp2_with (first|((with_reducible refine gate_callee (f:=12) rfl ?_);refine goesL_ (some 42) rfl rfl Try.func12 (by kernel_rfl) rfl #[.agg #[.slice A0_0 l0_0.length c0_0, .slice A0_1 l0_1.length c0_1, .int .i64 a0_2, .int .i64 a0_3, .int .i64 a0_4]] rfl (by (try simp only [List.map_toArray, List.map_cons, List.map_nil]);first|done|rfl|(simp only [List.length_drop, List.length_take];rfl)) ?_;(with_reducible refine (chancellaw04_right.calls kj3 (fun k_ => k_ < w.heap.size) _ _ l0_0 (fun k_ => k_ < w.heap.size) _ _ l0_1 a0_2 a0_3 a0_4 t175 t178 t181 t184 true _ ?side1 ?side2 A22.out).mono ?_);(case side1 => exact Kd.V_mk HC0_0.out (Kd.F_below (Kd.C_F k26_heap HR0_0.out) (by repeat (first|(with_reducible first|exact HB.out|apply below_alloc|apply pw_below_drewN|apply below_drew1|refine below_set ?_ GE161.out)|exact HB.out))));(case side2 => exact Kd.V_mk HC0_1.out (Kd.F_below (Kd.C_F k38_heap HR0_1.out) (by repeat (first|(with_reducible first|exact HB.out|apply below_alloc|apply pw_below_drewN|apply below_drew1|refine below_set ?_ GE161.out)|exact HB.out))));rintro e w37 ⟨v176, v179, v182, v185, rfl, ho0, ho1, ho2, ho3, hb⟩;refine ⟨_, rfl, ?_⟩;have n0_:=Aside0.mk (Kd.V_lower (Kd.V_mono (ok':=fun k_ => k_ ≠ gb161) ho0 (fun k_ hk_ => Or.elim hk_ (fun hs_ => Or.elim hs_ (fun hs_ => fun e_ => Nat.not_le.2 hs_ (by rw [e_];exact GW161.out)) (fun hs_ => fun e_ => Nat.not_le.2 hs_ (by rw [e_];exact GW161.out))) (fun hn_ => (Kd.freshB (g:=gb161) (o:=.cells #[.slice A0_0 l0_0.length c0_0, .slice A0_1 l0_1.length c0_1, .int .i64 a0_2, .int .i64 a0_3, .int .i64 a0_4] 33 (0, 0)) (by (with_reducible repeat (first|refine blk_drewN ?_ _|refine blk_drew ?_|refine blk_alloc ?_ _));exact BK161.out) k_ hn_)))) (below_size (by repeat (first|(with_reducible first|exact HB.out|apply below_alloc|apply pw_below_drewN|apply below_drew1|refine below_set ?_ GE161.out)|exact HB.out))));have n1_:=Aside0.mk (Kd.V_lower (Kd.V_mono (ok':=fun k_ => k_ ≠ gb161) ho1 (fun k_ hk_ => Or.elim hk_ (fun hs_ => Or.elim hs_ (fun hs_ => fun e_ => Nat.not_le.2 hs_ (by rw [e_];exact GW161.out)) (fun hs_ => fun e_ => Nat.not_le.2 hs_ (by rw [e_];exact GW161.out))) (fun hn_ => (Kd.freshB (g:=gb161) (o:=.cells #[.slice A0_0 l0_0.length c0_0, .slice A0_1 l0_1.length c0_1, .int .i64 a0_2, .int .i64 a0_3, .int .i64 a0_4] 33 (0, 0)) (by (with_reducible repeat (first|refine blk_drewN ?_ _|refine blk_drew ?_|refine blk_alloc ?_ _));exact BK161.out) k_ hn_)))) (below_size (by repeat (first|(with_reducible first|exact HB.out|apply below_alloc|apply pw_below_drewN|apply below_drew1|refine below_set ?_ GE161.out)|exact HB.out))));have n2_:=Aside0.mk (Kd.V_lower (Kd.V_mono (ok':=fun k_ => k_ ≠ gb161) ho2 (fun k_ hk_ => Or.elim hk_ (fun hs_ => Or.elim hs_ (fun hs_ => fun e_ => Nat.not_le.2 hs_ (by rw [e_];exact GW161.out)) (fun hs_ => fun e_ => Nat.not_le.2 hs_ (by rw [e_];exact GW161.out))) (fun hn_ => (Kd.freshB (g:=gb161) (o:=.cells #[.slice A0_0 l0_0.length c0_0, .slice A0_1 l0_1.length c0_1, .int .i64 a0_2, .int .i64 a0_3, .int .i64 a0_4] 33 (0, 0)) (by (with_reducible repeat (first|refine blk_drewN ?_ _|refine blk_drew ?_|refine blk_alloc ?_ _));exact BK161.out) k_ hn_)))) (below_size (by repeat (first|(with_reducible first|exact HB.out|apply below_alloc|apply pw_below_drewN|apply below_drew1|refine below_set ?_ GE161.out)|exact HB.out))));have n3_:=Aside0.mk (Kd.V_lower (Kd.V_mono (ok':=fun k_ => k_ ≠ gb161) ho3 (fun k_ hk_ => Or.elim hk_ (fun hs_ => Or.elim hs_ (fun hs_ => fun e_ => Nat.not_le.2 hs_ (by rw [e_];exact GW161.out)) (fun hs_ => fun e_ => Nat.not_le.2 hs_ (by rw [e_];exact GW161.out))) (fun hn_ => (Kd.freshB (g:=gb161) (o:=.cells #[.slice A0_0 l0_0.length c0_0, .slice A0_1 l0_1.length c0_1, .int .i64 a0_2, .int .i64 a0_3, .int .i64 a0_4] 33 (0, 0)) (by (with_reducible repeat (first|refine blk_drewN ?_ _|refine blk_drew ?_|refine blk_alloc ?_ _));exact BK161.out) k_ hn_)))) (below_size (by repeat (first|(with_reducible first|exact HB.out|apply below_alloc|apply pw_below_drewN|apply below_drew1|refine below_set ?_ GE161.out)|exact HB.out))));have n4_:=Aside0.mk (blk_below (g:=gb161) (o:=.cells #[.slice A0_0 l0_0.length c0_0, .slice A0_1 l0_1.length c0_1, .int .i64 a0_2, .int .i64 a0_3, .int .i64 a0_4] 33 (0, 0)) (by (with_reducible repeat (first|refine blk_drewN ?_ _|refine blk_drew ?_|refine blk_alloc ?_ _));exact BK161.out) hb);have n5_:=Aside0.mk (below_step (by repeat (first|(with_reducible first|exact HB.out|apply below_alloc|apply pw_below_drewN|apply below_drew1|refine below_set ?_ GE161.out)|exact HB.out)) hb);clear BK161;clear HB;have HO177:=n0_;have HO180:=n1_;have HO183:=n2_;have HO186:=n3_;have BK161:=n4_;have HB:=n5_;clear n0_ n1_ n2_ n3_ n4_ n5_;(try clear hb);(try clear hb2);(try clear hk);(try clear hi);(try clear ho0);(try clear ho1);(try clear ho2);(try clear ho3))|((with_reducible refine gate_dst (N:=7) rfl ?_);(try (refine gate_guard (by rfl) ?_;dsimp only));refine box_event ?hg (N:=7) ?hd (cs:=#[.slice none 0 0, .slice none 0 0]) (t:=28) ?hr ?_;(case hd => rfl);(case hg => rfl);(case hr => first|(go_simp;done)|(go_simp;rfl));intro gb188 hg w38 hbox hb;have n0_:=Aside0.mk (Kd.V_below (Kd.V_elderB (by (with_reducible repeat (first|apply Kd.V_alloc|apply Kd.V_drewN|apply Kd.V_drew));exact HO177.out) gb188 (Nat.le_of_eq hg.symm)) hb);have n1_:=Aside0.mk (Kd.V_below (Kd.V_elderB (by (with_reducible repeat (first|apply Kd.V_alloc|apply Kd.V_drewN|apply Kd.V_drew));exact HO180.out) gb188 (Nat.le_of_eq hg.symm)) hb);have n2_:=Aside0.mk (Kd.V_below (Kd.V_elderB (by (with_reducible repeat (first|apply Kd.V_alloc|apply Kd.V_drewN|apply Kd.V_drew));exact HO183.out) gb188 (Nat.le_of_eq hg.symm)) hb);have n3_:=Aside0.mk (Kd.V_below (Kd.V_elderB (by (with_reducible repeat (first|apply Kd.V_alloc|apply Kd.V_drewN|apply Kd.V_drew));exact HO186.out) gb188 (Nat.le_of_eq hg.symm)) hb);have n4_:=Aside0.mk (blk_below (g:=gb161) (o:=.cells #[.slice A0_0 l0_0.length c0_0, .slice A0_1 l0_1.length c0_1, .int .i64 a0_2, .int .i64 a0_3, .int .i64 a0_4] 33 (0, 0)) (by (with_reducible repeat (first|refine blk_drewN ?_ _|refine blk_drew ?_|refine blk_alloc ?_ _));exact BK161.out) hb);have n5_:=Aside0.mk (below_step (by repeat (first|(with_reducible first|exact HB.out|apply below_alloc|apply pw_below_drewN|apply below_drew1|refine below_set ?_ GE161.out)|exact HB.out)) hb);have n6_:=Aside0.mk (hbox);have n7_:=Aside0.mk ((by rw [hg];exact (below_size (by repeat (first|(with_reducible first|exact HB.out|apply below_alloc|apply pw_below_drewN|apply below_drew1|refine below_set ?_ GE161.out)|exact HB.out))) : w.heap.size ≤ gb188));have n8_:=Aside0.mk ((by rw [hg];exact (below_size (by repeat (first|(with_reducible first|exact HB.out|apply below_alloc|apply pw_below_drewN|apply below_drew1|refine below_set ?_ GE161.out)|exact HB.out))) : w.heap.size ≤ gb188));have n9_:=Aside0.mk ((by rw [hg];exact Nat.ne_of_lt (blk_lt (g:=gb161) (o:=.cells #[.slice A0_0 l0_0.length c0_0, .slice A0_1 l0_1.length c0_1, .int .i64 a0_2, .int .i64 a0_3, .int .i64 a0_4] 33 (0, 0)) (by (with_reducible repeat (first|refine blk_drewN ?_ _|refine blk_drew ?_|refine blk_alloc ?_ _));exact BK161.out)) : gb161 ≠ gb188));have n10_:=Aside0.mk ((by rw [hg];exact Nat.ne_of_gt (blk_lt (g:=gb161) (o:=.cells #[.slice A0_0 l0_0.length c0_0, .slice A0_1 l0_1.length c0_1, .int .i64 a0_2, .int .i64 a0_3, .int .i64 a0_4] 33 (0, 0)) (by (with_reducible repeat (first|refine blk_drewN ?_ _|refine blk_drew ?_|refine blk_alloc ?_ _));exact BK161.out)) : gb188 ≠ gb161));clear HO177;clear HO180;clear HO183;clear HO186;clear BK161;clear HB;have HO177:=n0_;have HO180:=n1_;have HO183:=n2_;have HO186:=n3_;have BK161:=n4_;have HB:=n5_;have BK188:=n6_;have GW188:=n7_;have GE188:=n8_;have NB161_188:=n9_;have NB188_161:=n10_;clear n0_ n1_ n2_ n3_ n4_ n5_ n6_ n7_ n8_ n9_ n10_;clear hb hbox hg)|((with_reducible refine gate_dst (N:=8) rfl ?_);(try (refine gate_guard (by rfl) ?_;dsimp only));refine box_event ?hg (N:=8) ?hd (cs:=#[.slice none 0 0, .slice none 0 0]) (t:=30) ?hr ?_;(case hd => rfl);(case hg => rfl);(case hr => first|(go_simp;done)|(go_simp;rfl));intro gb189 hg w39 hbox hb;have n0_:=Aside0.mk (Kd.V_below (Kd.V_elderB (by (with_reducible repeat (first|apply Kd.V_alloc|apply Kd.V_drewN|apply Kd.V_drew));exact HO177.out) gb189 (Nat.le_of_eq hg.symm)) hb);have n1_:=Aside0.mk (Kd.V_below (Kd.V_elderB (by (with_reducible repeat (first|apply Kd.V_alloc|apply Kd.V_drewN|apply Kd.V_drew));exact HO180.out) gb189 (Nat.le_of_eq hg.symm)) hb);have n2_:=Aside0.mk (Kd.V_below (Kd.V_elderB (by (with_reducible repeat (first|apply Kd.V_alloc|apply Kd.V_drewN|apply Kd.V_drew));exact HO183.out) gb189 (Nat.le_of_eq hg.symm)) hb);have n3_:=Aside0.mk (Kd.V_below (Kd.V_elderB (by (with_reducible repeat (first|apply Kd.V_alloc|apply Kd.V_drewN|apply Kd.V_drew));exact HO186.out) gb189 (Nat.le_of_eq hg.symm)) hb);have n4_:=Aside0.mk (blk_below (g:=gb161) (o:=.cells #[.slice A0_0 l0_0.length c0_0, .slice A0_1 l0_1.length c0_1, .int .i64 a0_2, .int .i64 a0_3, .int .i64 a0_4] 33 (0, 0)) (by (with_reducible repeat (first|refine blk_drewN ?_ _|refine blk_drew ?_|refine blk_alloc ?_ _));exact BK161.out) hb);have n5_:=Aside0.mk (blk_below (g:=gb188) (o:=.cells #[.slice none 0 0, .slice none 0 0] 28 (0, 0)) (by (with_reducible repeat (first|refine blk_drewN ?_ _|refine blk_drew ?_|refine blk_alloc ?_ _));exact BK188.out) hb);have n6_:=Aside0.mk (below_step (by repeat (first|(with_reducible first|exact HB.out|apply below_alloc|apply pw_below_drewN|apply below_drew1|refine below_set ?_ GE161.out|refine below_set ?_ GE188.out)|exact HB.out)) hb);have n7_:=Aside0.mk (hbox);have n8_:=Aside0.mk ((by rw [hg];exact (below_size (by repeat (first|(with_reducible first|exact HB.out|apply below_alloc|apply pw_below_drewN|apply below_drew1|refine below_set ?_ GE161.out|refine below_set ?_ GE188.out)|exact HB.out))) : w.heap.size ≤ gb189));have n9_:=Aside0.mk ((by rw [hg];exact (below_size (by repeat (first|(with_reducible first|exact HB.out|apply below_alloc|apply pw_below_drewN|apply below_drew1|refine below_set ?_ GE161.out|refine below_set ?_ GE188.out)|exact HB.out))) : w.heap.size ≤ gb189));have n10_:=Aside0.mk ((by rw [hg];exact Nat.ne_of_lt (blk_lt (g:=gb161) (o:=.cells #[.slice A0_0 l0_0.length c0_0, .slice A0_1 l0_1.length c0_1, .int .i64 a0_2, .int .i64 a0_3, .int .i64 a0_4] 33 (0, 0)) (by (with_reducible repeat (first|refine blk_drewN ?_ _|refine blk_drew ?_|refine blk_alloc ?_ _));exact BK161.out)) : gb161 ≠ gb189));have n11_:=Aside0.mk ((by rw [hg];exact Nat.ne_of_gt (blk_lt (g:=gb161) (o:=.cells #[.slice A0_0 l0_0.length c0_0, .slice A0_1 l0_1.length c0_1, .int .i64 a0_2, .int .i64 a0_3, .int .i64 a0_4] 33 (0, 0)) (by (with_reducible repeat (first|refine blk_drewN ?_ _|refine blk_drew ?_|refine blk_alloc ?_ _));exact BK161.out)) : gb189 ≠ gb161));have n12_:=Aside0.mk ((by rw [hg];exact Nat.ne_of_lt (blk_lt (g:=gb188) (o:=.cells #[.slice none 0 0, .slice none 0 0] 28 (0, 0)) (by (with_reducible repeat (first|refine blk_drewN ?_ _|refine blk_drew ?_|refine blk_alloc ?_ _));exact BK188.out)) : gb188 ≠ gb189));have n13_:=Aside0.mk ((by rw [hg];exact Nat.ne_of_gt (blk_lt (g:=gb188) (o:=.cells #[.slice none 0 0, .slice none 0 0] 28 (0, 0)) (by (with_reducible repeat (first|refine blk_drewN ?_ _|refine blk_drew ?_|refine blk_alloc ?_ _));exact BK188.out)) : gb189 ≠ gb188));clear HO177;clear HO180;clear HO183;clear HO186;clear BK161;clear BK188;clear HB;have HO177:=n0_;have HO180:=n1_;have HO183:=n2_;have HO186:=n3_;have BK161:=n4_;have BK188:=n5_;have HB:=n6_;have BK189:=n7_;have GW189:=n8_;have GE189:=n9_;have NB161_189:=n10_;have NB189_161:=n11_;have NB188_189:=n12_;have NB189_188:=n13_;clear n0_ n1_ n2_ n3_ n4_ n5_ n6_ n7_ n8_ n9_ n10_ n11_ n12_ n13_;clear hb hbox hg;obtain ⟨Ao40, co40, eo40⟩:=Kd.V_slice HO177.out;subst eo40;have hnb41:=NB188_161.out;have hnc41:=NB161_188.out;have hnb42:=NB188_189.out;have hnc42:=NB189_188.out;have hcz43_0 : w39.cell? ⟨gb188, 0, none⟩ = some (.slice none 0 0):=(blk_cell BK188.out 0).trans rfl;have hcz43_1 : w39.cell? ⟨gb188, 1, none⟩ = some (.slice none 0 0):=(blk_cell BK188.out 1).trans rfl;have hfz43_0:=blk_frozen BK188.out 0;have hfz43_1:=blk_frozen BK188.out 1;obtain ⟨Ao44, co44, eo44⟩:=Kd.V_slice HO180.out;subst eo44;obtain ⟨Ao45, co45, eo45⟩:=Kd.V_slice HO183.out;subst eo45;have hnb46:=NB189_161.out;have hnc46:=NB161_189.out;have hcz47_0 : w39.cell? ⟨gb189, 0, none⟩ = some (.slice none 0 0):=(blk_cell BK189.out 0).trans rfl;have hcz47_1 : w39.cell? ⟨gb189, 1, none⟩ = some (.slice none 0 0):=(blk_cell BK189.out 1).trans rfl;have hfz47_0:=blk_frozen BK189.out 0;have hfz47_1:=blk_frozen BK189.out 1;obtain ⟨Ao48, co48, eo48⟩:=Kd.V_slice HO186.out;subst eo48)|((with_reducible refine gate_callee (f:=11) rfl ?_);refine goesL_ (some 51) rfl rfl Try.func11 (by kernel_rfl) rfl #[.agg #[.slice Ao40 t175.length co40, .slice Ao44 t178.length co44], .int .i64 a1] rfl (by (try simp only [List.map_toArray, List.map_cons, List.map_nil]);first|done|rfl|(simp only [List.length_drop, List.length_take];rfl)) ?_;(with_reducible refine (marks_Of.calls kj3 _ _ t175 _ _ t178 a1 t190 t193 _ ?side1 ?side2 ?side3 ?side4 A24.out).mono ?_);(case side1 => refine (Kd.V_reads' (e:=26) (base:=w.heap.size) (ok:=fun k_ => ((k_ ≠ gb161 ∧ k_ ≠ gb188) ∧ k_ ≠ gb189)) (n:=t175.length) (c:=co40) ?_).2.2;exact (by (with_reducible repeat (first|apply Kd.V_alloc|apply Kd.V_drewN|apply Kd.V_drew));exact (Kd.V_mono (Kd.V_mono (Kd.V_far (p:=⟨gb189, 1, none⟩) (Kd.V_far (p:=⟨gb189, 0, none⟩) (Kd.V_far (p:=⟨gb188, 1, none⟩) (Kd.V_far (p:=⟨gb188, 0, none⟩) (Kd.V_mono (Kd.V_mono HO177.out (fun k_ hk => (⟨hk, hk.1.2⟩ : _ ∧ k_ ≠ gb188))) (fun k_ hk => (⟨hk, hk.1.2⟩ : _ ∧ k_ ≠ gb189))) (fun _ hk => hk.1.2) (.slice Ao40 t175.length co40)) (fun _ hk => hk.1.2) (.slice Ao44 t178.length co44)) (fun _ hk => hk.2) (.slice Ao45 t181.length co45)) (fun _ hk => hk.2) (.slice Ao48 t184.length co48)) (fun _ h_ => h_.1)) (fun _ h_ => h_.1))));(case side2 => exact (Kd.V_reads' HO177.out).2.1);(case side3 => refine (Kd.V_reads' (e:=38) (base:=w.heap.size) (ok:=fun k_ => ((k_ ≠ gb161 ∧ k_ ≠ gb188) ∧ k_ ≠ gb189)) (n:=t178.length) (c:=co44) ?_).2.2;exact (by (with_reducible repeat (first|apply Kd.V_alloc|apply Kd.V_drewN|apply Kd.V_drew));exact (Kd.V_mono (Kd.V_mono (Kd.V_far (p:=⟨gb189, 1, none⟩) (Kd.V_far (p:=⟨gb189, 0, none⟩) (Kd.V_far (p:=⟨gb188, 1, none⟩) (Kd.V_far (p:=⟨gb188, 0, none⟩) (Kd.V_mono (Kd.V_mono HO180.out (fun k_ hk => (⟨hk, hk.1.2⟩ : _ ∧ k_ ≠ gb188))) (fun k_ hk => (⟨hk, hk.1.2⟩ : _ ∧ k_ ≠ gb189))) (fun _ hk => hk.1.2) (.slice Ao40 t175.length co40)) (fun _ hk => hk.1.2) (.slice Ao44 t178.length co44)) (fun _ hk => hk.2) (.slice Ao45 t181.length co45)) (fun _ hk => hk.2) (.slice Ao48 t184.length co48)) (fun _ h_ => h_.1)) (fun _ h_ => h_.1))));(case side4 => exact (Kd.V_reads' HO180.out).2.1);rintro e w49 ⟨v191, v194, rfl, ho0, ho1, hb⟩;refine ⟨_, rfl, ?_⟩;have n0_:=Aside0.mk (Kd.V_mono (Kd.V_told (Kd.V_told (Kd.V_old (by (with_reducible repeat (first|apply Kd.V_alloc|apply Kd.V_drewN|apply Kd.V_drew));exact (Kd.V_mono (Kd.V_mono (Kd.V_far (p:=⟨gb189, 1, none⟩) (Kd.V_far (p:=⟨gb189, 0, none⟩) (Kd.V_far (p:=⟨gb188, 1, none⟩) (Kd.V_far (p:=⟨gb188, 0, none⟩) (Kd.V_mono (Kd.V_mono HO177.out (fun k_ hk => (⟨hk, hk.1.2⟩ : _ ∧ k_ ≠ gb188))) (fun k_ hk => (⟨hk, hk.1.2⟩ : _ ∧ k_ ≠ gb189))) (fun _ hk => hk.1.2) (.slice Ao40 t175.length co40)) (fun _ hk => hk.1.2) (.slice Ao44 t178.length co44)) (fun _ hk => hk.2) (.slice Ao45 t181.length co45)) (fun _ hk => hk.2) (.slice Ao48 t184.length co48)) (fun _ h_ => h_.1)) (fun _ h_ => h_.1))) hb) (Kd.R_base ho0)) (Kd.R_base ho1)) (fun _ h_ => h_.1));have n1_:=Aside0.mk (Kd.V_mono (Kd.V_told (Kd.V_told (Kd.V_old (by (with_reducible repeat (first|apply Kd.V_alloc|apply Kd.V_drewN|apply Kd.V_drew));exact (Kd.V_mono (Kd.V_mono (Kd.V_far (p:=⟨gb189, 1, none⟩) (Kd.V_far (p:=⟨gb189, 0, none⟩) (Kd.V_far (p:=⟨gb188, 1, none⟩) (Kd.V_far (p:=⟨gb188, 0, none⟩) (Kd.V_mono (Kd.V_mono HO180.out (fun k_ hk => (⟨hk, hk.1.2⟩ : _ ∧ k_ ≠ gb188))) (fun k_ hk => (⟨hk, hk.1.2⟩ : _ ∧ k_ ≠ gb189))) (fun _ hk => hk.1.2) (.slice Ao40 t175.length co40)) (fun _ hk => hk.1.2) (.slice Ao44 t178.length co44)) (fun _ hk => hk.2) (.slice Ao45 t181.length co45)) (fun _ hk => hk.2) (.slice Ao48 t184.length co48)) (fun _ h_ => h_.1)) (fun _ h_ => h_.1))) hb) (Kd.R_base ho0)) (Kd.R_base ho1)) (fun _ h_ => h_.1));have n2_:=Aside0.mk (Kd.V_mono (Kd.V_told (Kd.V_told (Kd.V_old (by (with_reducible repeat (first|apply Kd.V_alloc|apply Kd.V_drewN|apply Kd.V_drew));exact (Kd.V_mono (Kd.V_mono (Kd.V_far (p:=⟨gb189, 1, none⟩) (Kd.V_far (p:=⟨gb189, 0, none⟩) (Kd.V_far (p:=⟨gb188, 1, none⟩) (Kd.V_far (p:=⟨gb188, 0, none⟩) (Kd.V_mono (Kd.V_mono HO183.out (fun k_ hk => (⟨hk, hk.1.2⟩ : _ ∧ k_ ≠ gb188))) (fun k_ hk => (⟨hk, hk.1.2⟩ : _ ∧ k_ ≠ gb189))) (fun _ hk => hk.1.2) (.slice Ao40 t175.length co40)) (fun _ hk => hk.1.2) (.slice Ao44 t178.length co44)) (fun _ hk => hk.2) (.slice Ao45 t181.length co45)) (fun _ hk => hk.2) (.slice Ao48 t184.length co48)) (fun _ h_ => h_.1)) (fun _ h_ => h_.1))) hb) (Kd.R_base ho0)) (Kd.R_base ho1)) (fun _ h_ => h_.1));have n3_:=Aside0.mk (Kd.V_mono (Kd.V_told (Kd.V_told (Kd.V_old (by (with_reducible repeat (first|apply Kd.V_alloc|apply Kd.V_drewN|apply Kd.V_drew));exact (Kd.V_mono (Kd.V_mono (Kd.V_far (p:=⟨gb189, 1, none⟩) (Kd.V_far (p:=⟨gb189, 0, none⟩) (Kd.V_far (p:=⟨gb188, 1, none⟩) (Kd.V_far (p:=⟨gb188, 0, none⟩) (Kd.V_mono (Kd.V_mono HO186.out (fun k_ hk => (⟨hk, hk.1.2⟩ : _ ∧ k_ ≠ gb188))) (fun k_ hk => (⟨hk, hk.1.2⟩ : _ ∧ k_ ≠ gb189))) (fun _ hk => hk.1.2) (.slice Ao40 t175.length co40)) (fun _ hk => hk.1.2) (.slice Ao44 t178.length co44)) (fun _ hk => hk.2) (.slice Ao45 t181.length co45)) (fun _ hk => hk.2) (.slice Ao48 t184.length co48)) (fun _ h_ => h_.1)) (fun _ h_ => h_.1))) hb) (Kd.R_base ho0)) (Kd.R_base ho1)) (fun _ h_ => h_.1));have n4_:=Aside0.mk (Kd.R_lower ho0 (below_size (by repeat (first|(with_reducible first|exact HB.out|apply below_alloc|apply pw_below_drewN|apply below_drew1|refine below_set ?_ GE161.out|refine below_set ?_ GE188.out|refine below_set ?_ GE189.out)|exact HB.out))));have n5_:=Aside0.mk (Kd.R_lower ho1 (below_size (by repeat (first|(with_reducible first|exact HB.out|apply below_alloc|apply pw_below_drewN|apply below_drew1|refine below_set ?_ GE161.out|refine below_set ?_ GE188.out|refine below_set ?_ GE189.out)|exact HB.out))));have n6_:=Aside0.mk (blk_below (g:=gb161) (o:=.cells #[.slice A0_0 l0_0.length c0_0, .slice A0_1 l0_1.length c0_1, .int .i64 a0_2, .int .i64 a0_3, .int .i64 a0_4] 33 (0, 0)) (by (with_reducible repeat (first|refine blk_drewN ?_ _|refine blk_drew ?_|refine blk_alloc ?_ _));refine blk_far ?_ NB161_189.out _;(with_reducible repeat (first|refine blk_drewN ?_ _|refine blk_drew ?_|refine blk_alloc ?_ _));refine blk_far ?_ NB161_189.out _;(with_reducible repeat (first|refine blk_drewN ?_ _|refine blk_drew ?_|refine blk_alloc ?_ _));refine blk_far ?_ NB161_188.out _;(with_reducible repeat (first|refine blk_drewN ?_ _|refine blk_drew ?_|refine blk_alloc ?_ _));refine blk_far ?_ NB161_188.out _;(with_reducible repeat (first|refine blk_drewN ?_ _|refine blk_drew ?_|refine blk_alloc ?_ _));exact BK161.out) hb);have n7_:=Aside0.mk (blk_below (g:=gb188) (o:=.cells #[.slice Ao40 t175.length co40, .slice Ao44 t178.length co44] 28 (0, 0)) (by (with_reducible repeat (first|refine blk_drewN ?_ _|refine blk_drew ?_|refine blk_alloc ?_ _));refine blk_far ?_ NB188_189.out _;(with_reducible repeat (first|refine blk_drewN ?_ _|refine blk_drew ?_|refine blk_alloc ?_ _));refine blk_far ?_ NB188_189.out _;(with_reducible repeat (first|refine blk_drewN ?_ _|refine blk_drew ?_|refine blk_alloc ?_ _));refine blk_put (cs:=#[.slice Ao40 t175.length co40, .slice none 0 0]) ?_ 1 _ rfl;(with_reducible repeat (first|refine blk_drewN ?_ _|refine blk_drew ?_|refine blk_alloc ?_ _));refine blk_put (cs:=#[.slice none 0 0, .slice none 0 0]) ?_ 0 _ rfl;(with_reducible repeat (first|refine blk_drewN ?_ _|refine blk_drew ?_|refine blk_alloc ?_ _));exact BK188.out) hb);have n8_:=Aside0.mk (blk_below (g:=gb189) (o:=.cells #[.slice Ao45 t181.length co45, .slice Ao48 t184.length co48] 30 (0, 0)) (by (with_reducible repeat (first|refine blk_drewN ?_ _|refine blk_drew ?_|refine blk_alloc ?_ _));refine blk_put (cs:=#[.slice Ao45 t181.length co45, .slice none 0 0]) ?_ 1 _ rfl;(with_reducible repeat (first|refine blk_drewN ?_ _|refine blk_drew ?_|refine blk_alloc ?_ _));refine blk_put (cs:=#[.slice none 0 0, .slice none 0 0]) ?_ 0 _ rfl;(with_reducible repeat (first|refine blk_drewN ?_ _|refine blk_drew ?_|refine blk_alloc ?_ _));refine blk_far ?_ NB189_188.out _;(with_reducible repeat (first|refine blk_drewN ?_ _|refine blk_drew ?_|refine blk_alloc ?_ _));refine blk_far ?_ NB189_188.out _;(with_reducible repeat (first|refine blk_drewN ?_ _|refine blk_drew ?_|refine blk_alloc ?_ _));exact BK189.out) hb);have n9_:=Aside0.mk (below_step (by repeat (first|(with_reducible first|exact HB.out|apply below_alloc|apply pw_below_drewN|apply below_drew1|refine below_set ?_ GE161.out|refine below_set ?_ GE188.out|refine below_set ?_ GE189.out)|exact HB.out)) hb);clear HO177;clear HO180;clear HO183;clear HO186;clear BK161;clear BK188;clear BK189;clear HB;have HO177:=n0_;have HO180:=n1_;have HO183:=n2_;have HO186:=n3_;have HO192:=n4_;have HO195:=n5_;have BK161:=n6_;have BK188:=n7_;have BK189:=n8_;have HB:=n9_;clear n0_ n1_ n2_ n3_ n4_ n5_ n6_ n7_ n8_ n9_;(try clear hb);(try clear hb2);(try clear hk);(try clear hi);(try clear ho0);(try clear ho1);have hcz50_0 : w49.cell? ⟨gb189, 0, none⟩ = some (.slice Ao45 t181.length co45):=(blk_cell BK189.out 0).trans rfl;have hcz50_1 : w49.cell? ⟨gb189, 1, none⟩ = some (.slice Ao48 t184.length co48):=(blk_cell BK189.out 1).trans rfl;have hfz50_0:=blk_frozen BK189.out 0;have hfz50_1:=blk_frozen BK189.out 1)|((with_reducible refine gate_callee (f:=13) rfl ?_);refine goesL_ (some 57) rfl rfl Try.func13 (by kernel_rfl) rfl #[.agg #[.slice Ao45 t181.length co45, .slice Ao48 t184.length co48], .int .i64 a1] rfl (by (try simp only [List.map_toArray, List.map_cons, List.map_nil]);first|done|rfl|(simp only [List.length_drop, List.length_take];rfl)) ?_;(with_reducible refine (chancelref04_Of.calls kj3 _ _ t181 _ _ t184 a1 t196 t199 _ ?side1 ?side2 ?side3 ?side4 A25.out).mono ?_);(case side1 => repeat (first|exact (Kd.V_reads' HO183.out).2.2|(with_reducible refine Kd.C_alloc ?_ _)|(with_reducible refine Kd.C_drewN ?_ _)|(with_reducible refine Kd.C_drew ?_)));(case side2 => exact (Kd.V_reads' HO183.out).2.1);(case side3 => repeat (first|exact (Kd.V_reads' HO186.out).2.2|(with_reducible refine Kd.C_alloc ?_ _)|(with_reducible refine Kd.C_drewN ?_ _)|(with_reducible refine Kd.C_drew ?_)));(case side4 => exact (Kd.V_reads' HO186.out).2.1);rintro e w51 ⟨v197, v200, rfl, ho0, ho1, hb⟩;refine ⟨_, rfl, ?_⟩;have n0_:=Aside0.mk (Kd.V_mono (Kd.V_told (Kd.V_told (Kd.V_old (by (with_reducible repeat (first|apply Kd.V_alloc|apply Kd.V_drewN|apply Kd.V_drew));exact HO177.out) hb) (Kd.R_base ho0)) (Kd.R_base ho1)) (fun _ h_ => h_.1));have n1_:=Aside0.mk (Kd.V_mono (Kd.V_told (Kd.V_told (Kd.V_old (by (with_reducible repeat (first|apply Kd.V_alloc|apply Kd.V_drewN|apply Kd.V_drew));exact HO180.out) hb) (Kd.R_base ho0)) (Kd.R_base ho1)) (fun _ h_ => h_.1));have n2_:=Aside0.mk (Kd.V_mono (Kd.V_told (Kd.V_told (Kd.V_old (by (with_reducible repeat (first|apply Kd.V_alloc|apply Kd.V_drewN|apply Kd.V_drew));exact HO183.out) hb) (Kd.R_base ho0)) (Kd.R_base ho1)) (fun _ h_ => h_.1));have n3_:=Aside0.mk (Kd.V_mono (Kd.V_told (Kd.V_told (Kd.V_old (by (with_reducible repeat (first|apply Kd.V_alloc|apply Kd.V_drewN|apply Kd.V_drew));exact HO186.out) hb) (Kd.R_base ho0)) (Kd.R_base ho1)) (fun _ h_ => h_.1));have n4_:=Aside0.mk (Kd.R_elder' (by (with_reducible repeat (first|apply Kd.R_alloc|apply Kd.R_drewN|apply Kd.R_drew));exact HO192.out) (Kd.R_base ho0) hb);have n5_:=Aside0.mk (Kd.R_elder' (by (with_reducible repeat (first|apply Kd.R_alloc|apply Kd.R_drewN|apply Kd.R_drew));exact HO195.out) (Kd.R_base ho1) hb);have n6_:=Aside0.mk (Kd.R_lower (Kd.R_new' ho0 (Kd.R_lt (by (with_reducible repeat (first|apply Kd.R_alloc|apply Kd.R_drewN|apply Kd.R_drew));exact HO192.out))) (below_size (by repeat (first|(with_reducible first|exact HB.out|apply below_alloc|apply pw_below_drewN|apply below_drew1|refine below_set ?_ GE161.out|refine below_set ?_ GE188.out|refine below_set ?_ GE189.out)|exact HB.out))));have n7_:=Aside0.mk (Kd.R_lower (Kd.R_new' ho1 (Kd.R_lt (by (with_reducible repeat (first|apply Kd.R_alloc|apply Kd.R_drewN|apply Kd.R_drew));exact HO195.out))) (below_size (by repeat (first|(with_reducible first|exact HB.out|apply below_alloc|apply pw_below_drewN|apply below_drew1|refine below_set ?_ GE161.out|refine below_set ?_ GE188.out|refine below_set ?_ GE189.out)|exact HB.out))));have n8_:=Aside0.mk (blk_below (g:=gb161) (o:=.cells #[.slice A0_0 l0_0.length c0_0, .slice A0_1 l0_1.length c0_1, .int .i64 a0_2, .int .i64 a0_3, .int .i64 a0_4] 33 (0, 0)) (by (with_reducible repeat (first|refine blk_drewN ?_ _|refine blk_drew ?_|refine blk_alloc ?_ _));exact BK161.out) hb);have n9_:=Aside0.mk (blk_below (g:=gb188) (o:=.cells #[.slice Ao40 t175.length co40, .slice Ao44 t178.length co44] 28 (0, 0)) (by (with_reducible repeat (first|refine blk_drewN ?_ _|refine blk_drew ?_|refine blk_alloc ?_ _));exact BK188.out) hb);have n10_:=Aside0.mk (blk_below (g:=gb189) (o:=.cells #[.slice Ao45 t181.length co45, .slice Ao48 t184.length co48] 30 (0, 0)) (by (with_reducible repeat (first|refine blk_drewN ?_ _|refine blk_drew ?_|refine blk_alloc ?_ _));exact BK189.out) hb);have n11_:=Aside0.mk (below_step (by repeat (first|(with_reducible first|exact HB.out|apply below_alloc|apply pw_below_drewN|apply below_drew1|refine below_set ?_ GE161.out|refine below_set ?_ GE188.out|refine below_set ?_ GE189.out)|exact HB.out)) hb);clear HO177;clear HO180;clear HO183;clear HO186;clear HO192;clear HO195;clear BK161;clear BK188;clear BK189;clear HB;have HO177:=n0_;have HO180:=n1_;have HO183:=n2_;have HO186:=n3_;have HO192:=n4_;have HO195:=n5_;have HO198:=n6_;have HO201:=n7_;have BK161:=n8_;have BK188:=n9_;have BK189:=n10_;have HB:=n11_;clear n0_ n1_ n2_ n3_ n4_ n5_ n6_ n7_ n8_ n9_ n10_ n11_;(try clear hb);(try clear hb2);(try clear hk);(try clear hi);(try clear ho0);(try clear ho1);have hcz52_0 : w51.cell? ⟨gb188, 0, none⟩ = some (.slice Ao40 t175.length co40):=(blk_cell BK188.out 0).trans rfl;have hcz52_1 : w51.cell? ⟨gb188, 1, none⟩ = some (.slice Ao44 t178.length co44):=(blk_cell BK188.out 1).trans rfl;have hfz52_0:=blk_frozen BK188.out 0;have hfz52_1:=blk_frozen BK188.out 1)|((with_reducible refine gate_callee (f:=14) rfl ?_);refine goesL_ (some 62) rfl rfl Try.func14 (by kernel_rfl) rfl #[.agg #[.slice Ao40 t175.length co40, .slice Ao44 t178.length co44], .int .i64 a1] rfl (by (try simp only [List.map_toArray, List.map_cons, List.map_nil]);first|done|rfl|(simp only [List.length_drop, List.length_take];rfl)) ?_;(with_reducible refine (marks_Drop.calls _ _ t175 _ _ t178 a1 t202 t205 _ ?side1 ?side2 ?side3 ?side4 A26.out).mono ?_);(case side1 => repeat (first|exact (Kd.V_reads' HO177.out).2.2|(with_reducible refine Kd.C_alloc ?_ _)|(with_reducible refine Kd.C_drewN ?_ _)|(with_reducible refine Kd.C_drew ?_)));(case side2 => exact (Kd.V_reads' HO177.out).2.1);(case side3 => repeat (first|exact (Kd.V_reads' HO180.out).2.2|(with_reducible refine Kd.C_alloc ?_ _)|(with_reducible refine Kd.C_drewN ?_ _)|(with_reducible refine Kd.C_drew ?_)));(case side4 => exact (Kd.V_reads' HO180.out).2.1);rintro e w53 ⟨v203, v206, rfl, ho0, ho1, hb⟩;refine ⟨_, rfl, ?_⟩;have n0_:=Aside0.mk (Kd.V_mono (Kd.V_told (Kd.V_told (Kd.V_old (by (with_reducible repeat (first|apply Kd.V_alloc|apply Kd.V_drewN|apply Kd.V_drew));exact HO177.out) hb) (Kd.R_base ho0)) (Kd.R_base ho1)) (fun _ h_ => h_.1));have n1_:=Aside0.mk (Kd.V_mono (Kd.V_told (Kd.V_told (Kd.V_old (by (with_reducible repeat (first|apply Kd.V_alloc|apply Kd.V_drewN|apply Kd.V_drew));exact HO180.out) hb) (Kd.R_base ho0)) (Kd.R_base ho1)) (fun _ h_ => h_.1));have n2_:=Aside0.mk (Kd.V_mono (Kd.V_told (Kd.V_told (Kd.V_old (by (with_reducible repeat (first|apply Kd.V_alloc|apply Kd.V_drewN|apply Kd.V_drew));exact HO183.out) hb) (Kd.R_base ho0)) (Kd.R_base ho1)) (fun _ h_ => h_.1));have n3_:=Aside0.mk (Kd.V_mono (Kd.V_told (Kd.V_told (Kd.V_old (by (with_reducible repeat (first|apply Kd.V_alloc|apply Kd.V_drewN|apply Kd.V_drew));exact HO186.out) hb) (Kd.R_base ho0)) (Kd.R_base ho1)) (fun _ h_ => h_.1));have n4_:=Aside0.mk (Kd.R_elder' (by (with_reducible repeat (first|apply Kd.R_alloc|apply Kd.R_drewN|apply Kd.R_drew));exact HO192.out) (Kd.R_base ho0) hb);have n5_:=Aside0.mk (Kd.R_below (by (with_reducible repeat (first|apply Kd.R_alloc|apply Kd.R_drewN|apply Kd.R_drew));exact HO195.out) hb);have n6_:=Aside0.mk (Kd.R_elder' (by (with_reducible repeat (first|apply Kd.R_alloc|apply Kd.R_drewN|apply Kd.R_drew));exact HO198.out) (Kd.R_base ho0) hb);have n7_:=Aside0.mk (Kd.R_below (by (with_reducible repeat (first|apply Kd.R_alloc|apply Kd.R_drewN|apply Kd.R_drew));exact HO201.out) hb);have n8_:=Aside0.mk (Kd.R_lower (Kd.R_new' (Kd.R_new' ho0 (Kd.R_lt (by (with_reducible repeat (first|apply Kd.R_alloc|apply Kd.R_drewN|apply Kd.R_drew));exact HO192.out))) (Kd.R_lt (by (with_reducible repeat (first|apply Kd.R_alloc|apply Kd.R_drewN|apply Kd.R_drew));exact HO198.out))) (below_size (by repeat (first|(with_reducible first|exact HB.out|apply below_alloc|apply pw_below_drewN|apply below_drew1|refine below_set ?_ GE161.out|refine below_set ?_ GE188.out|refine below_set ?_ GE189.out)|exact HB.out))));have n9_:=Aside0.mk (Kd.R_lower ho1 (below_size (by repeat (first|(with_reducible first|exact HB.out|apply below_alloc|apply pw_below_drewN|apply below_drew1|refine below_set ?_ GE161.out|refine below_set ?_ GE188.out|refine below_set ?_ GE189.out)|exact HB.out))));have n10_:=Aside0.mk (blk_below (g:=gb161) (o:=.cells #[.slice A0_0 l0_0.length c0_0, .slice A0_1 l0_1.length c0_1, .int .i64 a0_2, .int .i64 a0_3, .int .i64 a0_4] 33 (0, 0)) (by (with_reducible repeat (first|refine blk_drewN ?_ _|refine blk_drew ?_|refine blk_alloc ?_ _));exact BK161.out) hb);have n11_:=Aside0.mk (blk_below (g:=gb188) (o:=.cells #[.slice Ao40 t175.length co40, .slice Ao44 t178.length co44] 28 (0, 0)) (by (with_reducible repeat (first|refine blk_drewN ?_ _|refine blk_drew ?_|refine blk_alloc ?_ _));exact BK188.out) hb);have n12_:=Aside0.mk (blk_below (g:=gb189) (o:=.cells #[.slice Ao45 t181.length co45, .slice Ao48 t184.length co48] 30 (0, 0)) (by (with_reducible repeat (first|refine blk_drewN ?_ _|refine blk_drew ?_|refine blk_alloc ?_ _));exact BK189.out) hb);have n13_:=Aside0.mk (below_step (by repeat (first|(with_reducible first|exact HB.out|apply below_alloc|apply pw_below_drewN|apply below_drew1|refine below_set ?_ GE161.out|refine below_set ?_ GE188.out|refine below_set ?_ GE189.out)|exact HB.out)) hb);clear HO177;clear HO180;clear HO183;clear HO186;clear HO192;clear HO195;clear HO198;clear HO201;clear BK161;clear BK188;clear BK189;clear HB;have HO177:=n0_;have HO180:=n1_;have HO183:=n2_;have HO186:=n3_;have HO192:=n4_;have HO195:=n5_;have HO198:=n6_;have HO201:=n7_;have HO204:=n8_;have HO207:=n9_;have BK161:=n10_;have BK188:=n11_;have BK189:=n12_;have HB:=n13_;clear n0_ n1_ n2_ n3_ n4_ n5_ n6_ n7_ n8_ n9_ n10_ n11_ n12_ n13_;(try clear hb);(try clear hb2);(try clear hk);(try clear hi);(try clear ho0);(try clear ho1))|((with_reducible refine gate_dst (N:=14) rfl ?_);(try (refine gate_guard (by rfl) ?_;dsimp only));refine box_event ?hg (N:=14) ?hd (cs:=#[.slice none 0 0, .slice none 0 0]) (t:=28) ?hr ?_;(case hd => rfl);(case hg => rfl);(case hr => first|(go_simp;done)|(go_simp;rfl));intro gb208 hg w54 hbox hb;have n0_:=Aside0.mk (Kd.V_below (Kd.V_elderB (by (with_reducible repeat (first|apply Kd.V_alloc|apply Kd.V_drewN|apply Kd.V_drew));exact HO177.out) gb208 (Nat.le_of_eq hg.symm)) hb);have n1_:=Aside0.mk (Kd.V_below (Kd.V_elderB (by (with_reducible repeat (first|apply Kd.V_alloc|apply Kd.V_drewN|apply Kd.V_drew));exact HO180.out) gb208 (Nat.le_of_eq hg.symm)) hb);have n2_:=Aside0.mk (Kd.V_below (Kd.V_elderB (by (with_reducible repeat (first|apply Kd.V_alloc|apply Kd.V_drewN|apply Kd.V_drew));exact HO183.out) gb208 (Nat.le_of_eq hg.symm)) hb);have n3_:=Aside0.mk (Kd.V_below (Kd.V_elderB (by (with_reducible repeat (first|apply Kd.V_alloc|apply Kd.V_drewN|apply Kd.V_drew));exact HO186.out) gb208 (Nat.le_of_eq hg.symm)) hb);have n4_:=Aside0.mk (Kd.R_below (by (with_reducible repeat (first|apply Kd.R_alloc|apply Kd.R_drewN|apply Kd.R_drew));exact HO192.out) hb);have n5_:=Aside0.mk (Kd.R_below (by (with_reducible repeat (first|apply Kd.R_alloc|apply Kd.R_drewN|apply Kd.R_drew));exact HO195.out) hb);have n6_:=Aside0.mk (Kd.R_below (by (with_reducible repeat (first|apply Kd.R_alloc|apply Kd.R_drewN|apply Kd.R_drew));exact HO198.out) hb);have n7_:=Aside0.mk (Kd.R_below (by (with_reducible repeat (first|apply Kd.R_alloc|apply Kd.R_drewN|apply Kd.R_drew));exact HO201.out) hb);have n8_:=Aside0.mk (Kd.R_below (by (with_reducible repeat (first|apply Kd.R_alloc|apply Kd.R_drewN|apply Kd.R_drew));exact HO204.out) hb);have n9_:=Aside0.mk (Kd.R_below (by (with_reducible repeat (first|apply Kd.R_alloc|apply Kd.R_drewN|apply Kd.R_drew));exact HO207.out) hb);have n10_:=Aside0.mk (blk_below (g:=gb161) (o:=.cells #[.slice A0_0 l0_0.length c0_0, .slice A0_1 l0_1.length c0_1, .int .i64 a0_2, .int .i64 a0_3, .int .i64 a0_4] 33 (0, 0)) (by (with_reducible repeat (first|refine blk_drewN ?_ _|refine blk_drew ?_|refine blk_alloc ?_ _));exact BK161.out) hb);have n11_:=Aside0.mk (blk_below (g:=gb188) (o:=.cells #[.slice Ao40 t175.length co40, .slice Ao44 t178.length co44] 28 (0, 0)) (by (with_reducible repeat (first|refine blk_drewN ?_ _|refine blk_drew ?_|refine blk_alloc ?_ _));exact BK188.out) hb);have n12_:=Aside0.mk (blk_below (g:=gb189) (o:=.cells #[.slice Ao45 t181.length co45, .slice Ao48 t184.length co48] 30 (0, 0)) (by (with_reducible repeat (first|refine blk_drewN ?_ _|refine blk_drew ?_|refine blk_alloc ?_ _));exact BK189.out) hb);have n13_:=Aside0.mk (below_step (by repeat (first|(with_reducible first|exact HB.out|apply below_alloc|apply pw_below_drewN|apply below_drew1|refine below_set ?_ GE161.out|refine below_set ?_ GE188.out|refine below_set ?_ GE189.out)|exact HB.out)) hb);have n14_:=Aside0.mk (hbox);have n15_:=Aside0.mk ((by rw [hg];exact (below_size (by repeat (first|(with_reducible first|exact HB.out|apply below_alloc|apply pw_below_drewN|apply below_drew1|refine below_set ?_ GE161.out|refine below_set ?_ GE188.out|refine below_set ?_ GE189.out)|exact HB.out))) : w.heap.size ≤ gb208));have n16_:=Aside0.mk ((by rw [hg];exact (below_size (by repeat (first|(with_reducible first|exact HB.out|apply below_alloc|apply pw_below_drewN|apply below_drew1|refine below_set ?_ GE161.out|refine below_set ?_ GE188.out|refine below_set ?_ GE189.out)|exact HB.out))) : w.heap.size ≤ gb208));have n17_:=Aside0.mk ((by rw [hg];exact Nat.ne_of_lt (blk_lt (g:=gb161) (o:=.cells #[.slice A0_0 l0_0.length c0_0, .slice A0_1 l0_1.length c0_1, .int .i64 a0_2, .int .i64 a0_3, .int .i64 a0_4] 33 (0, 0)) (by (with_reducible repeat (first|refine blk_drewN ?_ _|refine blk_drew ?_|refine blk_alloc ?_ _));exact BK161.out)) : gb161 ≠ gb208));have n18_:=Aside0.mk ((by rw [hg];exact Nat.ne_of_gt (blk_lt (g:=gb161) (o:=.cells #[.slice A0_0 l0_0.length c0_0, .slice A0_1 l0_1.length c0_1, .int .i64 a0_2, .int .i64 a0_3, .int .i64 a0_4] 33 (0, 0)) (by (with_reducible repeat (first|refine blk_drewN ?_ _|refine blk_drew ?_|refine blk_alloc ?_ _));exact BK161.out)) : gb208 ≠ gb161));have n19_:=Aside0.mk ((by rw [hg];exact Nat.ne_of_lt (blk_lt (g:=gb188) (o:=.cells #[.slice Ao40 t175.length co40, .slice Ao44 t178.length co44] 28 (0, 0)) (by (with_reducible repeat (first|refine blk_drewN ?_ _|refine blk_drew ?_|refine blk_alloc ?_ _));exact BK188.out)) : gb188 ≠ gb208));have n20_:=Aside0.mk ((by rw [hg];exact Nat.ne_of_gt (blk_lt (g:=gb188) (o:=.cells #[.slice Ao40 t175.length co40, .slice Ao44 t178.length co44] 28 (0, 0)) (by (with_reducible repeat (first|refine blk_drewN ?_ _|refine blk_drew ?_|refine blk_alloc ?_ _));exact BK188.out)) : gb208 ≠ gb188));have n21_:=Aside0.mk ((by rw [hg];exact Nat.ne_of_lt (blk_lt (g:=gb189) (o:=.cells #[.slice Ao45 t181.length co45, .slice Ao48 t184.length co48] 30 (0, 0)) (by (with_reducible repeat (first|refine blk_drewN ?_ _|refine blk_drew ?_|refine blk_alloc ?_ _));exact BK189.out)) : gb189 ≠ gb208));have n22_:=Aside0.mk ((by rw [hg];exact Nat.ne_of_gt (blk_lt (g:=gb189) (o:=.cells #[.slice Ao45 t181.length co45, .slice Ao48 t184.length co48] 30 (0, 0)) (by (with_reducible repeat (first|refine blk_drewN ?_ _|refine blk_drew ?_|refine blk_alloc ?_ _));exact BK189.out)) : gb208 ≠ gb189));clear HO177;clear HO180;clear HO183;clear HO186;clear HO192;clear HO195;clear HO198;clear HO201;clear HO204;clear HO207;clear BK161;clear BK188;clear BK189;clear HB;have HO177:=n0_;have HO180:=n1_;have HO183:=n2_;have HO186:=n3_;have HO192:=n4_;have HO195:=n5_;have HO198:=n6_;have HO201:=n7_;have HO204:=n8_;have HO207:=n9_;have BK161:=n10_;have BK188:=n11_;have BK189:=n12_;have HB:=n13_;have BK208:=n14_;have GW208:=n15_;have GE208:=n16_;have NB161_208:=n17_;have NB208_161:=n18_;have NB188_208:=n19_;have NB208_188:=n20_;have NB189_208:=n21_;have NB208_189:=n22_;clear n0_ n1_ n2_ n3_ n4_ n5_ n6_ n7_ n8_ n9_ n10_ n11_ n12_ n13_ n14_ n15_ n16_ n17_ n18_ n19_ n20_ n21_ n22_;clear hb hbox hg;obtain ⟨Ao55, co55, eo55⟩:=Kd.R_slice HO204.out;subst eo55;have hnb56:=NB208_161.out;have hnc56:=NB161_208.out;have hnb57:=NB208_188.out;have hnc57:=NB188_208.out;have hnb58:=NB208_189.out;have hnc58:=NB189_208.out;have hcz59_0 : w54.cell? ⟨gb208, 0, none⟩ = some (.slice none 0 0):=(blk_cell BK208.out 0).trans rfl;have hcz59_1 : w54.cell? ⟨gb208, 1, none⟩ = some (.slice none 0 0):=(blk_cell BK208.out 1).trans rfl;have hfz59_0:=blk_frozen BK208.out 0;have hfz59_1:=blk_frozen BK208.out 1;obtain ⟨Ao60, co60, eo60⟩:=Kd.R_slice HO207.out;subst eo60)|((with_reducible refine gate_callee (f:=11) rfl ?_);refine goesL_ (some 66) rfl rfl Try.func11 (by kernel_rfl) rfl #[.agg #[.slice Ao55 t202.length co55, .slice Ao60 t205.length co60], .int .i64 a1] rfl (by (try simp only [List.map_toArray, List.map_cons, List.map_nil]);first|done|rfl|(simp only [List.length_drop, List.length_take];rfl)) ?_;(with_reducible refine (marks_Of.calls kj3 _ _ t202 _ _ t205 a1 t209 t212 _ ?side1 ?side2 ?side3 ?side4 A27.out).mono ?_);(case side1 => refine (Kd.R_reads' (e:=26) (base:=w.heap.size) (ok:=fun k_ => ((True ∧ some k_ ≠ (v191 : Value).ownBlock) ∧ some k_ ≠ (v197 : Value).ownBlock)) (n:=t202.length) (c:=co55) ?_).2.2;exact (by (with_reducible repeat (first|apply Kd.R_alloc|apply Kd.R_drewN|apply Kd.R_drew));exact (Kd.R_mono (Kd.R_far (p:=⟨gb208, 1, none⟩) (Kd.R_far (p:=⟨gb208, 0, none⟩) (Kd.R_types HO204.out BK208.out (by decide)) (fun _ hk => hk.2) (.slice Ao55 t202.length co55)) (fun _ hk => hk.2) (.slice Ao60 t205.length co60)) (fun _ h_ => h_.1))));(case side2 => exact (Kd.R_reads' HO204.out).2.1);(case side3 => refine (Kd.R_reads' (e:=38) (base:=w.heap.size) (ok:=fun k_ => True) (n:=t205.length) (c:=co60) ?_).2.2;exact (by (with_reducible repeat (first|apply Kd.R_alloc|apply Kd.R_drewN|apply Kd.R_drew));exact (Kd.R_mono (Kd.R_far (p:=⟨gb208, 1, none⟩) (Kd.R_far (p:=⟨gb208, 0, none⟩) (Kd.R_types HO207.out BK208.out (by decide)) (fun _ hk => hk.2) (.slice Ao55 t202.length co55)) (fun _ hk => hk.2) (.slice Ao60 t205.length co60)) (fun _ h_ => h_.1))));(case side4 => exact (Kd.R_reads' HO207.out).2.1);rintro e w61 ⟨v210, v213, rfl, ho0, ho1, hb⟩;refine ⟨_, rfl, ?_⟩;have n0_:=Aside0.mk (Kd.V_mono (Kd.V_told (Kd.V_told (Kd.V_old (by (with_reducible repeat (first|apply Kd.V_alloc|apply Kd.V_drewN|apply Kd.V_drew));exact (Kd.V_mono (Kd.V_far (p:=⟨gb208, 1, none⟩) (Kd.V_far (p:=⟨gb208, 0, none⟩) (Kd.V_mono HO177.out (fun k_ hk => (⟨hk, hk.2⟩ : _ ∧ k_ ≠ gb208))) (fun _ hk => hk.2) (.slice Ao55 t202.length co55)) (fun _ hk => hk.2) (.slice Ao60 t205.length co60)) (fun _ h_ => h_.1))) hb) (Kd.R_base ho0)) (Kd.R_base ho1)) (fun _ h_ => h_.1));have n1_:=Aside0.mk (Kd.V_mono (Kd.V_told (Kd.V_told (Kd.V_old (by (with_reducible repeat (first|apply Kd.V_alloc|apply Kd.V_drewN|apply Kd.V_drew));exact (Kd.V_mono (Kd.V_far (p:=⟨gb208, 1, none⟩) (Kd.V_far (p:=⟨gb208, 0, none⟩) (Kd.V_mono HO180.out (fun k_ hk => (⟨hk, hk.2⟩ : _ ∧ k_ ≠ gb208))) (fun _ hk => hk.2) (.slice Ao55 t202.length co55)) (fun _ hk => hk.2) (.slice Ao60 t205.length co60)) (fun _ h_ => h_.1))) hb) (Kd.R_base ho0)) (Kd.R_base ho1)) (fun _ h_ => h_.1));have n2_:=Aside0.mk (Kd.V_mono (Kd.V_told (Kd.V_told (Kd.V_old (by (with_reducible repeat (first|apply Kd.V_alloc|apply Kd.V_drewN|apply Kd.V_drew));exact (Kd.V_mono (Kd.V_far (p:=⟨gb208, 1, none⟩) (Kd.V_far (p:=⟨gb208, 0, none⟩) (Kd.V_mono HO183.out (fun k_ hk => (⟨hk, hk.2⟩ : _ ∧ k_ ≠ gb208))) (fun _ hk => hk.2) (.slice Ao55 t202.length co55)) (fun _ hk => hk.2) (.slice Ao60 t205.length co60)) (fun _ h_ => h_.1))) hb) (Kd.R_base ho0)) (Kd.R_base ho1)) (fun _ h_ => h_.1));have n3_:=Aside0.mk (Kd.V_mono (Kd.V_told (Kd.V_told (Kd.V_old (by (with_reducible repeat (first|apply Kd.V_alloc|apply Kd.V_drewN|apply Kd.V_drew));exact (Kd.V_mono (Kd.V_far (p:=⟨gb208, 1, none⟩) (Kd.V_far (p:=⟨gb208, 0, none⟩) (Kd.V_mono HO186.out (fun k_ hk => (⟨hk, hk.2⟩ : _ ∧ k_ ≠ gb208))) (fun _ hk => hk.2) (.slice Ao55 t202.length co55)) (fun _ hk => hk.2) (.slice Ao60 t205.length co60)) (fun _ h_ => h_.1))) hb) (Kd.R_base ho0)) (Kd.R_base ho1)) (fun _ h_ => h_.1));have n4_:=Aside0.mk (Kd.R_elder' (by (with_reducible repeat (first|apply Kd.R_alloc|apply Kd.R_drewN|apply Kd.R_drew));exact (Kd.R_mono (Kd.R_far (p:=⟨gb208, 1, none⟩) (Kd.R_far (p:=⟨gb208, 0, none⟩) (Kd.R_types HO192.out BK208.out (by decide)) (fun _ hk => hk.2) (.slice Ao55 t202.length co55)) (fun _ hk => hk.2) (.slice Ao60 t205.length co60)) (fun _ h_ => h_.1))) (Kd.R_base ho0) hb);have n5_:=Aside0.mk (Kd.R_elder' (by (with_reducible repeat (first|apply Kd.R_alloc|apply Kd.R_drewN|apply Kd.R_drew));exact (Kd.R_mono (Kd.R_far (p:=⟨gb208, 1, none⟩) (Kd.R_far (p:=⟨gb208, 0, none⟩) (Kd.R_types HO195.out BK208.out (by decide)) (fun _ hk => hk.2) (.slice Ao55 t202.length co55)) (fun _ hk => hk.2) (.slice Ao60 t205.length co60)) (fun _ h_ => h_.1))) (Kd.R_base ho1) hb);have n6_:=Aside0.mk (Kd.R_elder' (by (with_reducible repeat (first|apply Kd.R_alloc|apply Kd.R_drewN|apply Kd.R_drew));exact (Kd.R_mono (Kd.R_far (p:=⟨gb208, 1, none⟩) (Kd.R_far (p:=⟨gb208, 0, none⟩) (Kd.R_types HO198.out BK208.out (by decide)) (fun _ hk => hk.2) (.slice Ao55 t202.length co55)) (fun _ hk => hk.2) (.slice Ao60 t205.length co60)) (fun _ h_ => h_.1))) (Kd.R_base ho0) hb);have n7_:=Aside0.mk (Kd.R_elder' (by (with_reducible repeat (first|apply Kd.R_alloc|apply Kd.R_drewN|apply Kd.R_drew));exact (Kd.R_mono (Kd.R_far (p:=⟨gb208, 1, none⟩) (Kd.R_far (p:=⟨gb208, 0, none⟩) (Kd.R_types HO201.out BK208.out (by decide)) (fun _ hk => hk.2) (.slice Ao55 t202.length co55)) (fun _ hk => hk.2) (.slice Ao60 t205.length co60)) (fun _ h_ => h_.1))) (Kd.R_base ho1) hb);have n8_:=Aside0.mk (Kd.R_elder' (by (with_reducible repeat (first|apply Kd.R_alloc|apply Kd.R_drewN|apply Kd.R_drew));exact (Kd.R_mono (Kd.R_far (p:=⟨gb208, 1, none⟩) (Kd.R_far (p:=⟨gb208, 0, none⟩) (Kd.R_types HO204.out BK208.out (by decide)) (fun _ hk => hk.2) (.slice Ao55 t202.length co55)) (fun _ hk => hk.2) (.slice Ao60 t205.length co60)) (fun _ h_ => h_.1))) (Kd.R_base ho0) hb);have n9_:=Aside0.mk (Kd.R_below (by (with_reducible repeat (first|apply Kd.R_alloc|apply Kd.R_drewN|apply Kd.R_drew));exact (Kd.R_mono (Kd.R_far (p:=⟨gb208, 1, none⟩) (Kd.R_far (p:=⟨gb208, 0, none⟩) (Kd.R_types HO207.out BK208.out (by decide)) (fun _ hk => hk.2) (.slice Ao55 t202.length co55)) (fun _ hk => hk.2) (.slice Ao60 t205.length co60)) (fun _ h_ => h_.1))) hb);have n10_:=Aside0.mk (Kd.R_lower (Kd.R_new' (Kd.R_new' (Kd.R_new' ho0 (Kd.R_lt (by (with_reducible repeat (first|apply Kd.R_alloc|apply Kd.R_drewN|apply Kd.R_drew));exact (Kd.R_mono (Kd.R_far (p:=⟨gb208, 1, none⟩) (Kd.R_far (p:=⟨gb208, 0, none⟩) (Kd.R_types HO192.out BK208.out (by decide)) (fun _ hk => hk.2) (.slice Ao55 t202.length co55)) (fun _ hk => hk.2) (.slice Ao60 t205.length co60)) (fun _ h_ => h_.1))))) (Kd.R_lt (by (with_reducible repeat (first|apply Kd.R_alloc|apply Kd.R_drewN|apply Kd.R_drew));exact (Kd.R_mono (Kd.R_far (p:=⟨gb208, 1, none⟩) (Kd.R_far (p:=⟨gb208, 0, none⟩) (Kd.R_types HO198.out BK208.out (by decide)) (fun _ hk => hk.2) (.slice Ao55 t202.length co55)) (fun _ hk => hk.2) (.slice Ao60 t205.length co60)) (fun _ h_ => h_.1))))) (Kd.R_lt (by (with_reducible repeat (first|apply Kd.R_alloc|apply Kd.R_drewN|apply Kd.R_drew));exact (Kd.R_mono (Kd.R_far (p:=⟨gb208, 1, none⟩) (Kd.R_far (p:=⟨gb208, 0, none⟩) (Kd.R_types HO204.out BK208.out (by decide)) (fun _ hk => hk.2) (.slice Ao55 t202.length co55)) (fun _ hk => hk.2) (.slice Ao60 t205.length co60)) (fun _ h_ => h_.1))))) (below_size (by repeat (first|(with_reducible first|exact HB.out|apply below_alloc|apply pw_below_drewN|apply below_drew1|refine below_set ?_ GE161.out|refine below_set ?_ GE188.out|refine below_set ?_ GE189.out|refine below_set ?_ GE208.out)|exact HB.out))));have n11_:=Aside0.mk (Kd.R_lower (Kd.R_new' (Kd.R_new' ho1 (Kd.R_lt (by (with_reducible repeat (first|apply Kd.R_alloc|apply Kd.R_drewN|apply Kd.R_drew));exact (Kd.R_mono (Kd.R_far (p:=⟨gb208, 1, none⟩) (Kd.R_far (p:=⟨gb208, 0, none⟩) (Kd.R_types HO195.out BK208.out (by decide)) (fun _ hk => hk.2) (.slice Ao55 t202.length co55)) (fun _ hk => hk.2) (.slice Ao60 t205.length co60)) (fun _ h_ => h_.1))))) (Kd.R_lt (by (with_reducible repeat (first|apply Kd.R_alloc|apply Kd.R_drewN|apply Kd.R_drew));exact (Kd.R_mono (Kd.R_far (p:=⟨gb208, 1, none⟩) (Kd.R_far (p:=⟨gb208, 0, none⟩) (Kd.R_types HO201.out BK208.out (by decide)) (fun _ hk => hk.2) (.slice Ao55 t202.length co55)) (fun _ hk => hk.2) (.slice Ao60 t205.length co60)) (fun _ h_ => h_.1))))) (below_size (by repeat (first|(with_reducible first|exact HB.out|apply below_alloc|apply pw_below_drewN|apply below_drew1|refine below_set ?_ GE161.out|refine below_set ?_ GE188.out|refine below_set ?_ GE189.out|refine below_set ?_ GE208.out)|exact HB.out))));have n12_:=Aside0.mk (blk_below (g:=gb161) (o:=.cells #[.slice A0_0 l0_0.length c0_0, .slice A0_1 l0_1.length c0_1, .int .i64 a0_2, .int .i64 a0_3, .int .i64 a0_4] 33 (0, 0)) (by (with_reducible repeat (first|refine blk_drewN ?_ _|refine blk_drew ?_|refine blk_alloc ?_ _));refine blk_far ?_ NB161_208.out _;(with_reducible repeat (first|refine blk_drewN ?_ _|refine blk_drew ?_|refine blk_alloc ?_ _));refine blk_far ?_ NB161_208.out _;(with_reducible repeat (first|refine blk_drewN ?_ _|refine blk_drew ?_|refine blk_alloc ?_ _));exact BK161.out) hb);have n13_:=Aside0.mk (blk_below (g:=gb188) (o:=.cells #[.slice Ao40 t175.length co40, .slice Ao44 t178.length co44] 28 (0, 0)) (by (with_reducible repeat (first|refine blk_drewN ?_ _|refine blk_drew ?_|refine blk_alloc ?_ _));refine blk_far ?_ NB188_208.out _;(with_reducible repeat (first|refine blk_drewN ?_ _|refine blk_drew ?_|refine blk_alloc ?_ _));refine blk_far ?_ NB188_208.out _;(with_reducible repeat (first|refine blk_drewN ?_ _|refine blk_drew ?_|refine blk_alloc ?_ _));exact BK188.out) hb);have n14_:=Aside0.mk (blk_below (g:=gb189) (o:=.cells #[.slice Ao45 t181.length co45, .slice Ao48 t184.length co48] 30 (0, 0)) (by (with_reducible repeat (first|refine blk_drewN ?_ _|refine blk_drew ?_|refine blk_alloc ?_ _));refine blk_far ?_ NB189_208.out _;(with_reducible repeat (first|refine blk_drewN ?_ _|refine blk_drew ?_|refine blk_alloc ?_ _));refine blk_far ?_ NB189_208.out _;(with_reducible repeat (first|refine blk_drewN ?_ _|refine blk_drew ?_|refine blk_alloc ?_ _));exact BK189.out) hb);have n15_:=Aside0.mk (blk_below (g:=gb208) (o:=.cells #[.slice Ao55 t202.length co55, .slice Ao60 t205.length co60] 28 (0, 0)) (by (with_reducible repeat (first|refine blk_drewN ?_ _|refine blk_drew ?_|refine blk_alloc ?_ _));refine blk_put (cs:=#[.slice Ao55 t202.length co55, .slice none 0 0]) ?_ 1 _ rfl;(with_reducible repeat (first|refine blk_drewN ?_ _|refine blk_drew ?_|refine blk_alloc ?_ _));refine blk_put (cs:=#[.slice none 0 0, .slice none 0 0]) ?_ 0 _ rfl;(with_reducible repeat (first|refine blk_drewN ?_ _|refine blk_drew ?_|refine blk_alloc ?_ _));exact BK208.out) hb);have n16_:=Aside0.mk (below_step (by repeat (first|(with_reducible first|exact HB.out|apply below_alloc|apply pw_below_drewN|apply below_drew1|refine below_set ?_ GE161.out|refine below_set ?_ GE188.out|refine below_set ?_ GE189.out|refine below_set ?_ GE208.out)|exact HB.out)) hb);clear HO177;clear HO180;clear HO183;clear HO186;clear HO192;clear HO195;clear HO198;clear HO201;clear HO204;clear HO207;clear BK161;clear BK188;clear BK189;clear BK208;clear HB;have HO177:=n0_;have HO180:=n1_;have HO183:=n2_;have HO186:=n3_;have HO192:=n4_;have HO195:=n5_;have HO198:=n6_;have HO201:=n7_;have HO204:=n8_;have HO207:=n9_;have HO211:=n10_;have HO214:=n11_;have BK161:=n12_;have BK188:=n13_;have BK189:=n14_;have BK208:=n15_;have HB:=n16_;clear n0_ n1_ n2_ n3_ n4_ n5_ n6_ n7_ n8_ n9_ n10_ n11_ n12_ n13_ n14_ n15_ n16_;(try clear hb);(try clear hb2);(try clear hk);(try clear hi);(try clear ho0);(try clear ho1)))
                  have n0_ := Aside0.mk (Kd.V_drew HO177.out)
                  have n1_ := Aside0.mk (Kd.V_drew HO180.out)
                  have n2_ := Aside0.mk (Kd.V_drew HO183.out)
                  have n3_ := Aside0.mk (Kd.V_drew HO186.out)
                  have n4_ := Aside0.mk (Kd.R_drew HO192.out)
                  have n5_ := Aside0.mk (Kd.R_drew HO195.out)
                  have n6_ := Aside0.mk (Kd.R_drew HO198.out)
                  have n7_ := Aside0.mk (Kd.R_drew HO201.out)
                  have n8_ := Aside0.mk (Kd.R_drew HO204.out)
                  have n9_ := Aside0.mk (Kd.R_drew HO207.out)
                  have n10_ := Aside0.mk (Kd.R_drew HO211.out)
                  have n11_ := Aside0.mk (Kd.R_drew HO214.out)
                  have n12_ := Aside0.mk (blk_drew BK161.out)
                  have n13_ := Aside0.mk (blk_drew BK188.out)
                  have n14_ := Aside0.mk (blk_drew BK189.out)
                  have n15_ := Aside0.mk (blk_drew BK208.out)
                  have n16_ := Aside0.mk (below_drew1 HB.out)
                  clear HO177
                  clear HO180
                  clear HO183
                  clear HO186
                  clear HO192
                  clear HO195
                  clear HO198
                  clear HO201
                  clear HO204
                  clear HO207
                  clear HO211
                  clear HO214
                  clear BK161
                  clear BK188
                  clear BK189
                  clear BK208
                  clear HB
                  have HO177 := n0_
                  have HO180 := n1_
                  have HO183 := n2_
                  have HO186 := n3_
                  have HO192 := n4_
                  have HO195 := n5_
                  have HO198 := n6_
                  have HO201 := n7_
                  have HO204 := n8_
                  have HO207 := n9_
                  have HO211 := n10_
                  have HO214 := n11_
                  have BK161 := n12_
                  have BK188 := n13_
                  have BK189 := n14_
                  have BK208 := n15_
                  have HB := n16_
                  clear n0_ n1_ n2_ n3_ n4_ n5_ n6_ n7_ n8_ n9_ n10_ n11_ n12_ n13_ n14_ n15_ n16_
                  obtain ⟨Ao63, co63, eo63⟩ := Kd.R_slice HO192.out
                  (first | subst eo63 | (injection eo63 with f1_ f2_ f3_; have f4_ := f1_.symm; have f5_ := f3_.symm; clear f1_ f2_ f3_; subst f4_; subst f5_))
                  obtain ⟨Ao64, co64, eo64⟩ := Kd.R_slice HO198.out
                  (first | subst eo64 | (injection eo64 with f1_ f2_ f3_; have f4_ := f1_.symm; have f5_ := f3_.symm; clear f1_ f2_ f3_; subst f4_; subst f5_))
                  refine start_ (n := 26) (S := fun w' => w'.cell? ⟨gb208, 0, none⟩ = some (.slice Ao55 t202.length co55) ∧ w'.cell? ⟨gb208, 1, none⟩ = some (.slice Ao60 t205.length co60) ∧ w'.cell? ⟨gb189, 0, none⟩ = some (.slice Ao45 t181.length co45) ∧ w'.cell? ⟨gb189, 1, none⟩ = some (.slice Ao48 t184.length co48)) (ds := []) #[false, false, false, false, false, false, false, false, false, false, false, false, false, false, false, false, false, false, false, false, false, false, false, false, false, false] (by kernel_rfl) rfl rfl ⟨(blk_cell BK208.out 0).trans rfl, (blk_cell BK208.out 1).trans rfl, (blk_cell BK189.out 0).trans rfl, (blk_cell BK189.out 1).trans rfl⟩ (fun hHeld => ?_); refine with_tabW chancellaw04_MarksDrop.tab11 chancellaw04_MarksDrop.bits11 (fun HT_ HW_ => ?_)
                  generalize w61.drew = w62 at HO177 HO180 HO183 HO186 HO192 HO195 HO198 HO201 HO204 HO207 HO211 HO214 BK161 BK188 BK189 BK208 HB hHeld ⊢
                  refine pure_ (i := 0) (N := some 69) (v := ?_) (a' := ?_) #[true, false, false, false, false, false, false, false, false, false, false, false, false, false, false, false, false, false, false, false, false, false, false, false, false, false] rfl rfl (any_of HT_.out (by kernel_rfl)) (fun _ _ _ h => h) (Or.inl ⟨by rfl, ?_⟩) ?_ ?_
                  rotate_left
                  · intro w'
                    go_simp
                    with_reducible rfl
                  rotate_left
                  · simp only [Act.put, List.setIfInBounds_toArray, List.set_cons_zero, List.set_cons_succ, i64_w, i32_w]
                    rfl
                  refine pure_ (i := 1) (N := some 70) (v := ?_) (a' := ?_) #[true, true, false, false, false, false, false, false, false, false, false, false, false, false, false, false, false, false, false, false, false, false, false, false, false, false] rfl rfl (any_of HT_.out (by kernel_rfl)) (fun _ _ _ h => h) (Or.inl ⟨by rfl, ?_⟩) ?_ ?_
                  rotate_left
                  · intro w'
                    go_simp
                    with_reducible rfl
                  rotate_left
                  · simp only [Act.put, List.setIfInBounds_toArray, List.set_cons_zero, List.set_cons_succ, i64_w, i32_w]
                    rfl
                  refine one_ (i := 2) (N := some 71) #[true, true, true, false, false, false, false, false, false, false, false, false, false, false, false, false, false, false, false, false, false, false, false, false, false, false] rfl rfl (one_of HT_.out (by kernel_rfl)) (by decide) (fun K hK => ?_)
                  refine goes_ Try.func15 (by kernel_rfl) rfl #[.slice Ao63 t190.length co63, .slice Ao64 t196.length co64, .slice none 0 0, .slice none 0 0] (by rfl) rfl rfl (by (try simp only [List.map_toArray, List.map_cons, List.map_nil]); first | done | rfl | (simp only [List.length_drop, List.length_take]; rfl)) ?_
                  refine (chancelref04_Same.calls kj3 _ _ t190 _ _ t196 _ _ ([] : List (S38)) _ _ ([] : List (S38)) true _ ?side1 ?side2 ?side3 ?side4 ?side5 ?side6 ?side7 ?side8 A28.out).mono ?_
                  (case side1 => repeat (first|exact (Kd.R_reads' HO192.out).2.2|(with_reducible refine Kd.C_alloc ?_ _)|(with_reducible refine Kd.C_drewN ?_ _)|(with_reducible refine Kd.C_drew ?_)))
                  (case side2 => exact (Kd.R_reads' HO192.out).2.1)
                  (case side3 => repeat (first|exact (Kd.R_reads' HO198.out).2.2|(with_reducible refine Kd.C_alloc ?_ _)|(with_reducible refine Kd.C_drewN ?_ _)|(with_reducible refine Kd.C_drew ?_)))
                  (case side4 => exact (Kd.R_reads' HO198.out).2.1)
                  (case side5 => exact Kd.C_nil _ _)
                  (case side6 => exact Nat.le_refl _)
                  (case side7 => exact Kd.C_nil _ _)
                  (case side8 => exact Nat.le_refl _)
                  rintro e w' ⟨rfl, ⟨nd, rfl⟩⟩
                  refine ⟨_, rfl, ?_⟩
                  obtain ⟨Ao65, co65, eo65⟩ := Kd.R_slice HO195.out
                  (first | subst eo65 | (injection eo65 with f1_ f2_ f3_; have f4_ := f1_.symm; have f5_ := f3_.symm; clear f1_ f2_ f3_; subst f4_; subst f5_))
                  obtain ⟨Ao66, co66, eo66⟩ := Kd.R_slice HO201.out
                  (first | subst eo66 | (injection eo66 with f1_ f2_ f3_; have f4_ := f1_.symm; have f5_ := f3_.symm; clear f1_ f2_ f3_; subst f4_; subst f5_))
                  refine hK.out _ _ ⟨(blk_cell BK208.out 0).trans rfl, (blk_cell BK208.out 1).trans rfl, (blk_cell BK189.out 0).trans rfl, (blk_cell BK189.out 1).trans rfl⟩ (fun hHeld => ?_)
                  clear hK K
                  refine norm_ (a' := ?_) ?_ ?_
                  rotate_left
                  · show Act.put _ (some 71) _ = _
                    simp only [Act.put, List.setIfInBounds_toArray, List.set_cons_zero, List.set_cons_succ, i64_w, i32_w]
                    rfl
                  refine pure_ (i := 3) (N := some 72) (v := ?_) (a' := ?_) #[true, true, true, true, false, false, false, false, false, false, false, false, false, false, false, false, false, false, false, false, false, false, false, false, false, false] rfl rfl (any_of HT_.out (by kernel_rfl)) (fun _ _ _ h => h) (Or.inl ⟨by rfl, ?_⟩) ?_ ?_
                  rotate_left
                  · intro w'
                    go_simp
                    with_reducible rfl
                  rotate_left
                  · simp only [Act.put, List.setIfInBounds_toArray, List.set_cons_zero, List.set_cons_succ, i64_w, i32_w]
                    rfl
                  refine pure_ (i := 4) (N := some 73) (v := ?_) (a' := ?_) #[true, true, true, true, true, false, false, false, false, false, false, false, false, false, false, false, false, false, false, false, false, false, false, false, false, false] rfl rfl (any_of HT_.out (by kernel_rfl)) (fun _ _ _ h => h) (Or.inl ⟨by rfl, ?_⟩) ?_ ?_
                  rotate_left
                  · intro w'
                    go_simp
                    with_reducible rfl
                  rotate_left
                  · simp only [Act.put, List.setIfInBounds_toArray, List.set_cons_zero, List.set_cons_succ, i64_w, i32_w]
                    rfl
                  refine pure_ (i := 5) (N := some 74) (v := ?_) (a' := ?_) #[true, true, true, true, true, true, false, false, false, false, false, false, false, false, false, false, false, false, false, false, false, false, false, false, false, false] rfl rfl (any_of HT_.out (by kernel_rfl)) (fun _ _ _ h => h) (Or.inl ⟨by rfl, ?_⟩) ?_ ?_
                  rotate_left
                  · intro w'
                    go_simp
                    with_reducible rfl
                  rotate_left
                  · simp only [Act.put, List.setIfInBounds_toArray, List.set_cons_zero, List.set_cons_succ, i64_w, i32_w]
                    rfl
                  refine one_ (i := 6) (N := some 75) #[true, true, true, true, true, true, true, false, false, false, false, false, false, false, false, false, false, false, false, false, false, false, false, false, false, false] rfl rfl (one_of HT_.out (by kernel_rfl)) (by decide) (fun K hK => ?_)
                  refine goes_ Try.func16 (by kernel_rfl) rfl #[.slice Ao65 t193.length co65, .slice Ao66 t199.length co66] (by rfl) rfl rfl (by (try simp only [List.map_toArray, List.map_cons, List.map_nil]); first | done | rfl | (simp only [List.length_drop, List.length_take]; rfl)) ?_
                  with_reducible refine (chancelref03_Ints.calls kj3 _ _ t193 _ _ t199 true _ ?side1 ?side2 ?side3 ?side4 A30.out).mono ?_
                  (case side1 => repeat (first|exact (Kd.R_reads' HO195.out).2.2|(with_reducible refine Kd.C_alloc ?_ _)|(with_reducible refine Kd.C_drewN ?_ _)|(with_reducible refine Kd.C_drew ?_)))
                  (case side2 => exact (Kd.R_reads' HO195.out).2.1)
                  (case side3 => repeat (first|exact (Kd.R_reads' HO201.out).2.2|(with_reducible refine Kd.C_alloc ?_ _)|(with_reducible refine Kd.C_drewN ?_ _)|(with_reducible refine Kd.C_drew ?_)))
                  (case side4 => exact (Kd.R_reads' HO201.out).2.1)
                  rintro e w' ⟨rfl, ⟨nd, rfl⟩⟩
                  refine ⟨_, rfl, ?_⟩
                  refine hK.out _ _ ⟨(blk_cell BK208.out 0).trans rfl, (blk_cell BK208.out 1).trans rfl, (blk_cell BK189.out 0).trans rfl, (blk_cell BK189.out 1).trans rfl⟩ (fun hHeld => ?_)
                  clear hK K
                  refine norm_ (a' := ?_) ?_ ?_
                  rotate_left
                  · show Act.put _ (some 75) _ = _
                    simp only [Act.put, List.setIfInBounds_toArray, List.set_cons_zero, List.set_cons_succ, i64_w, i32_w]
                    rfl
                  refine pure_ (i := 7) (N := some 76) (v := ?_) (a' := ?_) #[true, true, true, true, true, true, true, true, false, false, false, false, false, false, false, false, false, false, false, false, false, false, false, false, false, false] rfl rfl (any_of HT_.out (by kernel_rfl)) (fun _ _ _ h => h) (Or.inl ⟨by rfl, ?_⟩) ?_ ?_
                  rotate_left
                  · intro w'
                    go_simp
                    with_reducible rfl
                  rotate_left
                  · simp only [Act.put, List.setIfInBounds_toArray, List.set_cons_zero, List.set_cons_succ, i64_w, i32_w]
                    rfl
                  refine pure_ (i := 8) (N := some 77) (v := ?_) (a' := ?_) #[true, true, true, true, true, true, true, true, true, false, false, false, false, false, false, false, false, false, false, false, false, false, false, false, false, false] rfl rfl (any_of HT_.out (by kernel_rfl)) (fun _ _ _ h => h) (Or.inl ⟨by rfl, ?_⟩) ?_ ?_
                  rotate_left
                  · intro w'
                    go_simp
                    with_reducible rfl
                  rotate_left
                  · simp only [Act.put, List.setIfInBounds_toArray, List.set_cons_zero, List.set_cons_succ, i64_w, i32_w]
                    rfl
                  refine pure_ (i := 11) (N := some 80) (v := ?_) (a' := ?_) #[true, true, true, true, true, true, true, true, true, false, false, true, false, false, false, false, false, false, false, false, false, false, false, false, false, false] rfl rfl (any_of HT_.out (by kernel_rfl)) (fun _ _ _ h => h) (Or.inl ⟨by rfl, ?_⟩) ?_ ?_
                  rotate_left
                  · intro w'
                    go_simp
                    with_reducible rfl
                  rotate_left
                  · simp only [Act.put, List.setIfInBounds_toArray, List.set_cons_zero, List.set_cons_succ, i64_w, i32_w]
                    rfl
                  refine take_ (i := 9) (N := some 78) (v := ?_) (a' := ?_) #[true, true, true, true, true, true, true, true, true, true, false, true, false, false, false, false, false, false, false, false, false, false, false, false, false, false] rfl rfl (take_ofW HT_.out HW_.out (by kernel_rfl)) (fun _ _ _ h => h) (Or.inl ⟨by rfl, ?_⟩) hHeld ?_ ?_
                  rotate_left
                  · rintro w' ⟨s0, s1, s2, s3⟩
                    go_simp
                    with_reducible rfl
                  rotate_left
                  · simp only [Act.put, List.setIfInBounds_toArray, List.set_cons_zero, List.set_cons_succ, i64_w, i32_w]
                    rfl
                  refine take_ (i := 10) (N := some 79) (v := ?_) (a' := ?_) #[true, true, true, true, true, true, true, true, true, true, true, true, false, false, false, false, false, false, false, false, false, false, false, false, false, false] rfl rfl (take_ofW HT_.out HW_.out (by kernel_rfl)) (fun _ _ _ h => h) (Or.inl ⟨by rfl, ?_⟩) hHeld ?_ ?_
                  rotate_left
                  · rintro w' ⟨s0, s1, s2, s3⟩
                    go_simp
                    with_reducible rfl
                  rotate_left
                  · simp only [Act.put, List.setIfInBounds_toArray, List.set_cons_zero, List.set_cons_succ, i64_w, i32_w]
                    rfl
                  refine one_ (i := 12) (N := some 81) #[true, true, true, true, true, true, true, true, true, true, true, true, true, false, false, false, false, false, false, false, false, false, false, false, false, false] rfl rfl (one_of HT_.out (by kernel_rfl)) (by decide) (fun K hK => ?_)
                  refine goes_ Try.func18 (by kernel_rfl) rfl #[.agg #[.slice Ao45 t181.length co45, .slice Ao48 t184.length co48], .int .i64 a1] (by rfl) rfl rfl (by (try simp only [List.map_toArray, List.map_cons, List.map_nil]); first | done | rfl | (simp only [List.length_drop, List.length_take]; rfl)) ?_
                  with_reducible refine (chancelref04_Drop.calls kj3 _ _ t181 _ _ t184 a1 t217 t220 _ ?side1 ?side2 ?side3 ?side4 A32.out).mono ?_
                  (case side1 => repeat (first|exact (Kd.V_reads' HO183.out).2.2|(with_reducible refine Kd.C_alloc ?_ _)|(with_reducible refine Kd.C_drewN ?_ _)|(with_reducible refine Kd.C_drew ?_)))
                  (case side2 => exact (Kd.V_reads' HO183.out).2.1)
                  (case side3 => repeat (first|exact (Kd.V_reads' HO186.out).2.2|(with_reducible refine Kd.C_alloc ?_ _)|(with_reducible refine Kd.C_drewN ?_ _)|(with_reducible refine Kd.C_drew ?_)))
                  (case side4 => exact (Kd.V_reads' HO186.out).2.1)
                  rintro e w67 ⟨v218, v221, rfl, ho0, ho1, hb⟩
                  refine ⟨_, rfl, ?_⟩
                  have n0_:=Aside0.mk (Kd.V_mono (Kd.V_told (Kd.V_told (Kd.V_old (by (with_reducible repeat (first|apply Kd.V_alloc|apply Kd.V_drewN|apply Kd.V_drew));exact HO177.out) hb) (Kd.R_base ho0)) (Kd.R_base ho1)) (fun _ h_ => h_.1))
                  have n1_:=Aside0.mk (Kd.V_mono (Kd.V_told (Kd.V_told (Kd.V_old (by (with_reducible repeat (first|apply Kd.V_alloc|apply Kd.V_drewN|apply Kd.V_drew));exact HO180.out) hb) (Kd.R_base ho0)) (Kd.R_base ho1)) (fun _ h_ => h_.1))
                  have n2_:=Aside0.mk (Kd.V_mono (Kd.V_told (Kd.V_told (Kd.V_old (by (with_reducible repeat (first|apply Kd.V_alloc|apply Kd.V_drewN|apply Kd.V_drew));exact HO183.out) hb) (Kd.R_base ho0)) (Kd.R_base ho1)) (fun _ h_ => h_.1))
                  have n3_:=Aside0.mk (Kd.V_mono (Kd.V_told (Kd.V_told (Kd.V_old (by (with_reducible repeat (first|apply Kd.V_alloc|apply Kd.V_drewN|apply Kd.V_drew));exact HO186.out) hb) (Kd.R_base ho0)) (Kd.R_base ho1)) (fun _ h_ => h_.1))
                  have n4_:=Aside0.mk (Kd.R_elder' (by (with_reducible repeat (first|apply Kd.R_alloc|apply Kd.R_drewN|apply Kd.R_drew));exact HO192.out) (Kd.R_base ho0) hb)
                  have n5_:=Aside0.mk (Kd.R_below (by (with_reducible repeat (first|apply Kd.R_alloc|apply Kd.R_drewN|apply Kd.R_drew));exact HO195.out) hb)
                  have n6_:=Aside0.mk (Kd.R_elder' (by (with_reducible repeat (first|apply Kd.R_alloc|apply Kd.R_drewN|apply Kd.R_drew));exact HO198.out) (Kd.R_base ho0) hb)
                  have n7_:=Aside0.mk (Kd.R_below (by (with_reducible repeat (first|apply Kd.R_alloc|apply Kd.R_drewN|apply Kd.R_drew));exact HO201.out) hb)
                  have n8_:=Aside0.mk (Kd.R_elder' (by (with_reducible repeat (first|apply Kd.R_alloc|apply Kd.R_drewN|apply Kd.R_drew));exact HO204.out) (Kd.R_base ho0) hb)
                  have n9_:=Aside0.mk (Kd.R_elder' (by (with_reducible repeat (first|apply Kd.R_alloc|apply Kd.R_drewN|apply Kd.R_drew));exact HO207.out) (Kd.R_base ho1) hb)
                  have n10_:=Aside0.mk (Kd.R_elder' (by (with_reducible repeat (first|apply Kd.R_alloc|apply Kd.R_drewN|apply Kd.R_drew));exact HO211.out) (Kd.R_base ho0) hb)
                  have n11_:=Aside0.mk (Kd.R_below (by (with_reducible repeat (first|apply Kd.R_alloc|apply Kd.R_drewN|apply Kd.R_drew));exact HO214.out) hb)
                  have n12_:=Aside0.mk (Kd.R_lower (Kd.R_new' (Kd.R_new' (Kd.R_new' (Kd.R_new' ho0 (Kd.R_lt (by (with_reducible repeat (first|apply Kd.R_alloc|apply Kd.R_drewN|apply Kd.R_drew));exact HO192.out))) (Kd.R_lt (by (with_reducible repeat (first|apply Kd.R_alloc|apply Kd.R_drewN|apply Kd.R_drew));exact HO198.out))) (Kd.R_lt (by (with_reducible repeat (first|apply Kd.R_alloc|apply Kd.R_drewN|apply Kd.R_drew));exact HO204.out))) (Kd.R_lt (by (with_reducible repeat (first|apply Kd.R_alloc|apply Kd.R_drewN|apply Kd.R_drew));exact HO211.out))) (below_size (by repeat (first|(with_reducible first|exact HB.out|apply below_alloc|apply pw_below_drewN|apply below_drew1|refine below_set ?_ GE161.out|refine below_set ?_ GE188.out|refine below_set ?_ GE189.out|refine below_set ?_ GE208.out)|exact HB.out))))
                  have n13_:=Aside0.mk (Kd.R_lower (Kd.R_new' ho1 (Kd.R_lt (by (with_reducible repeat (first|apply Kd.R_alloc|apply Kd.R_drewN|apply Kd.R_drew));exact HO207.out))) (below_size (by repeat (first|(with_reducible first|exact HB.out|apply below_alloc|apply pw_below_drewN|apply below_drew1|refine below_set ?_ GE161.out|refine below_set ?_ GE188.out|refine below_set ?_ GE189.out|refine below_set ?_ GE208.out)|exact HB.out))))
                  have n14_:=Aside0.mk (blk_below (g:=gb161) (o:=.cells #[.slice A0_0 l0_0.length c0_0, .slice A0_1 l0_1.length c0_1, .int .i64 a0_2, .int .i64 a0_3, .int .i64 a0_4] 33 (0, 0)) (by (with_reducible repeat (first|refine blk_drewN ?_ _|refine blk_drew ?_|refine blk_alloc ?_ _));exact BK161.out) hb)
                  have n15_:=Aside0.mk (blk_below (g:=gb188) (o:=.cells #[.slice Ao40 t175.length co40, .slice Ao44 t178.length co44] 28 (0, 0)) (by (with_reducible repeat (first|refine blk_drewN ?_ _|refine blk_drew ?_|refine blk_alloc ?_ _));exact BK188.out) hb)
                  have n16_:=Aside0.mk (blk_below (g:=gb189) (o:=.cells #[.slice Ao45 t181.length co45, .slice Ao48 t184.length co48] 30 (0, 0)) (by (with_reducible repeat (first|refine blk_drewN ?_ _|refine blk_drew ?_|refine blk_alloc ?_ _));exact BK189.out) hb)
                  have n17_:=Aside0.mk (blk_below (g:=gb208) (o:=.cells #[.slice Ao55 t202.length co55, .slice Ao60 t205.length co60] 28 (0, 0)) (by (with_reducible repeat (first|refine blk_drewN ?_ _|refine blk_drew ?_|refine blk_alloc ?_ _));exact BK208.out) hb)
                  have n18_:=Aside0.mk (below_step (by repeat (first|(with_reducible first|exact HB.out|apply below_alloc|apply pw_below_drewN|apply below_drew1|refine below_set ?_ GE161.out|refine below_set ?_ GE188.out|refine below_set ?_ GE189.out|refine below_set ?_ GE208.out)|exact HB.out)) hb)
                  clear HO177
                  clear HO180
                  clear HO183
                  clear HO186
                  clear HO192
                  clear HO195
                  clear HO198
                  clear HO201
                  clear HO204
                  clear HO207
                  clear HO211
                  clear HO214
                  clear BK161
                  clear BK188
                  clear BK189
                  clear BK208
                  clear HB
                  have HO177 := n0_
                  have HO180 := n1_
                  have HO183 := n2_
                  have HO186 := n3_
                  have HO192 := n4_
                  have HO195 := n5_
                  have HO198 := n6_
                  have HO201 := n7_
                  have HO204 := n8_
                  have HO207 := n9_
                  have HO211 := n10_
                  have HO214 := n11_
                  have HO219 := n12_
                  have HO222 := n13_
                  have BK161 := n14_
                  have BK188 := n15_
                  have BK189 := n16_
                  have BK208 := n17_
                  have HB := n18_
                  clear n0_ n1_ n2_ n3_ n4_ n5_ n6_ n7_ n8_ n9_ n10_ n11_ n12_ n13_ n14_ n15_ n16_ n17_ n18_
                  (try clear hb)
                  (try clear hb2)
                  (try clear hk)
                  (try clear hi)
                  (try clear ho0)
                  (try clear ho1)
                  obtain ⟨Ao68, co68, eo68⟩ := Kd.R_slice HO219.out
                  (first | subst eo68 | (injection eo68 with f1_ f2_ f3_; have f4_ := f1_.symm; have f5_ := f3_.symm; clear f1_ f2_ f3_; subst f4_; subst f5_))
                  obtain ⟨Ao69, co69, eo69⟩ := Kd.R_slice HO222.out
                  (first | subst eo69 | (injection eo69 with f1_ f2_ f3_; have f4_ := f1_.symm; have f5_ := f3_.symm; clear f1_ f2_ f3_; subst f4_; subst f5_))
                  refine hK.out _ _ ⟨(blk_cell BK208.out 0).trans rfl, (blk_cell BK208.out 1).trans rfl, (blk_cell BK189.out 0).trans rfl, (blk_cell BK189.out 1).trans rfl⟩ (fun hHeld => ?_)
                  clear hK K
                  refine norm_ (a' := ?_) ?_ ?_
                  rotate_left
                  · show Act.put _ (some 81) _ = _
                    simp only [Act.put, List.setIfInBounds_toArray, List.set_cons_zero, List.set_cons_succ, i64_w, i32_w]
                    rfl
                  refine one_ (i := 13) (N := some 82) #[true, true, true, true, true, true, true, true, true, true, true, true, true, true, false, false, false, false, false, false, false, false, false, false, false, false] rfl rfl (one_of HT_.out (by kernel_rfl)) (by decide) (fun K hK => ?_)
                  refine goes_ Try.func17 (by kernel_rfl) rfl #[.agg #[.slice Ao55 t202.length co55, .slice Ao60 t205.length co60], .agg #[.slice Ao68 t217.length co68, .slice Ao69 t220.length co69]] (by rfl) rfl rfl (by (try simp only [List.map_toArray, List.map_cons, List.map_nil]); first | done | rfl | (simp only [List.length_drop, List.length_take]; rfl)) ?_
                  with_reducible refine (chancellaw04_same.calls kj3 _ _ t202 _ _ t205 _ _ t217 _ _ t220 true _ ?side1 ?side2 ?side3 ?side4 ?side5 ?side6 ?side7 ?side8 A33.out).mono ?_
                  (case side1 => repeat (first|exact (Kd.R_reads' HO204.out).2.2|(with_reducible refine Kd.C_alloc ?_ _)|(with_reducible refine Kd.C_drewN ?_ _)|(with_reducible refine Kd.C_drew ?_)))
                  (case side2 => exact (Kd.R_reads' HO204.out).2.1)
                  (case side3 => repeat (first|exact (Kd.R_reads' HO207.out).2.2|(with_reducible refine Kd.C_alloc ?_ _)|(with_reducible refine Kd.C_drewN ?_ _)|(with_reducible refine Kd.C_drew ?_)))
                  (case side4 => exact (Kd.R_reads' HO207.out).2.1)
                  (case side5 => repeat (first|exact (Kd.R_reads' HO219.out).2.2|(with_reducible refine Kd.C_alloc ?_ _)|(with_reducible refine Kd.C_drewN ?_ _)|(with_reducible refine Kd.C_drew ?_)))
                  (case side6 => exact (Kd.R_reads' HO219.out).2.1)
                  (case side7 => repeat (first|exact (Kd.R_reads' HO222.out).2.2|(with_reducible refine Kd.C_alloc ?_ _)|(with_reducible refine Kd.C_drewN ?_ _)|(with_reducible refine Kd.C_drew ?_)))
                  (case side8 => exact (Kd.R_reads' HO222.out).2.1)
                  rintro e w70 ⟨rfl, hb⟩
                  refine ⟨_, rfl, ?_⟩
                  have n0_:=Aside0.mk (Kd.V_below (by (with_reducible repeat (first|apply Kd.V_alloc|apply Kd.V_drewN|apply Kd.V_drew));exact HO177.out) hb)
                  have n1_:=Aside0.mk (Kd.V_below (by (with_reducible repeat (first|apply Kd.V_alloc|apply Kd.V_drewN|apply Kd.V_drew));exact HO180.out) hb)
                  have n2_:=Aside0.mk (Kd.V_below (by (with_reducible repeat (first|apply Kd.V_alloc|apply Kd.V_drewN|apply Kd.V_drew));exact HO183.out) hb)
                  have n3_:=Aside0.mk (Kd.V_below (by (with_reducible repeat (first|apply Kd.V_alloc|apply Kd.V_drewN|apply Kd.V_drew));exact HO186.out) hb)
                  have n4_:=Aside0.mk (Kd.R_below (by (with_reducible repeat (first|apply Kd.R_alloc|apply Kd.R_drewN|apply Kd.R_drew));exact HO192.out) hb)
                  have n5_:=Aside0.mk (Kd.R_below (by (with_reducible repeat (first|apply Kd.R_alloc|apply Kd.R_drewN|apply Kd.R_drew));exact HO195.out) hb)
                  have n6_:=Aside0.mk (Kd.R_below (by (with_reducible repeat (first|apply Kd.R_alloc|apply Kd.R_drewN|apply Kd.R_drew));exact HO198.out) hb)
                  have n7_:=Aside0.mk (Kd.R_below (by (with_reducible repeat (first|apply Kd.R_alloc|apply Kd.R_drewN|apply Kd.R_drew));exact HO201.out) hb)
                  have n8_:=Aside0.mk (Kd.R_below (by (with_reducible repeat (first|apply Kd.R_alloc|apply Kd.R_drewN|apply Kd.R_drew));exact HO204.out) hb)
                  have n9_:=Aside0.mk (Kd.R_below (by (with_reducible repeat (first|apply Kd.R_alloc|apply Kd.R_drewN|apply Kd.R_drew));exact HO207.out) hb)
                  have n10_:=Aside0.mk (Kd.R_below (by (with_reducible repeat (first|apply Kd.R_alloc|apply Kd.R_drewN|apply Kd.R_drew));exact HO211.out) hb)
                  have n11_:=Aside0.mk (Kd.R_below (by (with_reducible repeat (first|apply Kd.R_alloc|apply Kd.R_drewN|apply Kd.R_drew));exact HO214.out) hb)
                  have n12_:=Aside0.mk (Kd.R_below (by (with_reducible repeat (first|apply Kd.R_alloc|apply Kd.R_drewN|apply Kd.R_drew));exact HO219.out) hb)
                  have n13_:=Aside0.mk (Kd.R_below (by (with_reducible repeat (first|apply Kd.R_alloc|apply Kd.R_drewN|apply Kd.R_drew));exact HO222.out) hb)
                  have n14_:=Aside0.mk (blk_below (g:=gb161) (o:=.cells #[.slice A0_0 l0_0.length c0_0, .slice A0_1 l0_1.length c0_1, .int .i64 a0_2, .int .i64 a0_3, .int .i64 a0_4] 33 (0, 0)) (by (with_reducible repeat (first|refine blk_drewN ?_ _|refine blk_drew ?_|refine blk_alloc ?_ _));exact BK161.out) hb)
                  have n15_:=Aside0.mk (blk_below (g:=gb188) (o:=.cells #[.slice Ao40 t175.length co40, .slice Ao44 t178.length co44] 28 (0, 0)) (by (with_reducible repeat (first|refine blk_drewN ?_ _|refine blk_drew ?_|refine blk_alloc ?_ _));exact BK188.out) hb)
                  have n16_:=Aside0.mk (blk_below (g:=gb189) (o:=.cells #[.slice Ao45 t181.length co45, .slice Ao48 t184.length co48] 30 (0, 0)) (by (with_reducible repeat (first|refine blk_drewN ?_ _|refine blk_drew ?_|refine blk_alloc ?_ _));exact BK189.out) hb)
                  have n17_:=Aside0.mk (blk_below (g:=gb208) (o:=.cells #[.slice Ao55 t202.length co55, .slice Ao60 t205.length co60] 28 (0, 0)) (by (with_reducible repeat (first|refine blk_drewN ?_ _|refine blk_drew ?_|refine blk_alloc ?_ _));exact BK208.out) hb)
                  have n18_:=Aside0.mk (below_step (by repeat (first|(with_reducible first|exact HB.out|apply below_alloc|apply pw_below_drewN|apply below_drew1|refine below_set ?_ GE161.out|refine below_set ?_ GE188.out|refine below_set ?_ GE189.out|refine below_set ?_ GE208.out)|exact HB.out)) hb)
                  clear HO177
                  clear HO180
                  clear HO183
                  clear HO186
                  clear HO192
                  clear HO195
                  clear HO198
                  clear HO201
                  clear HO204
                  clear HO207
                  clear HO211
                  clear HO214
                  clear HO219
                  clear HO222
                  clear BK161
                  clear BK188
                  clear BK189
                  clear BK208
                  clear HB
                  have HO177 := n0_
                  have HO180 := n1_
                  have HO183 := n2_
                  have HO186 := n3_
                  have HO192 := n4_
                  have HO195 := n5_
                  have HO198 := n6_
                  have HO201 := n7_
                  have HO204 := n8_
                  have HO207 := n9_
                  have HO211 := n10_
                  have HO214 := n11_
                  have HO219 := n12_
                  have HO222 := n13_
                  have BK161 := n14_
                  have BK188 := n15_
                  have BK189 := n16_
                  have BK208 := n17_
                  have HB := n18_
                  clear n0_ n1_ n2_ n3_ n4_ n5_ n6_ n7_ n8_ n9_ n10_ n11_ n12_ n13_ n14_ n15_ n16_ n17_ n18_
                  (try clear hb)
                  (try clear hb2)
                  (try clear hk)
                  (try clear hi)
                  obtain ⟨Ao71, co71, eo71⟩ := Kd.R_slice HO211.out
                  (first | subst eo71 | (injection eo71 with f1_ f2_ f3_; have f4_ := f1_.symm; have f5_ := f3_.symm; clear f1_ f2_ f3_; subst f4_; subst f5_))
                  obtain ⟨Ao72, co72, eo72⟩ := Kd.R_slice HO214.out
                  (first | subst eo72 | (injection eo72 with f1_ f2_ f3_; have f4_ := f1_.symm; have f5_ := f3_.symm; clear f1_ f2_ f3_; subst f4_; subst f5_))
                  refine hK.out _ _ ⟨(blk_cell BK208.out 0).trans rfl, (blk_cell BK208.out 1).trans rfl, (blk_cell BK189.out 0).trans rfl, (blk_cell BK189.out 1).trans rfl⟩ (fun hHeld => ?_)
                  clear hK K
                  refine norm_ (a' := ?_) ?_ ?_
                  rotate_left
                  · show Act.put _ (some 82) _ = _
                    simp only [Act.put, List.setIfInBounds_toArray, List.set_cons_zero, List.set_cons_succ, i64_w, i32_w]
                    rfl
                  refine pure_ (i := 14) (N := some 83) (v := ?_) (a' := ?_) #[true, true, true, true, true, true, true, true, true, true, true, true, true, true, true, false, false, false, false, false, false, false, false, false, false, false] rfl rfl (any_of HT_.out (by kernel_rfl)) (fun _ _ _ h => h) (Or.inl ⟨by rfl, ?_⟩) ?_ ?_
                  rotate_left
                  · intro w'
                    go_simp
                    with_reducible rfl
                  rotate_left
                  · simp only [Act.put, List.setIfInBounds_toArray, List.set_cons_zero, List.set_cons_succ, i64_w, i32_w]
                    rfl
                  refine pure_ (i := 15) (N := some 84) (v := ?_) (a' := ?_) #[true, true, true, true, true, true, true, true, true, true, true, true, true, true, true, true, false, false, false, false, false, false, false, false, false, false] rfl rfl (any_of HT_.out (by kernel_rfl)) (fun _ _ _ h => h) (Or.inl ⟨by rfl, ?_⟩) ?_ ?_
                  rotate_left
                  · intro w'
                    go_simp
                    with_reducible rfl
                  rotate_left
                  · simp only [Act.put, List.setIfInBounds_toArray, List.set_cons_zero, List.set_cons_succ, i64_w, i32_w]
                    rfl
                  refine pure_ (i := 16) (N := some 85) (v := ?_) (a' := ?_) #[true, true, true, true, true, true, true, true, true, true, true, true, true, true, true, true, true, false, false, false, false, false, false, false, false, false] rfl rfl (any_of HT_.out (by kernel_rfl)) (fun _ _ _ h => h) (Or.inl ⟨by rfl, ?_⟩) ?_ ?_
                  rotate_left
                  · intro w'
                    go_simp
                    with_reducible rfl
                  rotate_left
                  · simp only [Act.put, List.setIfInBounds_toArray, List.set_cons_zero, List.set_cons_succ, i64_w, i32_w]
                    rfl
                  refine pure_ (i := 17) (N := some 86) (v := ?_) (a' := ?_) #[true, true, true, true, true, true, true, true, true, true, true, true, true, true, true, true, true, true, false, false, false, false, false, false, false, false] rfl rfl (any_of HT_.out (by kernel_rfl)) (fun _ _ _ h => h) (Or.inl ⟨by rfl, ?_⟩) ?_ ?_
                  rotate_left
                  · intro w'
                    go_simp
                    with_reducible rfl
                  rotate_left
                  · simp only [Act.put, List.setIfInBounds_toArray, List.set_cons_zero, List.set_cons_succ, i64_w, i32_w]
                    rfl
                  refine pure_ (i := 18) (N := some 87) (v := ?_) (a' := ?_) #[true, true, true, true, true, true, true, true, true, true, true, true, true, true, true, true, true, true, true, false, false, false, false, false, false, false] rfl rfl (any_of HT_.out (by kernel_rfl)) (fun _ _ _ h => h) (Or.inl ⟨by rfl, ?_⟩) ?_ ?_
                  rotate_left
                  · intro w'
                    go_simp
                    with_reducible rfl
                  rotate_left
                  · simp only [Act.put, List.setIfInBounds_toArray, List.set_cons_zero, List.set_cons_succ, i64_w, i32_w]
                    rfl
                  refine pure_ (i := 19) (N := some 88) (v := ?_) (a' := ?_) #[true, true, true, true, true, true, true, true, true, true, true, true, true, true, true, true, true, true, true, true, false, false, false, false, false, false] rfl rfl (any_of HT_.out (by kernel_rfl)) (fun _ _ _ h => h) (Or.inl ⟨by rfl, ?_⟩) ?_ ?_
                  rotate_left
                  · intro w'
                    go_simp
                    with_reducible rfl
                  rotate_left
                  · simp only [Act.put, List.setIfInBounds_toArray, List.set_cons_zero, List.set_cons_succ, i64_w, i32_w]
                    rfl
                  refine pure_ (i := 20) (N := some 89) (v := ?_) (a' := ?_) #[true, true, true, true, true, true, true, true, true, true, true, true, true, true, true, true, true, true, true, true, true, false, false, false, false, false] rfl rfl (any_of HT_.out (by kernel_rfl)) (fun _ _ _ h => h) (Or.inl ⟨by rfl, ?_⟩) ?_ ?_
                  rotate_left
                  · intro w'
                    go_simp
                    with_reducible rfl
                  rotate_left
                  · simp only [Act.put, List.setIfInBounds_toArray, List.set_cons_zero, List.set_cons_succ, i64_w, i32_w]
                    rfl
                  refine pure_ (i := 21) (N := some 90) (v := ?_) (a' := ?_) #[true, true, true, true, true, true, true, true, true, true, true, true, true, true, true, true, true, true, true, true, true, true, false, false, false, false] rfl rfl (any_of HT_.out (by kernel_rfl)) (fun _ _ _ h => h) (Or.inl ⟨by rfl, ?_⟩) ?_ ?_
                  rotate_left
                  · intro w'
                    go_simp
                    with_reducible rfl
                  rotate_left
                  · simp only [Act.put, List.setIfInBounds_toArray, List.set_cons_zero, List.set_cons_succ, i64_w, i32_w]
                    rfl
                  refine pure_ (i := 22) (N := some 91) (v := ?_) (a' := ?_) #[true, true, true, true, true, true, true, true, true, true, true, true, true, true, true, true, true, true, true, true, true, true, true, false, false, false] rfl rfl (any_of HT_.out (by kernel_rfl)) (fun _ _ _ h => h) (Or.inl ⟨by rfl, ?_⟩) ?_ ?_
                  rotate_left
                  · intro w'
                    go_simp
                    with_reducible rfl
                  rotate_left
                  · simp only [Act.put, List.setIfInBounds_toArray, List.set_cons_zero, List.set_cons_succ, i64_w, i32_w]
                    rfl
                  refine pure_ (i := 23) (N := some 92) (v := ?_) (a' := ?_) #[true, true, true, true, true, true, true, true, true, true, true, true, true, true, true, true, true, true, true, true, true, true, true, true, false, false] rfl rfl (any_of HT_.out (by kernel_rfl)) (fun _ _ _ h => h) (Or.inl ⟨by rfl, ?_⟩) ?_ ?_
                  rotate_left
                  · intro w'
                    go_simp
                    with_reducible rfl
                  rotate_left
                  · simp only [Act.put, List.setIfInBounds_toArray, List.set_cons_zero, List.set_cons_succ, i64_w, i32_w]
                    rfl
                  refine pure_ (i := 24) (N := some 93) (v := ?_) (a' := ?_) #[true, true, true, true, true, true, true, true, true, true, true, true, true, true, true, true, true, true, true, true, true, true, true, true, true, false] rfl rfl (any_of HT_.out (by kernel_rfl)) (fun _ _ _ h => h) (Or.inl ⟨by rfl, ?_⟩) ?_ ?_
                  rotate_left
                  · intro w'
                    go_simp
                    with_reducible rfl
                  rotate_left
                  · simp only [Act.put, List.setIfInBounds_toArray, List.set_cons_zero, List.set_cons_succ, i64_w, i32_w]
                    rfl
                  refine pure_ (i := 25) (N := some 4) (v := ?_) (a' := ?_) #[true, true, true, true, true, true, true, true, true, true, true, true, true, true, true, true, true, true, true, true, true, true, true, true, true, true] rfl rfl (any_of HT_.out (by kernel_rfl)) (fun _ _ _ h => h) (Or.inl ⟨by rfl, ?_⟩) ?_ ?_
                  rotate_left
                  · intro w'
                    go_simp
                    with_reducible rfl
                  rotate_left
                  · simp only [Act.put, List.setIfInBounds_toArray, List.set_cons_zero, List.set_cons_succ, i64_w, i32_w]
                    rfl
                  refine done_ (done_of HT_.out (by kernel_rfl)) ?_
                  try go_wp2
                  go_ret
                  exact ⟨by first|rfl|(simp [errW_none, errW_some] <;> rfl)|(simp [*, errW_none, errW_some] <;> rfl), by repeat (first|(with_reducible first|exact HB.out|apply below_alloc|apply pw_below_drewN|apply below_drew1|refine below_set ?_ GE161.out|refine below_set ?_ GE188.out|refine below_set ?_ GE189.out|refine below_set ?_ GE208.out)|exact HB.out)⟩
                · rw [if_neg c35] at H
                  have c35b0 : ((t209.length : Int) == 0) = false := beq_eq_false_iff_ne.mpr c35
                  have c35b1 : ((t209.length : Int) != 0) = true := bne_iff_ne.mpr c35
                  have c35b2 : ¬ (t209 = []) := fun h_ => c35 (by rw [h_]; rfl)
                  obtain rfl := Option.some.inj H
                  have hcz73_0 : wc.cell? ⟨gb161, 0, none⟩ = some (.slice A0_0 l0_0.length c0_0) := (blk_cell BK161.out 0).trans rfl
                  have hcz73_1 : wc.cell? ⟨gb161, 1, none⟩ = some (.slice A0_1 l0_1.length c0_1) := (blk_cell BK161.out 1).trans rfl
                  have hcz73_2 : wc.cell? ⟨gb161, 2, none⟩ = some (.int .i64 a0_2) := (blk_cell BK161.out 2).trans rfl
                  have hcz73_3 : wc.cell? ⟨gb161, 3, none⟩ = some (.int .i64 a0_3) := (blk_cell BK161.out 3).trans rfl
                  have hcz73_4 : wc.cell? ⟨gb161, 4, none⟩ = some (.int .i64 a0_4) := (blk_cell BK161.out 4).trans rfl
                  have hfz73_0 := blk_frozen BK161.out 0
                  have hfz73_1 := blk_frozen BK161.out 1
                  have hfz73_2 := blk_frozen BK161.out 2
                  have hfz73_3 := blk_frozen BK161.out 3
                  have hfz73_4 := blk_frozen BK161.out 4
                  try go_wp2_with (first|((with_reducible refine gate_callee (f:=12) rfl ?_);refine goesL_ (some 42) rfl rfl Try.func12 (by kernel_rfl) rfl #[.agg #[.slice A0_0 l0_0.length c0_0, .slice A0_1 l0_1.length c0_1, .int .i64 a0_2, .int .i64 a0_3, .int .i64 a0_4]] rfl (by (try simp only [List.map_toArray, List.map_cons, List.map_nil]);first|done|rfl|(simp only [List.length_drop, List.length_take];rfl)) ?_;(with_reducible refine (chancellaw04_right.calls kj3 (fun k_ => k_ < w.heap.size) _ _ l0_0 (fun k_ => k_ < w.heap.size) _ _ l0_1 a0_2 a0_3 a0_4 t175 t178 t181 t184 true _ ?side1 ?side2 A22.out).mono ?_);(case side1 => exact Kd.V_mk HC0_0.out (Kd.F_below (Kd.C_F k26_heap HR0_0.out) (by repeat (first|(with_reducible first|exact HB.out|apply below_alloc|apply pw_below_drewN|apply below_drew1|refine below_set ?_ GE161.out)|exact HB.out))));(case side2 => exact Kd.V_mk HC0_1.out (Kd.F_below (Kd.C_F k38_heap HR0_1.out) (by repeat (first|(with_reducible first|exact HB.out|apply below_alloc|apply pw_below_drewN|apply below_drew1|refine below_set ?_ GE161.out)|exact HB.out))));rintro e w74 ⟨v176, v179, v182, v185, rfl, ho0, ho1, ho2, ho3, hb⟩;refine ⟨_, rfl, ?_⟩;have n0_:=Aside0.mk (Kd.V_lower (Kd.V_mono (ok':=fun k_ => k_ ≠ gb161) ho0 (fun k_ hk_ => Or.elim hk_ (fun hs_ => Or.elim hs_ (fun hs_ => fun e_ => Nat.not_le.2 hs_ (by rw [e_];exact GW161.out)) (fun hs_ => fun e_ => Nat.not_le.2 hs_ (by rw [e_];exact GW161.out))) (fun hn_ => (Kd.freshB (g:=gb161) (o:=.cells #[.slice A0_0 l0_0.length c0_0, .slice A0_1 l0_1.length c0_1, .int .i64 a0_2, .int .i64 a0_3, .int .i64 a0_4] 33 (0, 0)) (by (with_reducible repeat (first|refine blk_drewN ?_ _|refine blk_drew ?_|refine blk_alloc ?_ _));exact BK161.out) k_ hn_)))) (below_size (by repeat (first|(with_reducible first|exact HB.out|apply below_alloc|apply pw_below_drewN|apply below_drew1|refine below_set ?_ GE161.out)|exact HB.out))));have n1_:=Aside0.mk (Kd.V_lower (Kd.V_mono (ok':=fun k_ => k_ ≠ gb161) ho1 (fun k_ hk_ => Or.elim hk_ (fun hs_ => Or.elim hs_ (fun hs_ => fun e_ => Nat.not_le.2 hs_ (by rw [e_];exact GW161.out)) (fun hs_ => fun e_ => Nat.not_le.2 hs_ (by rw [e_];exact GW161.out))) (fun hn_ => (Kd.freshB (g:=gb161) (o:=.cells #[.slice A0_0 l0_0.length c0_0, .slice A0_1 l0_1.length c0_1, .int .i64 a0_2, .int .i64 a0_3, .int .i64 a0_4] 33 (0, 0)) (by (with_reducible repeat (first|refine blk_drewN ?_ _|refine blk_drew ?_|refine blk_alloc ?_ _));exact BK161.out) k_ hn_)))) (below_size (by repeat (first|(with_reducible first|exact HB.out|apply below_alloc|apply pw_below_drewN|apply below_drew1|refine below_set ?_ GE161.out)|exact HB.out))));have n2_:=Aside0.mk (Kd.V_lower (Kd.V_mono (ok':=fun k_ => k_ ≠ gb161) ho2 (fun k_ hk_ => Or.elim hk_ (fun hs_ => Or.elim hs_ (fun hs_ => fun e_ => Nat.not_le.2 hs_ (by rw [e_];exact GW161.out)) (fun hs_ => fun e_ => Nat.not_le.2 hs_ (by rw [e_];exact GW161.out))) (fun hn_ => (Kd.freshB (g:=gb161) (o:=.cells #[.slice A0_0 l0_0.length c0_0, .slice A0_1 l0_1.length c0_1, .int .i64 a0_2, .int .i64 a0_3, .int .i64 a0_4] 33 (0, 0)) (by (with_reducible repeat (first|refine blk_drewN ?_ _|refine blk_drew ?_|refine blk_alloc ?_ _));exact BK161.out) k_ hn_)))) (below_size (by repeat (first|(with_reducible first|exact HB.out|apply below_alloc|apply pw_below_drewN|apply below_drew1|refine below_set ?_ GE161.out)|exact HB.out))));have n3_:=Aside0.mk (Kd.V_lower (Kd.V_mono (ok':=fun k_ => k_ ≠ gb161) ho3 (fun k_ hk_ => Or.elim hk_ (fun hs_ => Or.elim hs_ (fun hs_ => fun e_ => Nat.not_le.2 hs_ (by rw [e_];exact GW161.out)) (fun hs_ => fun e_ => Nat.not_le.2 hs_ (by rw [e_];exact GW161.out))) (fun hn_ => (Kd.freshB (g:=gb161) (o:=.cells #[.slice A0_0 l0_0.length c0_0, .slice A0_1 l0_1.length c0_1, .int .i64 a0_2, .int .i64 a0_3, .int .i64 a0_4] 33 (0, 0)) (by (with_reducible repeat (first|refine blk_drewN ?_ _|refine blk_drew ?_|refine blk_alloc ?_ _));exact BK161.out) k_ hn_)))) (below_size (by repeat (first|(with_reducible first|exact HB.out|apply below_alloc|apply pw_below_drewN|apply below_drew1|refine below_set ?_ GE161.out)|exact HB.out))));have n4_:=Aside0.mk (blk_below (g:=gb161) (o:=.cells #[.slice A0_0 l0_0.length c0_0, .slice A0_1 l0_1.length c0_1, .int .i64 a0_2, .int .i64 a0_3, .int .i64 a0_4] 33 (0, 0)) (by (with_reducible repeat (first|refine blk_drewN ?_ _|refine blk_drew ?_|refine blk_alloc ?_ _));exact BK161.out) hb);have n5_:=Aside0.mk (below_step (by repeat (first|(with_reducible first|exact HB.out|apply below_alloc|apply pw_below_drewN|apply below_drew1|refine below_set ?_ GE161.out)|exact HB.out)) hb);clear BK161;clear HB;have HO177:=n0_;have HO180:=n1_;have HO183:=n2_;have HO186:=n3_;have BK161:=n4_;have HB:=n5_;clear n0_ n1_ n2_ n3_ n4_ n5_;(try clear hb);(try clear hb2);(try clear hk);(try clear hi);(try clear ho0);(try clear ho1);(try clear ho2);(try clear ho3))|((with_reducible refine gate_dst (N:=7) rfl ?_);(try (refine gate_guard (by rfl) ?_;dsimp only));refine box_event ?hg (N:=7) ?hd (cs:=#[.slice none 0 0, .slice none 0 0]) (t:=28) ?hr ?_;(case hd => rfl);(case hg => rfl);(case hr => first|(go_simp;done)|(go_simp;rfl));intro gb188 hg w75 hbox hb;have n0_:=Aside0.mk (Kd.V_below (Kd.V_elderB (by (with_reducible repeat (first|apply Kd.V_alloc|apply Kd.V_drewN|apply Kd.V_drew));exact HO177.out) gb188 (Nat.le_of_eq hg.symm)) hb);have n1_:=Aside0.mk (Kd.V_below (Kd.V_elderB (by (with_reducible repeat (first|apply Kd.V_alloc|apply Kd.V_drewN|apply Kd.V_drew));exact HO180.out) gb188 (Nat.le_of_eq hg.symm)) hb);have n2_:=Aside0.mk (Kd.V_below (Kd.V_elderB (by (with_reducible repeat (first|apply Kd.V_alloc|apply Kd.V_drewN|apply Kd.V_drew));exact HO183.out) gb188 (Nat.le_of_eq hg.symm)) hb);have n3_:=Aside0.mk (Kd.V_below (Kd.V_elderB (by (with_reducible repeat (first|apply Kd.V_alloc|apply Kd.V_drewN|apply Kd.V_drew));exact HO186.out) gb188 (Nat.le_of_eq hg.symm)) hb);have n4_:=Aside0.mk (blk_below (g:=gb161) (o:=.cells #[.slice A0_0 l0_0.length c0_0, .slice A0_1 l0_1.length c0_1, .int .i64 a0_2, .int .i64 a0_3, .int .i64 a0_4] 33 (0, 0)) (by (with_reducible repeat (first|refine blk_drewN ?_ _|refine blk_drew ?_|refine blk_alloc ?_ _));exact BK161.out) hb);have n5_:=Aside0.mk (below_step (by repeat (first|(with_reducible first|exact HB.out|apply below_alloc|apply pw_below_drewN|apply below_drew1|refine below_set ?_ GE161.out)|exact HB.out)) hb);have n6_:=Aside0.mk (hbox);have n7_:=Aside0.mk ((by rw [hg];exact (below_size (by repeat (first|(with_reducible first|exact HB.out|apply below_alloc|apply pw_below_drewN|apply below_drew1|refine below_set ?_ GE161.out)|exact HB.out))) : w.heap.size ≤ gb188));have n8_:=Aside0.mk ((by rw [hg];exact (below_size (by repeat (first|(with_reducible first|exact HB.out|apply below_alloc|apply pw_below_drewN|apply below_drew1|refine below_set ?_ GE161.out)|exact HB.out))) : w.heap.size ≤ gb188));have n9_:=Aside0.mk ((by rw [hg];exact Nat.ne_of_lt (blk_lt (g:=gb161) (o:=.cells #[.slice A0_0 l0_0.length c0_0, .slice A0_1 l0_1.length c0_1, .int .i64 a0_2, .int .i64 a0_3, .int .i64 a0_4] 33 (0, 0)) (by (with_reducible repeat (first|refine blk_drewN ?_ _|refine blk_drew ?_|refine blk_alloc ?_ _));exact BK161.out)) : gb161 ≠ gb188));have n10_:=Aside0.mk ((by rw [hg];exact Nat.ne_of_gt (blk_lt (g:=gb161) (o:=.cells #[.slice A0_0 l0_0.length c0_0, .slice A0_1 l0_1.length c0_1, .int .i64 a0_2, .int .i64 a0_3, .int .i64 a0_4] 33 (0, 0)) (by (with_reducible repeat (first|refine blk_drewN ?_ _|refine blk_drew ?_|refine blk_alloc ?_ _));exact BK161.out)) : gb188 ≠ gb161));clear HO177;clear HO180;clear HO183;clear HO186;clear BK161;clear HB;have HO177:=n0_;have HO180:=n1_;have HO183:=n2_;have HO186:=n3_;have BK161:=n4_;have HB:=n5_;have BK188:=n6_;have GW188:=n7_;have GE188:=n8_;have NB161_188:=n9_;have NB188_161:=n10_;clear n0_ n1_ n2_ n3_ n4_ n5_ n6_ n7_ n8_ n9_ n10_;clear hb hbox hg)|((with_reducible refine gate_dst (N:=8) rfl ?_);(try (refine gate_guard (by rfl) ?_;dsimp only));refine box_event ?hg (N:=8) ?hd (cs:=#[.slice none 0 0, .slice none 0 0]) (t:=30) ?hr ?_;(case hd => rfl);(case hg => rfl);(case hr => first|(go_simp;done)|(go_simp;rfl));intro gb189 hg w76 hbox hb;have n0_:=Aside0.mk (Kd.V_below (Kd.V_elderB (by (with_reducible repeat (first|apply Kd.V_alloc|apply Kd.V_drewN|apply Kd.V_drew));exact HO177.out) gb189 (Nat.le_of_eq hg.symm)) hb);have n1_:=Aside0.mk (Kd.V_below (Kd.V_elderB (by (with_reducible repeat (first|apply Kd.V_alloc|apply Kd.V_drewN|apply Kd.V_drew));exact HO180.out) gb189 (Nat.le_of_eq hg.symm)) hb);have n2_:=Aside0.mk (Kd.V_below (Kd.V_elderB (by (with_reducible repeat (first|apply Kd.V_alloc|apply Kd.V_drewN|apply Kd.V_drew));exact HO183.out) gb189 (Nat.le_of_eq hg.symm)) hb);have n3_:=Aside0.mk (Kd.V_below (Kd.V_elderB (by (with_reducible repeat (first|apply Kd.V_alloc|apply Kd.V_drewN|apply Kd.V_drew));exact HO186.out) gb189 (Nat.le_of_eq hg.symm)) hb);have n4_:=Aside0.mk (blk_below (g:=gb161) (o:=.cells #[.slice A0_0 l0_0.length c0_0, .slice A0_1 l0_1.length c0_1, .int .i64 a0_2, .int .i64 a0_3, .int .i64 a0_4] 33 (0, 0)) (by (with_reducible repeat (first|refine blk_drewN ?_ _|refine blk_drew ?_|refine blk_alloc ?_ _));exact BK161.out) hb);have n5_:=Aside0.mk (blk_below (g:=gb188) (o:=.cells #[.slice none 0 0, .slice none 0 0] 28 (0, 0)) (by (with_reducible repeat (first|refine blk_drewN ?_ _|refine blk_drew ?_|refine blk_alloc ?_ _));exact BK188.out) hb);have n6_:=Aside0.mk (below_step (by repeat (first|(with_reducible first|exact HB.out|apply below_alloc|apply pw_below_drewN|apply below_drew1|refine below_set ?_ GE161.out|refine below_set ?_ GE188.out)|exact HB.out)) hb);have n7_:=Aside0.mk (hbox);have n8_:=Aside0.mk ((by rw [hg];exact (below_size (by repeat (first|(with_reducible first|exact HB.out|apply below_alloc|apply pw_below_drewN|apply below_drew1|refine below_set ?_ GE161.out|refine below_set ?_ GE188.out)|exact HB.out))) : w.heap.size ≤ gb189));have n9_:=Aside0.mk ((by rw [hg];exact (below_size (by repeat (first|(with_reducible first|exact HB.out|apply below_alloc|apply pw_below_drewN|apply below_drew1|refine below_set ?_ GE161.out|refine below_set ?_ GE188.out)|exact HB.out))) : w.heap.size ≤ gb189));have n10_:=Aside0.mk ((by rw [hg];exact Nat.ne_of_lt (blk_lt (g:=gb161) (o:=.cells #[.slice A0_0 l0_0.length c0_0, .slice A0_1 l0_1.length c0_1, .int .i64 a0_2, .int .i64 a0_3, .int .i64 a0_4] 33 (0, 0)) (by (with_reducible repeat (first|refine blk_drewN ?_ _|refine blk_drew ?_|refine blk_alloc ?_ _));exact BK161.out)) : gb161 ≠ gb189));have n11_:=Aside0.mk ((by rw [hg];exact Nat.ne_of_gt (blk_lt (g:=gb161) (o:=.cells #[.slice A0_0 l0_0.length c0_0, .slice A0_1 l0_1.length c0_1, .int .i64 a0_2, .int .i64 a0_3, .int .i64 a0_4] 33 (0, 0)) (by (with_reducible repeat (first|refine blk_drewN ?_ _|refine blk_drew ?_|refine blk_alloc ?_ _));exact BK161.out)) : gb189 ≠ gb161));have n12_:=Aside0.mk ((by rw [hg];exact Nat.ne_of_lt (blk_lt (g:=gb188) (o:=.cells #[.slice none 0 0, .slice none 0 0] 28 (0, 0)) (by (with_reducible repeat (first|refine blk_drewN ?_ _|refine blk_drew ?_|refine blk_alloc ?_ _));exact BK188.out)) : gb188 ≠ gb189));have n13_:=Aside0.mk ((by rw [hg];exact Nat.ne_of_gt (blk_lt (g:=gb188) (o:=.cells #[.slice none 0 0, .slice none 0 0] 28 (0, 0)) (by (with_reducible repeat (first|refine blk_drewN ?_ _|refine blk_drew ?_|refine blk_alloc ?_ _));exact BK188.out)) : gb189 ≠ gb188));clear HO177;clear HO180;clear HO183;clear HO186;clear BK161;clear BK188;clear HB;have HO177:=n0_;have HO180:=n1_;have HO183:=n2_;have HO186:=n3_;have BK161:=n4_;have BK188:=n5_;have HB:=n6_;have BK189:=n7_;have GW189:=n8_;have GE189:=n9_;have NB161_189:=n10_;have NB189_161:=n11_;have NB188_189:=n12_;have NB189_188:=n13_;clear n0_ n1_ n2_ n3_ n4_ n5_ n6_ n7_ n8_ n9_ n10_ n11_ n12_ n13_;clear hb hbox hg;obtain ⟨Ao77, co77, eo77⟩:=Kd.V_slice HO177.out;subst eo77;have hnb78:=NB188_161.out;have hnc78:=NB161_188.out;have hnb79:=NB188_189.out;have hnc79:=NB189_188.out;have hcz80_0 : w76.cell? ⟨gb188, 0, none⟩ = some (.slice none 0 0):=(blk_cell BK188.out 0).trans rfl;have hcz80_1 : w76.cell? ⟨gb188, 1, none⟩ = some (.slice none 0 0):=(blk_cell BK188.out 1).trans rfl;have hfz80_0:=blk_frozen BK188.out 0;have hfz80_1:=blk_frozen BK188.out 1;obtain ⟨Ao81, co81, eo81⟩:=Kd.V_slice HO180.out;subst eo81;obtain ⟨Ao82, co82, eo82⟩:=Kd.V_slice HO183.out;subst eo82;have hnb83:=NB189_161.out;have hnc83:=NB161_189.out;have hcz84_0 : w76.cell? ⟨gb189, 0, none⟩ = some (.slice none 0 0):=(blk_cell BK189.out 0).trans rfl;have hcz84_1 : w76.cell? ⟨gb189, 1, none⟩ = some (.slice none 0 0):=(blk_cell BK189.out 1).trans rfl;have hfz84_0:=blk_frozen BK189.out 0;have hfz84_1:=blk_frozen BK189.out 1;obtain ⟨Ao85, co85, eo85⟩:=Kd.V_slice HO186.out;subst eo85)|((with_reducible refine gate_callee (f:=11) rfl ?_);refine goesL_ (some 51) rfl rfl Try.func11 (by kernel_rfl) rfl #[.agg #[.slice Ao77 t175.length co77, .slice Ao81 t178.length co81], .int .i64 a1] rfl (by (try simp only [List.map_toArray, List.map_cons, List.map_nil]);first|done|rfl|(simp only [List.length_drop, List.length_take];rfl)) ?_;(with_reducible refine (marks_Of.calls kj3 _ _ t175 _ _ t178 a1 t190 t193 _ ?side1 ?side2 ?side3 ?side4 A24.out).mono ?_);(case side1 => refine (Kd.V_reads' (e:=26) (base:=w.heap.size) (ok:=fun k_ => ((k_ ≠ gb161 ∧ k_ ≠ gb188) ∧ k_ ≠ gb189)) (n:=t175.length) (c:=co77) ?_).2.2;exact (by (with_reducible repeat (first|apply Kd.V_alloc|apply Kd.V_drewN|apply Kd.V_drew));exact (Kd.V_mono (Kd.V_mono (Kd.V_far (p:=⟨gb189, 1, none⟩) (Kd.V_far (p:=⟨gb189, 0, none⟩) (Kd.V_far (p:=⟨gb188, 1, none⟩) (Kd.V_far (p:=⟨gb188, 0, none⟩) (Kd.V_mono (Kd.V_mono HO177.out (fun k_ hk => (⟨hk, hk.1.2⟩ : _ ∧ k_ ≠ gb188))) (fun k_ hk => (⟨hk, hk.1.2⟩ : _ ∧ k_ ≠ gb189))) (fun _ hk => hk.1.2) (.slice Ao77 t175.length co77)) (fun _ hk => hk.1.2) (.slice Ao81 t178.length co81)) (fun _ hk => hk.2) (.slice Ao82 t181.length co82)) (fun _ hk => hk.2) (.slice Ao85 t184.length co85)) (fun _ h_ => h_.1)) (fun _ h_ => h_.1))));(case side2 => exact (Kd.V_reads' HO177.out).2.1);(case side3 => refine (Kd.V_reads' (e:=38) (base:=w.heap.size) (ok:=fun k_ => ((k_ ≠ gb161 ∧ k_ ≠ gb188) ∧ k_ ≠ gb189)) (n:=t178.length) (c:=co81) ?_).2.2;exact (by (with_reducible repeat (first|apply Kd.V_alloc|apply Kd.V_drewN|apply Kd.V_drew));exact (Kd.V_mono (Kd.V_mono (Kd.V_far (p:=⟨gb189, 1, none⟩) (Kd.V_far (p:=⟨gb189, 0, none⟩) (Kd.V_far (p:=⟨gb188, 1, none⟩) (Kd.V_far (p:=⟨gb188, 0, none⟩) (Kd.V_mono (Kd.V_mono HO180.out (fun k_ hk => (⟨hk, hk.1.2⟩ : _ ∧ k_ ≠ gb188))) (fun k_ hk => (⟨hk, hk.1.2⟩ : _ ∧ k_ ≠ gb189))) (fun _ hk => hk.1.2) (.slice Ao77 t175.length co77)) (fun _ hk => hk.1.2) (.slice Ao81 t178.length co81)) (fun _ hk => hk.2) (.slice Ao82 t181.length co82)) (fun _ hk => hk.2) (.slice Ao85 t184.length co85)) (fun _ h_ => h_.1)) (fun _ h_ => h_.1))));(case side4 => exact (Kd.V_reads' HO180.out).2.1);rintro e w86 ⟨v191, v194, rfl, ho0, ho1, hb⟩;refine ⟨_, rfl, ?_⟩;have n0_:=Aside0.mk (Kd.V_mono (Kd.V_told (Kd.V_told (Kd.V_old (by (with_reducible repeat (first|apply Kd.V_alloc|apply Kd.V_drewN|apply Kd.V_drew));exact (Kd.V_mono (Kd.V_mono (Kd.V_far (p:=⟨gb189, 1, none⟩) (Kd.V_far (p:=⟨gb189, 0, none⟩) (Kd.V_far (p:=⟨gb188, 1, none⟩) (Kd.V_far (p:=⟨gb188, 0, none⟩) (Kd.V_mono (Kd.V_mono HO177.out (fun k_ hk => (⟨hk, hk.1.2⟩ : _ ∧ k_ ≠ gb188))) (fun k_ hk => (⟨hk, hk.1.2⟩ : _ ∧ k_ ≠ gb189))) (fun _ hk => hk.1.2) (.slice Ao77 t175.length co77)) (fun _ hk => hk.1.2) (.slice Ao81 t178.length co81)) (fun _ hk => hk.2) (.slice Ao82 t181.length co82)) (fun _ hk => hk.2) (.slice Ao85 t184.length co85)) (fun _ h_ => h_.1)) (fun _ h_ => h_.1))) hb) (Kd.R_base ho0)) (Kd.R_base ho1)) (fun _ h_ => h_.1));have n1_:=Aside0.mk (Kd.V_mono (Kd.V_told (Kd.V_told (Kd.V_old (by (with_reducible repeat (first|apply Kd.V_alloc|apply Kd.V_drewN|apply Kd.V_drew));exact (Kd.V_mono (Kd.V_mono (Kd.V_far (p:=⟨gb189, 1, none⟩) (Kd.V_far (p:=⟨gb189, 0, none⟩) (Kd.V_far (p:=⟨gb188, 1, none⟩) (Kd.V_far (p:=⟨gb188, 0, none⟩) (Kd.V_mono (Kd.V_mono HO180.out (fun k_ hk => (⟨hk, hk.1.2⟩ : _ ∧ k_ ≠ gb188))) (fun k_ hk => (⟨hk, hk.1.2⟩ : _ ∧ k_ ≠ gb189))) (fun _ hk => hk.1.2) (.slice Ao77 t175.length co77)) (fun _ hk => hk.1.2) (.slice Ao81 t178.length co81)) (fun _ hk => hk.2) (.slice Ao82 t181.length co82)) (fun _ hk => hk.2) (.slice Ao85 t184.length co85)) (fun _ h_ => h_.1)) (fun _ h_ => h_.1))) hb) (Kd.R_base ho0)) (Kd.R_base ho1)) (fun _ h_ => h_.1));have n2_:=Aside0.mk (Kd.V_mono (Kd.V_told (Kd.V_told (Kd.V_old (by (with_reducible repeat (first|apply Kd.V_alloc|apply Kd.V_drewN|apply Kd.V_drew));exact (Kd.V_mono (Kd.V_mono (Kd.V_far (p:=⟨gb189, 1, none⟩) (Kd.V_far (p:=⟨gb189, 0, none⟩) (Kd.V_far (p:=⟨gb188, 1, none⟩) (Kd.V_far (p:=⟨gb188, 0, none⟩) (Kd.V_mono (Kd.V_mono HO183.out (fun k_ hk => (⟨hk, hk.1.2⟩ : _ ∧ k_ ≠ gb188))) (fun k_ hk => (⟨hk, hk.1.2⟩ : _ ∧ k_ ≠ gb189))) (fun _ hk => hk.1.2) (.slice Ao77 t175.length co77)) (fun _ hk => hk.1.2) (.slice Ao81 t178.length co81)) (fun _ hk => hk.2) (.slice Ao82 t181.length co82)) (fun _ hk => hk.2) (.slice Ao85 t184.length co85)) (fun _ h_ => h_.1)) (fun _ h_ => h_.1))) hb) (Kd.R_base ho0)) (Kd.R_base ho1)) (fun _ h_ => h_.1));have n3_:=Aside0.mk (Kd.V_mono (Kd.V_told (Kd.V_told (Kd.V_old (by (with_reducible repeat (first|apply Kd.V_alloc|apply Kd.V_drewN|apply Kd.V_drew));exact (Kd.V_mono (Kd.V_mono (Kd.V_far (p:=⟨gb189, 1, none⟩) (Kd.V_far (p:=⟨gb189, 0, none⟩) (Kd.V_far (p:=⟨gb188, 1, none⟩) (Kd.V_far (p:=⟨gb188, 0, none⟩) (Kd.V_mono (Kd.V_mono HO186.out (fun k_ hk => (⟨hk, hk.1.2⟩ : _ ∧ k_ ≠ gb188))) (fun k_ hk => (⟨hk, hk.1.2⟩ : _ ∧ k_ ≠ gb189))) (fun _ hk => hk.1.2) (.slice Ao77 t175.length co77)) (fun _ hk => hk.1.2) (.slice Ao81 t178.length co81)) (fun _ hk => hk.2) (.slice Ao82 t181.length co82)) (fun _ hk => hk.2) (.slice Ao85 t184.length co85)) (fun _ h_ => h_.1)) (fun _ h_ => h_.1))) hb) (Kd.R_base ho0)) (Kd.R_base ho1)) (fun _ h_ => h_.1));have n4_:=Aside0.mk (Kd.R_lower ho0 (below_size (by repeat (first|(with_reducible first|exact HB.out|apply below_alloc|apply pw_below_drewN|apply below_drew1|refine below_set ?_ GE161.out|refine below_set ?_ GE188.out|refine below_set ?_ GE189.out)|exact HB.out))));have n5_:=Aside0.mk (Kd.R_lower ho1 (below_size (by repeat (first|(with_reducible first|exact HB.out|apply below_alloc|apply pw_below_drewN|apply below_drew1|refine below_set ?_ GE161.out|refine below_set ?_ GE188.out|refine below_set ?_ GE189.out)|exact HB.out))));have n6_:=Aside0.mk (blk_below (g:=gb161) (o:=.cells #[.slice A0_0 l0_0.length c0_0, .slice A0_1 l0_1.length c0_1, .int .i64 a0_2, .int .i64 a0_3, .int .i64 a0_4] 33 (0, 0)) (by (with_reducible repeat (first|refine blk_drewN ?_ _|refine blk_drew ?_|refine blk_alloc ?_ _));refine blk_far ?_ NB161_189.out _;(with_reducible repeat (first|refine blk_drewN ?_ _|refine blk_drew ?_|refine blk_alloc ?_ _));refine blk_far ?_ NB161_189.out _;(with_reducible repeat (first|refine blk_drewN ?_ _|refine blk_drew ?_|refine blk_alloc ?_ _));refine blk_far ?_ NB161_188.out _;(with_reducible repeat (first|refine blk_drewN ?_ _|refine blk_drew ?_|refine blk_alloc ?_ _));refine blk_far ?_ NB161_188.out _;(with_reducible repeat (first|refine blk_drewN ?_ _|refine blk_drew ?_|refine blk_alloc ?_ _));exact BK161.out) hb);have n7_:=Aside0.mk (blk_below (g:=gb188) (o:=.cells #[.slice Ao77 t175.length co77, .slice Ao81 t178.length co81] 28 (0, 0)) (by (with_reducible repeat (first|refine blk_drewN ?_ _|refine blk_drew ?_|refine blk_alloc ?_ _));refine blk_far ?_ NB188_189.out _;(with_reducible repeat (first|refine blk_drewN ?_ _|refine blk_drew ?_|refine blk_alloc ?_ _));refine blk_far ?_ NB188_189.out _;(with_reducible repeat (first|refine blk_drewN ?_ _|refine blk_drew ?_|refine blk_alloc ?_ _));refine blk_put (cs:=#[.slice Ao77 t175.length co77, .slice none 0 0]) ?_ 1 _ rfl;(with_reducible repeat (first|refine blk_drewN ?_ _|refine blk_drew ?_|refine blk_alloc ?_ _));refine blk_put (cs:=#[.slice none 0 0, .slice none 0 0]) ?_ 0 _ rfl;(with_reducible repeat (first|refine blk_drewN ?_ _|refine blk_drew ?_|refine blk_alloc ?_ _));exact BK188.out) hb);have n8_:=Aside0.mk (blk_below (g:=gb189) (o:=.cells #[.slice Ao82 t181.length co82, .slice Ao85 t184.length co85] 30 (0, 0)) (by (with_reducible repeat (first|refine blk_drewN ?_ _|refine blk_drew ?_|refine blk_alloc ?_ _));refine blk_put (cs:=#[.slice Ao82 t181.length co82, .slice none 0 0]) ?_ 1 _ rfl;(with_reducible repeat (first|refine blk_drewN ?_ _|refine blk_drew ?_|refine blk_alloc ?_ _));refine blk_put (cs:=#[.slice none 0 0, .slice none 0 0]) ?_ 0 _ rfl;(with_reducible repeat (first|refine blk_drewN ?_ _|refine blk_drew ?_|refine blk_alloc ?_ _));refine blk_far ?_ NB189_188.out _;(with_reducible repeat (first|refine blk_drewN ?_ _|refine blk_drew ?_|refine blk_alloc ?_ _));refine blk_far ?_ NB189_188.out _;(with_reducible repeat (first|refine blk_drewN ?_ _|refine blk_drew ?_|refine blk_alloc ?_ _));exact BK189.out) hb);have n9_:=Aside0.mk (below_step (by repeat (first|(with_reducible first|exact HB.out|apply below_alloc|apply pw_below_drewN|apply below_drew1|refine below_set ?_ GE161.out|refine below_set ?_ GE188.out|refine below_set ?_ GE189.out)|exact HB.out)) hb);clear HO177;clear HO180;clear HO183;clear HO186;clear BK161;clear BK188;clear BK189;clear HB;have HO177:=n0_;have HO180:=n1_;have HO183:=n2_;have HO186:=n3_;have HO192:=n4_;have HO195:=n5_;have BK161:=n6_;have BK188:=n7_;have BK189:=n8_;have HB:=n9_;clear n0_ n1_ n2_ n3_ n4_ n5_ n6_ n7_ n8_ n9_;(try clear hb);(try clear hb2);(try clear hk);(try clear hi);(try clear ho0);(try clear ho1);have hcz87_0 : w86.cell? ⟨gb189, 0, none⟩ = some (.slice Ao82 t181.length co82):=(blk_cell BK189.out 0).trans rfl;have hcz87_1 : w86.cell? ⟨gb189, 1, none⟩ = some (.slice Ao85 t184.length co85):=(blk_cell BK189.out 1).trans rfl;have hfz87_0:=blk_frozen BK189.out 0;have hfz87_1:=blk_frozen BK189.out 1)|((with_reducible refine gate_callee (f:=13) rfl ?_);refine goesL_ (some 57) rfl rfl Try.func13 (by kernel_rfl) rfl #[.agg #[.slice Ao82 t181.length co82, .slice Ao85 t184.length co85], .int .i64 a1] rfl (by (try simp only [List.map_toArray, List.map_cons, List.map_nil]);first|done|rfl|(simp only [List.length_drop, List.length_take];rfl)) ?_;(with_reducible refine (chancelref04_Of.calls kj3 _ _ t181 _ _ t184 a1 t196 t199 _ ?side1 ?side2 ?side3 ?side4 A25.out).mono ?_);(case side1 => repeat (first|exact (Kd.V_reads' HO183.out).2.2|(with_reducible refine Kd.C_alloc ?_ _)|(with_reducible refine Kd.C_drewN ?_ _)|(with_reducible refine Kd.C_drew ?_)));(case side2 => exact (Kd.V_reads' HO183.out).2.1);(case side3 => repeat (first|exact (Kd.V_reads' HO186.out).2.2|(with_reducible refine Kd.C_alloc ?_ _)|(with_reducible refine Kd.C_drewN ?_ _)|(with_reducible refine Kd.C_drew ?_)));(case side4 => exact (Kd.V_reads' HO186.out).2.1);rintro e w88 ⟨v197, v200, rfl, ho0, ho1, hb⟩;refine ⟨_, rfl, ?_⟩;have n0_:=Aside0.mk (Kd.V_mono (Kd.V_told (Kd.V_told (Kd.V_old (by (with_reducible repeat (first|apply Kd.V_alloc|apply Kd.V_drewN|apply Kd.V_drew));exact HO177.out) hb) (Kd.R_base ho0)) (Kd.R_base ho1)) (fun _ h_ => h_.1));have n1_:=Aside0.mk (Kd.V_mono (Kd.V_told (Kd.V_told (Kd.V_old (by (with_reducible repeat (first|apply Kd.V_alloc|apply Kd.V_drewN|apply Kd.V_drew));exact HO180.out) hb) (Kd.R_base ho0)) (Kd.R_base ho1)) (fun _ h_ => h_.1));have n2_:=Aside0.mk (Kd.V_mono (Kd.V_told (Kd.V_told (Kd.V_old (by (with_reducible repeat (first|apply Kd.V_alloc|apply Kd.V_drewN|apply Kd.V_drew));exact HO183.out) hb) (Kd.R_base ho0)) (Kd.R_base ho1)) (fun _ h_ => h_.1));have n3_:=Aside0.mk (Kd.V_mono (Kd.V_told (Kd.V_told (Kd.V_old (by (with_reducible repeat (first|apply Kd.V_alloc|apply Kd.V_drewN|apply Kd.V_drew));exact HO186.out) hb) (Kd.R_base ho0)) (Kd.R_base ho1)) (fun _ h_ => h_.1));have n4_:=Aside0.mk (Kd.R_elder' (by (with_reducible repeat (first|apply Kd.R_alloc|apply Kd.R_drewN|apply Kd.R_drew));exact HO192.out) (Kd.R_base ho0) hb);have n5_:=Aside0.mk (Kd.R_elder' (by (with_reducible repeat (first|apply Kd.R_alloc|apply Kd.R_drewN|apply Kd.R_drew));exact HO195.out) (Kd.R_base ho1) hb);have n6_:=Aside0.mk (Kd.R_lower (Kd.R_new' ho0 (Kd.R_lt (by (with_reducible repeat (first|apply Kd.R_alloc|apply Kd.R_drewN|apply Kd.R_drew));exact HO192.out))) (below_size (by repeat (first|(with_reducible first|exact HB.out|apply below_alloc|apply pw_below_drewN|apply below_drew1|refine below_set ?_ GE161.out|refine below_set ?_ GE188.out|refine below_set ?_ GE189.out)|exact HB.out))));have n7_:=Aside0.mk (Kd.R_lower (Kd.R_new' ho1 (Kd.R_lt (by (with_reducible repeat (first|apply Kd.R_alloc|apply Kd.R_drewN|apply Kd.R_drew));exact HO195.out))) (below_size (by repeat (first|(with_reducible first|exact HB.out|apply below_alloc|apply pw_below_drewN|apply below_drew1|refine below_set ?_ GE161.out|refine below_set ?_ GE188.out|refine below_set ?_ GE189.out)|exact HB.out))));have n8_:=Aside0.mk (blk_below (g:=gb161) (o:=.cells #[.slice A0_0 l0_0.length c0_0, .slice A0_1 l0_1.length c0_1, .int .i64 a0_2, .int .i64 a0_3, .int .i64 a0_4] 33 (0, 0)) (by (with_reducible repeat (first|refine blk_drewN ?_ _|refine blk_drew ?_|refine blk_alloc ?_ _));exact BK161.out) hb);have n9_:=Aside0.mk (blk_below (g:=gb188) (o:=.cells #[.slice Ao77 t175.length co77, .slice Ao81 t178.length co81] 28 (0, 0)) (by (with_reducible repeat (first|refine blk_drewN ?_ _|refine blk_drew ?_|refine blk_alloc ?_ _));exact BK188.out) hb);have n10_:=Aside0.mk (blk_below (g:=gb189) (o:=.cells #[.slice Ao82 t181.length co82, .slice Ao85 t184.length co85] 30 (0, 0)) (by (with_reducible repeat (first|refine blk_drewN ?_ _|refine blk_drew ?_|refine blk_alloc ?_ _));exact BK189.out) hb);have n11_:=Aside0.mk (below_step (by repeat (first|(with_reducible first|exact HB.out|apply below_alloc|apply pw_below_drewN|apply below_drew1|refine below_set ?_ GE161.out|refine below_set ?_ GE188.out|refine below_set ?_ GE189.out)|exact HB.out)) hb);clear HO177;clear HO180;clear HO183;clear HO186;clear HO192;clear HO195;clear BK161;clear BK188;clear BK189;clear HB;have HO177:=n0_;have HO180:=n1_;have HO183:=n2_;have HO186:=n3_;have HO192:=n4_;have HO195:=n5_;have HO198:=n6_;have HO201:=n7_;have BK161:=n8_;have BK188:=n9_;have BK189:=n10_;have HB:=n11_;clear n0_ n1_ n2_ n3_ n4_ n5_ n6_ n7_ n8_ n9_ n10_ n11_;(try clear hb);(try clear hb2);(try clear hk);(try clear hi);(try clear ho0);(try clear ho1);have hcz89_0 : w88.cell? ⟨gb188, 0, none⟩ = some (.slice Ao77 t175.length co77):=(blk_cell BK188.out 0).trans rfl;have hcz89_1 : w88.cell? ⟨gb188, 1, none⟩ = some (.slice Ao81 t178.length co81):=(blk_cell BK188.out 1).trans rfl;have hfz89_0:=blk_frozen BK188.out 0;have hfz89_1:=blk_frozen BK188.out 1)|((with_reducible refine gate_callee (f:=14) rfl ?_);refine goesL_ (some 62) rfl rfl Try.func14 (by kernel_rfl) rfl #[.agg #[.slice Ao77 t175.length co77, .slice Ao81 t178.length co81], .int .i64 a1] rfl (by (try simp only [List.map_toArray, List.map_cons, List.map_nil]);first|done|rfl|(simp only [List.length_drop, List.length_take];rfl)) ?_;(with_reducible refine (marks_Drop.calls _ _ t175 _ _ t178 a1 t202 t205 _ ?side1 ?side2 ?side3 ?side4 A26.out).mono ?_);(case side1 => repeat (first|exact (Kd.V_reads' HO177.out).2.2|(with_reducible refine Kd.C_alloc ?_ _)|(with_reducible refine Kd.C_drewN ?_ _)|(with_reducible refine Kd.C_drew ?_)));(case side2 => exact (Kd.V_reads' HO177.out).2.1);(case side3 => repeat (first|exact (Kd.V_reads' HO180.out).2.2|(with_reducible refine Kd.C_alloc ?_ _)|(with_reducible refine Kd.C_drewN ?_ _)|(with_reducible refine Kd.C_drew ?_)));(case side4 => exact (Kd.V_reads' HO180.out).2.1);rintro e w90 ⟨v203, v206, rfl, ho0, ho1, hb⟩;refine ⟨_, rfl, ?_⟩;have n0_:=Aside0.mk (Kd.V_mono (Kd.V_told (Kd.V_told (Kd.V_old (by (with_reducible repeat (first|apply Kd.V_alloc|apply Kd.V_drewN|apply Kd.V_drew));exact HO177.out) hb) (Kd.R_base ho0)) (Kd.R_base ho1)) (fun _ h_ => h_.1));have n1_:=Aside0.mk (Kd.V_mono (Kd.V_told (Kd.V_told (Kd.V_old (by (with_reducible repeat (first|apply Kd.V_alloc|apply Kd.V_drewN|apply Kd.V_drew));exact HO180.out) hb) (Kd.R_base ho0)) (Kd.R_base ho1)) (fun _ h_ => h_.1));have n2_:=Aside0.mk (Kd.V_mono (Kd.V_told (Kd.V_told (Kd.V_old (by (with_reducible repeat (first|apply Kd.V_alloc|apply Kd.V_drewN|apply Kd.V_drew));exact HO183.out) hb) (Kd.R_base ho0)) (Kd.R_base ho1)) (fun _ h_ => h_.1));have n3_:=Aside0.mk (Kd.V_mono (Kd.V_told (Kd.V_told (Kd.V_old (by (with_reducible repeat (first|apply Kd.V_alloc|apply Kd.V_drewN|apply Kd.V_drew));exact HO186.out) hb) (Kd.R_base ho0)) (Kd.R_base ho1)) (fun _ h_ => h_.1));have n4_:=Aside0.mk (Kd.R_elder' (by (with_reducible repeat (first|apply Kd.R_alloc|apply Kd.R_drewN|apply Kd.R_drew));exact HO192.out) (Kd.R_base ho0) hb);have n5_:=Aside0.mk (Kd.R_below (by (with_reducible repeat (first|apply Kd.R_alloc|apply Kd.R_drewN|apply Kd.R_drew));exact HO195.out) hb);have n6_:=Aside0.mk (Kd.R_elder' (by (with_reducible repeat (first|apply Kd.R_alloc|apply Kd.R_drewN|apply Kd.R_drew));exact HO198.out) (Kd.R_base ho0) hb);have n7_:=Aside0.mk (Kd.R_below (by (with_reducible repeat (first|apply Kd.R_alloc|apply Kd.R_drewN|apply Kd.R_drew));exact HO201.out) hb);have n8_:=Aside0.mk (Kd.R_lower (Kd.R_new' (Kd.R_new' ho0 (Kd.R_lt (by (with_reducible repeat (first|apply Kd.R_alloc|apply Kd.R_drewN|apply Kd.R_drew));exact HO192.out))) (Kd.R_lt (by (with_reducible repeat (first|apply Kd.R_alloc|apply Kd.R_drewN|apply Kd.R_drew));exact HO198.out))) (below_size (by repeat (first|(with_reducible first|exact HB.out|apply below_alloc|apply pw_below_drewN|apply below_drew1|refine below_set ?_ GE161.out|refine below_set ?_ GE188.out|refine below_set ?_ GE189.out)|exact HB.out))));have n9_:=Aside0.mk (Kd.R_lower ho1 (below_size (by repeat (first|(with_reducible first|exact HB.out|apply below_alloc|apply pw_below_drewN|apply below_drew1|refine below_set ?_ GE161.out|refine below_set ?_ GE188.out|refine below_set ?_ GE189.out)|exact HB.out))));have n10_:=Aside0.mk (blk_below (g:=gb161) (o:=.cells #[.slice A0_0 l0_0.length c0_0, .slice A0_1 l0_1.length c0_1, .int .i64 a0_2, .int .i64 a0_3, .int .i64 a0_4] 33 (0, 0)) (by (with_reducible repeat (first|refine blk_drewN ?_ _|refine blk_drew ?_|refine blk_alloc ?_ _));exact BK161.out) hb);have n11_:=Aside0.mk (blk_below (g:=gb188) (o:=.cells #[.slice Ao77 t175.length co77, .slice Ao81 t178.length co81] 28 (0, 0)) (by (with_reducible repeat (first|refine blk_drewN ?_ _|refine blk_drew ?_|refine blk_alloc ?_ _));exact BK188.out) hb);have n12_:=Aside0.mk (blk_below (g:=gb189) (o:=.cells #[.slice Ao82 t181.length co82, .slice Ao85 t184.length co85] 30 (0, 0)) (by (with_reducible repeat (first|refine blk_drewN ?_ _|refine blk_drew ?_|refine blk_alloc ?_ _));exact BK189.out) hb);have n13_:=Aside0.mk (below_step (by repeat (first|(with_reducible first|exact HB.out|apply below_alloc|apply pw_below_drewN|apply below_drew1|refine below_set ?_ GE161.out|refine below_set ?_ GE188.out|refine below_set ?_ GE189.out)|exact HB.out)) hb);clear HO177;clear HO180;clear HO183;clear HO186;clear HO192;clear HO195;clear HO198;clear HO201;clear BK161;clear BK188;clear BK189;clear HB;have HO177:=n0_;have HO180:=n1_;have HO183:=n2_;have HO186:=n3_;have HO192:=n4_;have HO195:=n5_;have HO198:=n6_;have HO201:=n7_;have HO204:=n8_;have HO207:=n9_;have BK161:=n10_;have BK188:=n11_;have BK189:=n12_;have HB:=n13_;clear n0_ n1_ n2_ n3_ n4_ n5_ n6_ n7_ n8_ n9_ n10_ n11_ n12_ n13_;(try clear hb);(try clear hb2);(try clear hk);(try clear hi);(try clear ho0);(try clear ho1))|((with_reducible refine gate_dst (N:=14) rfl ?_);(try (refine gate_guard (by rfl) ?_;dsimp only));refine box_event ?hg (N:=14) ?hd (cs:=#[.slice none 0 0, .slice none 0 0]) (t:=28) ?hr ?_;(case hd => rfl);(case hg => rfl);(case hr => first|(go_simp;done)|(go_simp;rfl));intro gb208 hg w91 hbox hb;have n0_:=Aside0.mk (Kd.V_below (Kd.V_elderB (by (with_reducible repeat (first|apply Kd.V_alloc|apply Kd.V_drewN|apply Kd.V_drew));exact HO177.out) gb208 (Nat.le_of_eq hg.symm)) hb);have n1_:=Aside0.mk (Kd.V_below (Kd.V_elderB (by (with_reducible repeat (first|apply Kd.V_alloc|apply Kd.V_drewN|apply Kd.V_drew));exact HO180.out) gb208 (Nat.le_of_eq hg.symm)) hb);have n2_:=Aside0.mk (Kd.V_below (Kd.V_elderB (by (with_reducible repeat (first|apply Kd.V_alloc|apply Kd.V_drewN|apply Kd.V_drew));exact HO183.out) gb208 (Nat.le_of_eq hg.symm)) hb);have n3_:=Aside0.mk (Kd.V_below (Kd.V_elderB (by (with_reducible repeat (first|apply Kd.V_alloc|apply Kd.V_drewN|apply Kd.V_drew));exact HO186.out) gb208 (Nat.le_of_eq hg.symm)) hb);have n4_:=Aside0.mk (Kd.R_below (by (with_reducible repeat (first|apply Kd.R_alloc|apply Kd.R_drewN|apply Kd.R_drew));exact HO192.out) hb);have n5_:=Aside0.mk (Kd.R_below (by (with_reducible repeat (first|apply Kd.R_alloc|apply Kd.R_drewN|apply Kd.R_drew));exact HO195.out) hb);have n6_:=Aside0.mk (Kd.R_below (by (with_reducible repeat (first|apply Kd.R_alloc|apply Kd.R_drewN|apply Kd.R_drew));exact HO198.out) hb);have n7_:=Aside0.mk (Kd.R_below (by (with_reducible repeat (first|apply Kd.R_alloc|apply Kd.R_drewN|apply Kd.R_drew));exact HO201.out) hb);have n8_:=Aside0.mk (Kd.R_below (by (with_reducible repeat (first|apply Kd.R_alloc|apply Kd.R_drewN|apply Kd.R_drew));exact HO204.out) hb);have n9_:=Aside0.mk (Kd.R_below (by (with_reducible repeat (first|apply Kd.R_alloc|apply Kd.R_drewN|apply Kd.R_drew));exact HO207.out) hb);have n10_:=Aside0.mk (blk_below (g:=gb161) (o:=.cells #[.slice A0_0 l0_0.length c0_0, .slice A0_1 l0_1.length c0_1, .int .i64 a0_2, .int .i64 a0_3, .int .i64 a0_4] 33 (0, 0)) (by (with_reducible repeat (first|refine blk_drewN ?_ _|refine blk_drew ?_|refine blk_alloc ?_ _));exact BK161.out) hb);have n11_:=Aside0.mk (blk_below (g:=gb188) (o:=.cells #[.slice Ao77 t175.length co77, .slice Ao81 t178.length co81] 28 (0, 0)) (by (with_reducible repeat (first|refine blk_drewN ?_ _|refine blk_drew ?_|refine blk_alloc ?_ _));exact BK188.out) hb);have n12_:=Aside0.mk (blk_below (g:=gb189) (o:=.cells #[.slice Ao82 t181.length co82, .slice Ao85 t184.length co85] 30 (0, 0)) (by (with_reducible repeat (first|refine blk_drewN ?_ _|refine blk_drew ?_|refine blk_alloc ?_ _));exact BK189.out) hb);have n13_:=Aside0.mk (below_step (by repeat (first|(with_reducible first|exact HB.out|apply below_alloc|apply pw_below_drewN|apply below_drew1|refine below_set ?_ GE161.out|refine below_set ?_ GE188.out|refine below_set ?_ GE189.out)|exact HB.out)) hb);have n14_:=Aside0.mk (hbox);have n15_:=Aside0.mk ((by rw [hg];exact (below_size (by repeat (first|(with_reducible first|exact HB.out|apply below_alloc|apply pw_below_drewN|apply below_drew1|refine below_set ?_ GE161.out|refine below_set ?_ GE188.out|refine below_set ?_ GE189.out)|exact HB.out))) : w.heap.size ≤ gb208));have n16_:=Aside0.mk ((by rw [hg];exact (below_size (by repeat (first|(with_reducible first|exact HB.out|apply below_alloc|apply pw_below_drewN|apply below_drew1|refine below_set ?_ GE161.out|refine below_set ?_ GE188.out|refine below_set ?_ GE189.out)|exact HB.out))) : w.heap.size ≤ gb208));have n17_:=Aside0.mk ((by rw [hg];exact Nat.ne_of_lt (blk_lt (g:=gb161) (o:=.cells #[.slice A0_0 l0_0.length c0_0, .slice A0_1 l0_1.length c0_1, .int .i64 a0_2, .int .i64 a0_3, .int .i64 a0_4] 33 (0, 0)) (by (with_reducible repeat (first|refine blk_drewN ?_ _|refine blk_drew ?_|refine blk_alloc ?_ _));exact BK161.out)) : gb161 ≠ gb208));have n18_:=Aside0.mk ((by rw [hg];exact Nat.ne_of_gt (blk_lt (g:=gb161) (o:=.cells #[.slice A0_0 l0_0.length c0_0, .slice A0_1 l0_1.length c0_1, .int .i64 a0_2, .int .i64 a0_3, .int .i64 a0_4] 33 (0, 0)) (by (with_reducible repeat (first|refine blk_drewN ?_ _|refine blk_drew ?_|refine blk_alloc ?_ _));exact BK161.out)) : gb208 ≠ gb161));have n19_:=Aside0.mk ((by rw [hg];exact Nat.ne_of_lt (blk_lt (g:=gb188) (o:=.cells #[.slice Ao77 t175.length co77, .slice Ao81 t178.length co81] 28 (0, 0)) (by (with_reducible repeat (first|refine blk_drewN ?_ _|refine blk_drew ?_|refine blk_alloc ?_ _));exact BK188.out)) : gb188 ≠ gb208));have n20_:=Aside0.mk ((by rw [hg];exact Nat.ne_of_gt (blk_lt (g:=gb188) (o:=.cells #[.slice Ao77 t175.length co77, .slice Ao81 t178.length co81] 28 (0, 0)) (by (with_reducible repeat (first|refine blk_drewN ?_ _|refine blk_drew ?_|refine blk_alloc ?_ _));exact BK188.out)) : gb208 ≠ gb188));have n21_:=Aside0.mk ((by rw [hg];exact Nat.ne_of_lt (blk_lt (g:=gb189) (o:=.cells #[.slice Ao82 t181.length co82, .slice Ao85 t184.length co85] 30 (0, 0)) (by (with_reducible repeat (first|refine blk_drewN ?_ _|refine blk_drew ?_|refine blk_alloc ?_ _));exact BK189.out)) : gb189 ≠ gb208));have n22_:=Aside0.mk ((by rw [hg];exact Nat.ne_of_gt (blk_lt (g:=gb189) (o:=.cells #[.slice Ao82 t181.length co82, .slice Ao85 t184.length co85] 30 (0, 0)) (by (with_reducible repeat (first|refine blk_drewN ?_ _|refine blk_drew ?_|refine blk_alloc ?_ _));exact BK189.out)) : gb208 ≠ gb189));clear HO177;clear HO180;clear HO183;clear HO186;clear HO192;clear HO195;clear HO198;clear HO201;clear HO204;clear HO207;clear BK161;clear BK188;clear BK189;clear HB;have HO177:=n0_;have HO180:=n1_;have HO183:=n2_;have HO186:=n3_;have HO192:=n4_;have HO195:=n5_;have HO198:=n6_;have HO201:=n7_;have HO204:=n8_;have HO207:=n9_;have BK161:=n10_;have BK188:=n11_;have BK189:=n12_;have HB:=n13_;have BK208:=n14_;have GW208:=n15_;have GE208:=n16_;have NB161_208:=n17_;have NB208_161:=n18_;have NB188_208:=n19_;have NB208_188:=n20_;have NB189_208:=n21_;have NB208_189:=n22_;clear n0_ n1_ n2_ n3_ n4_ n5_ n6_ n7_ n8_ n9_ n10_ n11_ n12_ n13_ n14_ n15_ n16_ n17_ n18_ n19_ n20_ n21_ n22_;clear hb hbox hg;obtain ⟨Ao92, co92, eo92⟩:=Kd.R_slice HO204.out;subst eo92;have hnb93:=NB208_161.out;have hnc93:=NB161_208.out;have hnb94:=NB208_188.out;have hnc94:=NB188_208.out;have hnb95:=NB208_189.out;have hnc95:=NB189_208.out;have hcz96_0 : w91.cell? ⟨gb208, 0, none⟩ = some (.slice none 0 0):=(blk_cell BK208.out 0).trans rfl;have hcz96_1 : w91.cell? ⟨gb208, 1, none⟩ = some (.slice none 0 0):=(blk_cell BK208.out 1).trans rfl;have hfz96_0:=blk_frozen BK208.out 0;have hfz96_1:=blk_frozen BK208.out 1;obtain ⟨Ao97, co97, eo97⟩:=Kd.R_slice HO207.out;subst eo97)|((with_reducible refine gate_callee (f:=11) rfl ?_);refine goesL_ (some 66) rfl rfl Try.func11 (by kernel_rfl) rfl #[.agg #[.slice Ao92 t202.length co92, .slice Ao97 t205.length co97], .int .i64 a1] rfl (by (try simp only [List.map_toArray, List.map_cons, List.map_nil]);first|done|rfl|(simp only [List.length_drop, List.length_take];rfl)) ?_;(with_reducible refine (marks_Of.calls kj3 _ _ t202 _ _ t205 a1 t209 t212 _ ?side1 ?side2 ?side3 ?side4 A27.out).mono ?_);(case side1 => refine (Kd.R_reads' (e:=26) (base:=w.heap.size) (ok:=fun k_ => ((True ∧ some k_ ≠ (v191 : Value).ownBlock) ∧ some k_ ≠ (v197 : Value).ownBlock)) (n:=t202.length) (c:=co92) ?_).2.2;exact (by (with_reducible repeat (first|apply Kd.R_alloc|apply Kd.R_drewN|apply Kd.R_drew));exact (Kd.R_mono (Kd.R_far (p:=⟨gb208, 1, none⟩) (Kd.R_far (p:=⟨gb208, 0, none⟩) (Kd.R_types HO204.out BK208.out (by decide)) (fun _ hk => hk.2) (.slice Ao92 t202.length co92)) (fun _ hk => hk.2) (.slice Ao97 t205.length co97)) (fun _ h_ => h_.1))));(case side2 => exact (Kd.R_reads' HO204.out).2.1);(case side3 => refine (Kd.R_reads' (e:=38) (base:=w.heap.size) (ok:=fun k_ => True) (n:=t205.length) (c:=co97) ?_).2.2;exact (by (with_reducible repeat (first|apply Kd.R_alloc|apply Kd.R_drewN|apply Kd.R_drew));exact (Kd.R_mono (Kd.R_far (p:=⟨gb208, 1, none⟩) (Kd.R_far (p:=⟨gb208, 0, none⟩) (Kd.R_types HO207.out BK208.out (by decide)) (fun _ hk => hk.2) (.slice Ao92 t202.length co92)) (fun _ hk => hk.2) (.slice Ao97 t205.length co97)) (fun _ h_ => h_.1))));(case side4 => exact (Kd.R_reads' HO207.out).2.1);rintro e w98 ⟨v210, v213, rfl, ho0, ho1, hb⟩;refine ⟨_, rfl, ?_⟩;have n0_:=Aside0.mk (Kd.V_mono (Kd.V_told (Kd.V_told (Kd.V_old (by (with_reducible repeat (first|apply Kd.V_alloc|apply Kd.V_drewN|apply Kd.V_drew));exact (Kd.V_mono (Kd.V_far (p:=⟨gb208, 1, none⟩) (Kd.V_far (p:=⟨gb208, 0, none⟩) (Kd.V_mono HO177.out (fun k_ hk => (⟨hk, hk.2⟩ : _ ∧ k_ ≠ gb208))) (fun _ hk => hk.2) (.slice Ao92 t202.length co92)) (fun _ hk => hk.2) (.slice Ao97 t205.length co97)) (fun _ h_ => h_.1))) hb) (Kd.R_base ho0)) (Kd.R_base ho1)) (fun _ h_ => h_.1));have n1_:=Aside0.mk (Kd.V_mono (Kd.V_told (Kd.V_told (Kd.V_old (by (with_reducible repeat (first|apply Kd.V_alloc|apply Kd.V_drewN|apply Kd.V_drew));exact (Kd.V_mono (Kd.V_far (p:=⟨gb208, 1, none⟩) (Kd.V_far (p:=⟨gb208, 0, none⟩) (Kd.V_mono HO180.out (fun k_ hk => (⟨hk, hk.2⟩ : _ ∧ k_ ≠ gb208))) (fun _ hk => hk.2) (.slice Ao92 t202.length co92)) (fun _ hk => hk.2) (.slice Ao97 t205.length co97)) (fun _ h_ => h_.1))) hb) (Kd.R_base ho0)) (Kd.R_base ho1)) (fun _ h_ => h_.1));have n2_:=Aside0.mk (Kd.V_mono (Kd.V_told (Kd.V_told (Kd.V_old (by (with_reducible repeat (first|apply Kd.V_alloc|apply Kd.V_drewN|apply Kd.V_drew));exact (Kd.V_mono (Kd.V_far (p:=⟨gb208, 1, none⟩) (Kd.V_far (p:=⟨gb208, 0, none⟩) (Kd.V_mono HO183.out (fun k_ hk => (⟨hk, hk.2⟩ : _ ∧ k_ ≠ gb208))) (fun _ hk => hk.2) (.slice Ao92 t202.length co92)) (fun _ hk => hk.2) (.slice Ao97 t205.length co97)) (fun _ h_ => h_.1))) hb) (Kd.R_base ho0)) (Kd.R_base ho1)) (fun _ h_ => h_.1));have n3_:=Aside0.mk (Kd.V_mono (Kd.V_told (Kd.V_told (Kd.V_old (by (with_reducible repeat (first|apply Kd.V_alloc|apply Kd.V_drewN|apply Kd.V_drew));exact (Kd.V_mono (Kd.V_far (p:=⟨gb208, 1, none⟩) (Kd.V_far (p:=⟨gb208, 0, none⟩) (Kd.V_mono HO186.out (fun k_ hk => (⟨hk, hk.2⟩ : _ ∧ k_ ≠ gb208))) (fun _ hk => hk.2) (.slice Ao92 t202.length co92)) (fun _ hk => hk.2) (.slice Ao97 t205.length co97)) (fun _ h_ => h_.1))) hb) (Kd.R_base ho0)) (Kd.R_base ho1)) (fun _ h_ => h_.1));have n4_:=Aside0.mk (Kd.R_elder' (by (with_reducible repeat (first|apply Kd.R_alloc|apply Kd.R_drewN|apply Kd.R_drew));exact (Kd.R_mono (Kd.R_far (p:=⟨gb208, 1, none⟩) (Kd.R_far (p:=⟨gb208, 0, none⟩) (Kd.R_types HO192.out BK208.out (by decide)) (fun _ hk => hk.2) (.slice Ao92 t202.length co92)) (fun _ hk => hk.2) (.slice Ao97 t205.length co97)) (fun _ h_ => h_.1))) (Kd.R_base ho0) hb);have n5_:=Aside0.mk (Kd.R_elder' (by (with_reducible repeat (first|apply Kd.R_alloc|apply Kd.R_drewN|apply Kd.R_drew));exact (Kd.R_mono (Kd.R_far (p:=⟨gb208, 1, none⟩) (Kd.R_far (p:=⟨gb208, 0, none⟩) (Kd.R_types HO195.out BK208.out (by decide)) (fun _ hk => hk.2) (.slice Ao92 t202.length co92)) (fun _ hk => hk.2) (.slice Ao97 t205.length co97)) (fun _ h_ => h_.1))) (Kd.R_base ho1) hb);have n6_:=Aside0.mk (Kd.R_elder' (by (with_reducible repeat (first|apply Kd.R_alloc|apply Kd.R_drewN|apply Kd.R_drew));exact (Kd.R_mono (Kd.R_far (p:=⟨gb208, 1, none⟩) (Kd.R_far (p:=⟨gb208, 0, none⟩) (Kd.R_types HO198.out BK208.out (by decide)) (fun _ hk => hk.2) (.slice Ao92 t202.length co92)) (fun _ hk => hk.2) (.slice Ao97 t205.length co97)) (fun _ h_ => h_.1))) (Kd.R_base ho0) hb);have n7_:=Aside0.mk (Kd.R_elder' (by (with_reducible repeat (first|apply Kd.R_alloc|apply Kd.R_drewN|apply Kd.R_drew));exact (Kd.R_mono (Kd.R_far (p:=⟨gb208, 1, none⟩) (Kd.R_far (p:=⟨gb208, 0, none⟩) (Kd.R_types HO201.out BK208.out (by decide)) (fun _ hk => hk.2) (.slice Ao92 t202.length co92)) (fun _ hk => hk.2) (.slice Ao97 t205.length co97)) (fun _ h_ => h_.1))) (Kd.R_base ho1) hb);have n8_:=Aside0.mk (Kd.R_elder' (by (with_reducible repeat (first|apply Kd.R_alloc|apply Kd.R_drewN|apply Kd.R_drew));exact (Kd.R_mono (Kd.R_far (p:=⟨gb208, 1, none⟩) (Kd.R_far (p:=⟨gb208, 0, none⟩) (Kd.R_types HO204.out BK208.out (by decide)) (fun _ hk => hk.2) (.slice Ao92 t202.length co92)) (fun _ hk => hk.2) (.slice Ao97 t205.length co97)) (fun _ h_ => h_.1))) (Kd.R_base ho0) hb);have n9_:=Aside0.mk (Kd.R_below (by (with_reducible repeat (first|apply Kd.R_alloc|apply Kd.R_drewN|apply Kd.R_drew));exact (Kd.R_mono (Kd.R_far (p:=⟨gb208, 1, none⟩) (Kd.R_far (p:=⟨gb208, 0, none⟩) (Kd.R_types HO207.out BK208.out (by decide)) (fun _ hk => hk.2) (.slice Ao92 t202.length co92)) (fun _ hk => hk.2) (.slice Ao97 t205.length co97)) (fun _ h_ => h_.1))) hb);have n10_:=Aside0.mk (Kd.R_lower (Kd.R_new' (Kd.R_new' (Kd.R_new' ho0 (Kd.R_lt (by (with_reducible repeat (first|apply Kd.R_alloc|apply Kd.R_drewN|apply Kd.R_drew));exact (Kd.R_mono (Kd.R_far (p:=⟨gb208, 1, none⟩) (Kd.R_far (p:=⟨gb208, 0, none⟩) (Kd.R_types HO192.out BK208.out (by decide)) (fun _ hk => hk.2) (.slice Ao92 t202.length co92)) (fun _ hk => hk.2) (.slice Ao97 t205.length co97)) (fun _ h_ => h_.1))))) (Kd.R_lt (by (with_reducible repeat (first|apply Kd.R_alloc|apply Kd.R_drewN|apply Kd.R_drew));exact (Kd.R_mono (Kd.R_far (p:=⟨gb208, 1, none⟩) (Kd.R_far (p:=⟨gb208, 0, none⟩) (Kd.R_types HO198.out BK208.out (by decide)) (fun _ hk => hk.2) (.slice Ao92 t202.length co92)) (fun _ hk => hk.2) (.slice Ao97 t205.length co97)) (fun _ h_ => h_.1))))) (Kd.R_lt (by (with_reducible repeat (first|apply Kd.R_alloc|apply Kd.R_drewN|apply Kd.R_drew));exact (Kd.R_mono (Kd.R_far (p:=⟨gb208, 1, none⟩) (Kd.R_far (p:=⟨gb208, 0, none⟩) (Kd.R_types HO204.out BK208.out (by decide)) (fun _ hk => hk.2) (.slice Ao92 t202.length co92)) (fun _ hk => hk.2) (.slice Ao97 t205.length co97)) (fun _ h_ => h_.1))))) (below_size (by repeat (first|(with_reducible first|exact HB.out|apply below_alloc|apply pw_below_drewN|apply below_drew1|refine below_set ?_ GE161.out|refine below_set ?_ GE188.out|refine below_set ?_ GE189.out|refine below_set ?_ GE208.out)|exact HB.out))));have n11_:=Aside0.mk (Kd.R_lower (Kd.R_new' (Kd.R_new' ho1 (Kd.R_lt (by (with_reducible repeat (first|apply Kd.R_alloc|apply Kd.R_drewN|apply Kd.R_drew));exact (Kd.R_mono (Kd.R_far (p:=⟨gb208, 1, none⟩) (Kd.R_far (p:=⟨gb208, 0, none⟩) (Kd.R_types HO195.out BK208.out (by decide)) (fun _ hk => hk.2) (.slice Ao92 t202.length co92)) (fun _ hk => hk.2) (.slice Ao97 t205.length co97)) (fun _ h_ => h_.1))))) (Kd.R_lt (by (with_reducible repeat (first|apply Kd.R_alloc|apply Kd.R_drewN|apply Kd.R_drew));exact (Kd.R_mono (Kd.R_far (p:=⟨gb208, 1, none⟩) (Kd.R_far (p:=⟨gb208, 0, none⟩) (Kd.R_types HO201.out BK208.out (by decide)) (fun _ hk => hk.2) (.slice Ao92 t202.length co92)) (fun _ hk => hk.2) (.slice Ao97 t205.length co97)) (fun _ h_ => h_.1))))) (below_size (by repeat (first|(with_reducible first|exact HB.out|apply below_alloc|apply pw_below_drewN|apply below_drew1|refine below_set ?_ GE161.out|refine below_set ?_ GE188.out|refine below_set ?_ GE189.out|refine below_set ?_ GE208.out)|exact HB.out))));have n12_:=Aside0.mk (blk_below (g:=gb161) (o:=.cells #[.slice A0_0 l0_0.length c0_0, .slice A0_1 l0_1.length c0_1, .int .i64 a0_2, .int .i64 a0_3, .int .i64 a0_4] 33 (0, 0)) (by (with_reducible repeat (first|refine blk_drewN ?_ _|refine blk_drew ?_|refine blk_alloc ?_ _));refine blk_far ?_ NB161_208.out _;(with_reducible repeat (first|refine blk_drewN ?_ _|refine blk_drew ?_|refine blk_alloc ?_ _));refine blk_far ?_ NB161_208.out _;(with_reducible repeat (first|refine blk_drewN ?_ _|refine blk_drew ?_|refine blk_alloc ?_ _));exact BK161.out) hb);have n13_:=Aside0.mk (blk_below (g:=gb188) (o:=.cells #[.slice Ao77 t175.length co77, .slice Ao81 t178.length co81] 28 (0, 0)) (by (with_reducible repeat (first|refine blk_drewN ?_ _|refine blk_drew ?_|refine blk_alloc ?_ _));refine blk_far ?_ NB188_208.out _;(with_reducible repeat (first|refine blk_drewN ?_ _|refine blk_drew ?_|refine blk_alloc ?_ _));refine blk_far ?_ NB188_208.out _;(with_reducible repeat (first|refine blk_drewN ?_ _|refine blk_drew ?_|refine blk_alloc ?_ _));exact BK188.out) hb);have n14_:=Aside0.mk (blk_below (g:=gb189) (o:=.cells #[.slice Ao82 t181.length co82, .slice Ao85 t184.length co85] 30 (0, 0)) (by (with_reducible repeat (first|refine blk_drewN ?_ _|refine blk_drew ?_|refine blk_alloc ?_ _));refine blk_far ?_ NB189_208.out _;(with_reducible repeat (first|refine blk_drewN ?_ _|refine blk_drew ?_|refine blk_alloc ?_ _));refine blk_far ?_ NB189_208.out _;(with_reducible repeat (first|refine blk_drewN ?_ _|refine blk_drew ?_|refine blk_alloc ?_ _));exact BK189.out) hb);have n15_:=Aside0.mk (blk_below (g:=gb208) (o:=.cells #[.slice Ao92 t202.length co92, .slice Ao97 t205.length co97] 28 (0, 0)) (by (with_reducible repeat (first|refine blk_drewN ?_ _|refine blk_drew ?_|refine blk_alloc ?_ _));refine blk_put (cs:=#[.slice Ao92 t202.length co92, .slice none 0 0]) ?_ 1 _ rfl;(with_reducible repeat (first|refine blk_drewN ?_ _|refine blk_drew ?_|refine blk_alloc ?_ _));refine blk_put (cs:=#[.slice none 0 0, .slice none 0 0]) ?_ 0 _ rfl;(with_reducible repeat (first|refine blk_drewN ?_ _|refine blk_drew ?_|refine blk_alloc ?_ _));exact BK208.out) hb);have n16_:=Aside0.mk (below_step (by repeat (first|(with_reducible first|exact HB.out|apply below_alloc|apply pw_below_drewN|apply below_drew1|refine below_set ?_ GE161.out|refine below_set ?_ GE188.out|refine below_set ?_ GE189.out|refine below_set ?_ GE208.out)|exact HB.out)) hb);clear HO177;clear HO180;clear HO183;clear HO186;clear HO192;clear HO195;clear HO198;clear HO201;clear HO204;clear HO207;clear BK161;clear BK188;clear BK189;clear BK208;clear HB;have HO177:=n0_;have HO180:=n1_;have HO183:=n2_;have HO186:=n3_;have HO192:=n4_;have HO195:=n5_;have HO198:=n6_;have HO201:=n7_;have HO204:=n8_;have HO207:=n9_;have HO211:=n10_;have HO214:=n11_;have BK161:=n12_;have BK188:=n13_;have BK189:=n14_;have BK208:=n15_;have HB:=n16_;clear n0_ n1_ n2_ n3_ n4_ n5_ n6_ n7_ n8_ n9_ n10_ n11_ n12_ n13_ n14_ n15_ n16_;(try clear hb);(try clear hb2);(try clear hk);(try clear hi);(try clear ho0);(try clear ho1)))
                  have n0_ := Aside0.mk (Kd.V_drew HO177.out)
                  have n1_ := Aside0.mk (Kd.V_drew HO180.out)
                  have n2_ := Aside0.mk (Kd.V_drew HO183.out)
                  have n3_ := Aside0.mk (Kd.V_drew HO186.out)
                  have n4_ := Aside0.mk (Kd.R_drew HO192.out)
                  have n5_ := Aside0.mk (Kd.R_drew HO195.out)
                  have n6_ := Aside0.mk (Kd.R_drew HO198.out)
                  have n7_ := Aside0.mk (Kd.R_drew HO201.out)
                  have n8_ := Aside0.mk (Kd.R_drew HO204.out)
                  have n9_ := Aside0.mk (Kd.R_drew HO207.out)
                  have n10_ := Aside0.mk (Kd.R_drew HO211.out)
                  have n11_ := Aside0.mk (Kd.R_drew HO214.out)
                  have n12_ := Aside0.mk (blk_drew BK161.out)
                  have n13_ := Aside0.mk (blk_drew BK188.out)
                  have n14_ := Aside0.mk (blk_drew BK189.out)
                  have n15_ := Aside0.mk (blk_drew BK208.out)
                  have n16_ := Aside0.mk (below_drew1 HB.out)
                  clear HO177
                  clear HO180
                  clear HO183
                  clear HO186
                  clear HO192
                  clear HO195
                  clear HO198
                  clear HO201
                  clear HO204
                  clear HO207
                  clear HO211
                  clear HO214
                  clear BK161
                  clear BK188
                  clear BK189
                  clear BK208
                  clear HB
                  have HO177 := n0_
                  have HO180 := n1_
                  have HO183 := n2_
                  have HO186 := n3_
                  have HO192 := n4_
                  have HO195 := n5_
                  have HO198 := n6_
                  have HO201 := n7_
                  have HO204 := n8_
                  have HO207 := n9_
                  have HO211 := n10_
                  have HO214 := n11_
                  have BK161 := n12_
                  have BK188 := n13_
                  have BK189 := n14_
                  have BK208 := n15_
                  have HB := n16_
                  clear n0_ n1_ n2_ n3_ n4_ n5_ n6_ n7_ n8_ n9_ n10_ n11_ n12_ n13_ n14_ n15_ n16_
                  obtain ⟨Ao100, co100, eo100⟩ := Kd.R_slice HO192.out
                  (first | subst eo100 | (injection eo100 with f1_ f2_ f3_; have f4_ := f1_.symm; have f5_ := f3_.symm; clear f1_ f2_ f3_; subst f4_; subst f5_))
                  obtain ⟨Ao101, co101, eo101⟩ := Kd.R_slice HO198.out
                  (first | subst eo101 | (injection eo101 with f1_ f2_ f3_; have f4_ := f1_.symm; have f5_ := f3_.symm; clear f1_ f2_ f3_; subst f4_; subst f5_))
                  refine start_ (n := 26) (S := fun w' => w'.cell? ⟨gb208, 0, none⟩ = some (.slice Ao92 t202.length co92) ∧ w'.cell? ⟨gb208, 1, none⟩ = some (.slice Ao97 t205.length co97) ∧ w'.cell? ⟨gb189, 0, none⟩ = some (.slice Ao82 t181.length co82) ∧ w'.cell? ⟨gb189, 1, none⟩ = some (.slice Ao85 t184.length co85)) (ds := []) #[false, false, false, false, false, false, false, false, false, false, false, false, false, false, false, false, false, false, false, false, false, false, false, false, false, false] (by kernel_rfl) rfl rfl ⟨(blk_cell BK208.out 0).trans rfl, (blk_cell BK208.out 1).trans rfl, (blk_cell BK189.out 0).trans rfl, (blk_cell BK189.out 1).trans rfl⟩ (fun hHeld => ?_); refine with_tabW chancellaw04_MarksDrop.tab11 chancellaw04_MarksDrop.bits11 (fun HT_ HW_ => ?_)
                  generalize w98.drew = w99 at HO177 HO180 HO183 HO186 HO192 HO195 HO198 HO201 HO204 HO207 HO211 HO214 BK161 BK188 BK189 BK208 HB hHeld ⊢
                  refine pure_ (i := 0) (N := some 69) (v := ?_) (a' := ?_) #[true, false, false, false, false, false, false, false, false, false, false, false, false, false, false, false, false, false, false, false, false, false, false, false, false, false] rfl rfl (any_of HT_.out (by kernel_rfl)) (fun _ _ _ h => h) (Or.inl ⟨by rfl, ?_⟩) ?_ ?_
                  rotate_left
                  · intro w'
                    go_simp
                    with_reducible rfl
                  rotate_left
                  · simp only [Act.put, List.setIfInBounds_toArray, List.set_cons_zero, List.set_cons_succ, i64_w, i32_w]
                    rfl
                  refine pure_ (i := 1) (N := some 70) (v := ?_) (a' := ?_) #[true, true, false, false, false, false, false, false, false, false, false, false, false, false, false, false, false, false, false, false, false, false, false, false, false, false] rfl rfl (any_of HT_.out (by kernel_rfl)) (fun _ _ _ h => h) (Or.inl ⟨by rfl, ?_⟩) ?_ ?_
                  rotate_left
                  · intro w'
                    go_simp
                    with_reducible rfl
                  rotate_left
                  · simp only [Act.put, List.setIfInBounds_toArray, List.set_cons_zero, List.set_cons_succ, i64_w, i32_w]
                    rfl
                  refine one_ (i := 2) (N := some 71) #[true, true, true, false, false, false, false, false, false, false, false, false, false, false, false, false, false, false, false, false, false, false, false, false, false, false] rfl rfl (one_of HT_.out (by kernel_rfl)) (by decide) (fun K hK => ?_)
                  refine goes_ Try.func15 (by kernel_rfl) rfl #[.slice Ao100 t190.length co100, .slice Ao101 t196.length co101, .slice none 0 0, .slice none 0 0] (by rfl) rfl rfl (by (try simp only [List.map_toArray, List.map_cons, List.map_nil]); first | done | rfl | (simp only [List.length_drop, List.length_take]; rfl)) ?_
                  refine (chancelref04_Same.calls kj3 _ _ t190 _ _ t196 _ _ ([] : List (S38)) _ _ ([] : List (S38)) true _ ?side1 ?side2 ?side3 ?side4 ?side5 ?side6 ?side7 ?side8 A28.out).mono ?_
                  (case side1 => repeat (first|exact (Kd.R_reads' HO192.out).2.2|(with_reducible refine Kd.C_alloc ?_ _)|(with_reducible refine Kd.C_drewN ?_ _)|(with_reducible refine Kd.C_drew ?_)))
                  (case side2 => exact (Kd.R_reads' HO192.out).2.1)
                  (case side3 => repeat (first|exact (Kd.R_reads' HO198.out).2.2|(with_reducible refine Kd.C_alloc ?_ _)|(with_reducible refine Kd.C_drewN ?_ _)|(with_reducible refine Kd.C_drew ?_)))
                  (case side4 => exact (Kd.R_reads' HO198.out).2.1)
                  (case side5 => exact Kd.C_nil _ _)
                  (case side6 => exact Nat.le_refl _)
                  (case side7 => exact Kd.C_nil _ _)
                  (case side8 => exact Nat.le_refl _)
                  rintro e w' ⟨rfl, ⟨nd, rfl⟩⟩
                  refine ⟨_, rfl, ?_⟩
                  obtain ⟨Ao102, co102, eo102⟩ := Kd.R_slice HO195.out
                  (first | subst eo102 | (injection eo102 with f1_ f2_ f3_; have f4_ := f1_.symm; have f5_ := f3_.symm; clear f1_ f2_ f3_; subst f4_; subst f5_))
                  obtain ⟨Ao103, co103, eo103⟩ := Kd.R_slice HO201.out
                  (first | subst eo103 | (injection eo103 with f1_ f2_ f3_; have f4_ := f1_.symm; have f5_ := f3_.symm; clear f1_ f2_ f3_; subst f4_; subst f5_))
                  refine hK.out _ _ ⟨(blk_cell BK208.out 0).trans rfl, (blk_cell BK208.out 1).trans rfl, (blk_cell BK189.out 0).trans rfl, (blk_cell BK189.out 1).trans rfl⟩ (fun hHeld => ?_)
                  clear hK K
                  refine norm_ (a' := ?_) ?_ ?_
                  rotate_left
                  · show Act.put _ (some 71) _ = _
                    simp only [Act.put, List.setIfInBounds_toArray, List.set_cons_zero, List.set_cons_succ, i64_w, i32_w]
                    rfl
                  refine pure_ (i := 3) (N := some 72) (v := ?_) (a' := ?_) #[true, true, true, true, false, false, false, false, false, false, false, false, false, false, false, false, false, false, false, false, false, false, false, false, false, false] rfl rfl (any_of HT_.out (by kernel_rfl)) (fun _ _ _ h => h) (Or.inl ⟨by rfl, ?_⟩) ?_ ?_
                  rotate_left
                  · intro w'
                    go_simp
                    with_reducible rfl
                  rotate_left
                  · simp only [Act.put, List.setIfInBounds_toArray, List.set_cons_zero, List.set_cons_succ, i64_w, i32_w]
                    rfl
                  refine pure_ (i := 4) (N := some 73) (v := ?_) (a' := ?_) #[true, true, true, true, true, false, false, false, false, false, false, false, false, false, false, false, false, false, false, false, false, false, false, false, false, false] rfl rfl (any_of HT_.out (by kernel_rfl)) (fun _ _ _ h => h) (Or.inl ⟨by rfl, ?_⟩) ?_ ?_
                  rotate_left
                  · intro w'
                    go_simp
                    with_reducible rfl
                  rotate_left
                  · simp only [Act.put, List.setIfInBounds_toArray, List.set_cons_zero, List.set_cons_succ, i64_w, i32_w]
                    rfl
                  refine pure_ (i := 5) (N := some 74) (v := ?_) (a' := ?_) #[true, true, true, true, true, true, false, false, false, false, false, false, false, false, false, false, false, false, false, false, false, false, false, false, false, false] rfl rfl (any_of HT_.out (by kernel_rfl)) (fun _ _ _ h => h) (Or.inl ⟨by rfl, ?_⟩) ?_ ?_
                  rotate_left
                  · intro w'
                    go_simp
                    with_reducible rfl
                  rotate_left
                  · simp only [Act.put, List.setIfInBounds_toArray, List.set_cons_zero, List.set_cons_succ, i64_w, i32_w]
                    rfl
                  refine one_ (i := 6) (N := some 75) #[true, true, true, true, true, true, true, false, false, false, false, false, false, false, false, false, false, false, false, false, false, false, false, false, false, false] rfl rfl (one_of HT_.out (by kernel_rfl)) (by decide) (fun K hK => ?_)
                  refine goes_ Try.func16 (by kernel_rfl) rfl #[.slice Ao102 t193.length co102, .slice Ao103 t199.length co103] (by rfl) rfl rfl (by (try simp only [List.map_toArray, List.map_cons, List.map_nil]); first | done | rfl | (simp only [List.length_drop, List.length_take]; rfl)) ?_
                  with_reducible refine (chancelref03_Ints.calls kj3 _ _ t193 _ _ t199 true _ ?side1 ?side2 ?side3 ?side4 A30.out).mono ?_
                  (case side1 => repeat (first|exact (Kd.R_reads' HO195.out).2.2|(with_reducible refine Kd.C_alloc ?_ _)|(with_reducible refine Kd.C_drewN ?_ _)|(with_reducible refine Kd.C_drew ?_)))
                  (case side2 => exact (Kd.R_reads' HO195.out).2.1)
                  (case side3 => repeat (first|exact (Kd.R_reads' HO201.out).2.2|(with_reducible refine Kd.C_alloc ?_ _)|(with_reducible refine Kd.C_drewN ?_ _)|(with_reducible refine Kd.C_drew ?_)))
                  (case side4 => exact (Kd.R_reads' HO201.out).2.1)
                  rintro e w' ⟨rfl, ⟨nd, rfl⟩⟩
                  refine ⟨_, rfl, ?_⟩
                  refine hK.out _ _ ⟨(blk_cell BK208.out 0).trans rfl, (blk_cell BK208.out 1).trans rfl, (blk_cell BK189.out 0).trans rfl, (blk_cell BK189.out 1).trans rfl⟩ (fun hHeld => ?_)
                  clear hK K
                  refine norm_ (a' := ?_) ?_ ?_
                  rotate_left
                  · show Act.put _ (some 75) _ = _
                    simp only [Act.put, List.setIfInBounds_toArray, List.set_cons_zero, List.set_cons_succ, i64_w, i32_w]
                    rfl
                  refine pure_ (i := 7) (N := some 76) (v := ?_) (a' := ?_) #[true, true, true, true, true, true, true, true, false, false, false, false, false, false, false, false, false, false, false, false, false, false, false, false, false, false] rfl rfl (any_of HT_.out (by kernel_rfl)) (fun _ _ _ h => h) (Or.inl ⟨by rfl, ?_⟩) ?_ ?_
                  rotate_left
                  · intro w'
                    go_simp
                    with_reducible rfl
                  rotate_left
                  · simp only [Act.put, List.setIfInBounds_toArray, List.set_cons_zero, List.set_cons_succ, i64_w, i32_w]
                    rfl
                  refine pure_ (i := 8) (N := some 77) (v := ?_) (a' := ?_) #[true, true, true, true, true, true, true, true, true, false, false, false, false, false, false, false, false, false, false, false, false, false, false, false, false, false] rfl rfl (any_of HT_.out (by kernel_rfl)) (fun _ _ _ h => h) (Or.inl ⟨by rfl, ?_⟩) ?_ ?_
                  rotate_left
                  · intro w'
                    go_simp
                    with_reducible rfl
                  rotate_left
                  · simp only [Act.put, List.setIfInBounds_toArray, List.set_cons_zero, List.set_cons_succ, i64_w, i32_w]
                    rfl
                  refine pure_ (i := 11) (N := some 80) (v := ?_) (a' := ?_) #[true, true, true, true, true, true, true, true, true, false, false, true, false, false, false, false, false, false, false, false, false, false, false, false, false, false] rfl rfl (any_of HT_.out (by kernel_rfl)) (fun _ _ _ h => h) (Or.inl ⟨by rfl, ?_⟩) ?_ ?_
                  rotate_left
                  · intro w'
                    go_simp
                    with_reducible rfl
                  rotate_left
                  · simp only [Act.put, List.setIfInBounds_toArray, List.set_cons_zero, List.set_cons_succ, i64_w, i32_w]
                    rfl
                  refine take_ (i := 9) (N := some 78) (v := ?_) (a' := ?_) #[true, true, true, true, true, true, true, true, true, true, false, true, false, false, false, false, false, false, false, false, false, false, false, false, false, false] rfl rfl (take_ofW HT_.out HW_.out (by kernel_rfl)) (fun _ _ _ h => h) (Or.inl ⟨by rfl, ?_⟩) hHeld ?_ ?_
                  rotate_left
                  · rintro w' ⟨s0, s1, s2, s3⟩
                    go_simp
                    with_reducible rfl
                  rotate_left
                  · simp only [Act.put, List.setIfInBounds_toArray, List.set_cons_zero, List.set_cons_succ, i64_w, i32_w]
                    rfl
                  refine take_ (i := 10) (N := some 79) (v := ?_) (a' := ?_) #[true, true, true, true, true, true, true, true, true, true, true, true, false, false, false, false, false, false, false, false, false, false, false, false, false, false] rfl rfl (take_ofW HT_.out HW_.out (by kernel_rfl)) (fun _ _ _ h => h) (Or.inl ⟨by rfl, ?_⟩) hHeld ?_ ?_
                  rotate_left
                  · rintro w' ⟨s0, s1, s2, s3⟩
                    go_simp
                    with_reducible rfl
                  rotate_left
                  · simp only [Act.put, List.setIfInBounds_toArray, List.set_cons_zero, List.set_cons_succ, i64_w, i32_w]
                    rfl
                  refine one_ (i := 12) (N := some 81) #[true, true, true, true, true, true, true, true, true, true, true, true, true, false, false, false, false, false, false, false, false, false, false, false, false, false] rfl rfl (one_of HT_.out (by kernel_rfl)) (by decide) (fun K hK => ?_)
                  refine goes_ Try.func18 (by kernel_rfl) rfl #[.agg #[.slice Ao82 t181.length co82, .slice Ao85 t184.length co85], .int .i64 a1] (by rfl) rfl rfl (by (try simp only [List.map_toArray, List.map_cons, List.map_nil]); first | done | rfl | (simp only [List.length_drop, List.length_take]; rfl)) ?_
                  with_reducible refine (chancelref04_Drop.calls kj3 _ _ t181 _ _ t184 a1 t217 t220 _ ?side1 ?side2 ?side3 ?side4 A32.out).mono ?_
                  (case side1 => repeat (first|exact (Kd.V_reads' HO183.out).2.2|(with_reducible refine Kd.C_alloc ?_ _)|(with_reducible refine Kd.C_drewN ?_ _)|(with_reducible refine Kd.C_drew ?_)))
                  (case side2 => exact (Kd.V_reads' HO183.out).2.1)
                  (case side3 => repeat (first|exact (Kd.V_reads' HO186.out).2.2|(with_reducible refine Kd.C_alloc ?_ _)|(with_reducible refine Kd.C_drewN ?_ _)|(with_reducible refine Kd.C_drew ?_)))
                  (case side4 => exact (Kd.V_reads' HO186.out).2.1)
                  rintro e w104 ⟨v218, v221, rfl, ho0, ho1, hb⟩
                  refine ⟨_, rfl, ?_⟩
                  have n0_:=Aside0.mk (Kd.V_mono (Kd.V_told (Kd.V_told (Kd.V_old (by (with_reducible repeat (first|apply Kd.V_alloc|apply Kd.V_drewN|apply Kd.V_drew));exact HO177.out) hb) (Kd.R_base ho0)) (Kd.R_base ho1)) (fun _ h_ => h_.1))
                  have n1_:=Aside0.mk (Kd.V_mono (Kd.V_told (Kd.V_told (Kd.V_old (by (with_reducible repeat (first|apply Kd.V_alloc|apply Kd.V_drewN|apply Kd.V_drew));exact HO180.out) hb) (Kd.R_base ho0)) (Kd.R_base ho1)) (fun _ h_ => h_.1))
                  have n2_:=Aside0.mk (Kd.V_mono (Kd.V_told (Kd.V_told (Kd.V_old (by (with_reducible repeat (first|apply Kd.V_alloc|apply Kd.V_drewN|apply Kd.V_drew));exact HO183.out) hb) (Kd.R_base ho0)) (Kd.R_base ho1)) (fun _ h_ => h_.1))
                  have n3_:=Aside0.mk (Kd.V_mono (Kd.V_told (Kd.V_told (Kd.V_old (by (with_reducible repeat (first|apply Kd.V_alloc|apply Kd.V_drewN|apply Kd.V_drew));exact HO186.out) hb) (Kd.R_base ho0)) (Kd.R_base ho1)) (fun _ h_ => h_.1))
                  have n4_:=Aside0.mk (Kd.R_elder' (by (with_reducible repeat (first|apply Kd.R_alloc|apply Kd.R_drewN|apply Kd.R_drew));exact HO192.out) (Kd.R_base ho0) hb)
                  have n5_:=Aside0.mk (Kd.R_below (by (with_reducible repeat (first|apply Kd.R_alloc|apply Kd.R_drewN|apply Kd.R_drew));exact HO195.out) hb)
                  have n6_:=Aside0.mk (Kd.R_elder' (by (with_reducible repeat (first|apply Kd.R_alloc|apply Kd.R_drewN|apply Kd.R_drew));exact HO198.out) (Kd.R_base ho0) hb)
                  have n7_:=Aside0.mk (Kd.R_below (by (with_reducible repeat (first|apply Kd.R_alloc|apply Kd.R_drewN|apply Kd.R_drew));exact HO201.out) hb)
                  have n8_:=Aside0.mk (Kd.R_elder' (by (with_reducible repeat (first|apply Kd.R_alloc|apply Kd.R_drewN|apply Kd.R_drew));exact HO204.out) (Kd.R_base ho0) hb)
                  have n9_:=Aside0.mk (Kd.R_elder' (by (with_reducible repeat (first|apply Kd.R_alloc|apply Kd.R_drewN|apply Kd.R_drew));exact HO207.out) (Kd.R_base ho1) hb)
                  have n10_:=Aside0.mk (Kd.R_elder' (by (with_reducible repeat (first|apply Kd.R_alloc|apply Kd.R_drewN|apply Kd.R_drew));exact HO211.out) (Kd.R_base ho0) hb)
                  have n11_:=Aside0.mk (Kd.R_below (by (with_reducible repeat (first|apply Kd.R_alloc|apply Kd.R_drewN|apply Kd.R_drew));exact HO214.out) hb)
                  have n12_:=Aside0.mk (Kd.R_lower (Kd.R_new' (Kd.R_new' (Kd.R_new' (Kd.R_new' ho0 (Kd.R_lt (by (with_reducible repeat (first|apply Kd.R_alloc|apply Kd.R_drewN|apply Kd.R_drew));exact HO192.out))) (Kd.R_lt (by (with_reducible repeat (first|apply Kd.R_alloc|apply Kd.R_drewN|apply Kd.R_drew));exact HO198.out))) (Kd.R_lt (by (with_reducible repeat (first|apply Kd.R_alloc|apply Kd.R_drewN|apply Kd.R_drew));exact HO204.out))) (Kd.R_lt (by (with_reducible repeat (first|apply Kd.R_alloc|apply Kd.R_drewN|apply Kd.R_drew));exact HO211.out))) (below_size (by repeat (first|(with_reducible first|exact HB.out|apply below_alloc|apply pw_below_drewN|apply below_drew1|refine below_set ?_ GE161.out|refine below_set ?_ GE188.out|refine below_set ?_ GE189.out|refine below_set ?_ GE208.out)|exact HB.out))))
                  have n13_:=Aside0.mk (Kd.R_lower (Kd.R_new' ho1 (Kd.R_lt (by (with_reducible repeat (first|apply Kd.R_alloc|apply Kd.R_drewN|apply Kd.R_drew));exact HO207.out))) (below_size (by repeat (first|(with_reducible first|exact HB.out|apply below_alloc|apply pw_below_drewN|apply below_drew1|refine below_set ?_ GE161.out|refine below_set ?_ GE188.out|refine below_set ?_ GE189.out|refine below_set ?_ GE208.out)|exact HB.out))))
                  have n14_:=Aside0.mk (blk_below (g:=gb161) (o:=.cells #[.slice A0_0 l0_0.length c0_0, .slice A0_1 l0_1.length c0_1, .int .i64 a0_2, .int .i64 a0_3, .int .i64 a0_4] 33 (0, 0)) (by (with_reducible repeat (first|refine blk_drewN ?_ _|refine blk_drew ?_|refine blk_alloc ?_ _));exact BK161.out) hb)
                  have n15_:=Aside0.mk (blk_below (g:=gb188) (o:=.cells #[.slice Ao77 t175.length co77, .slice Ao81 t178.length co81] 28 (0, 0)) (by (with_reducible repeat (first|refine blk_drewN ?_ _|refine blk_drew ?_|refine blk_alloc ?_ _));exact BK188.out) hb)
                  have n16_:=Aside0.mk (blk_below (g:=gb189) (o:=.cells #[.slice Ao82 t181.length co82, .slice Ao85 t184.length co85] 30 (0, 0)) (by (with_reducible repeat (first|refine blk_drewN ?_ _|refine blk_drew ?_|refine blk_alloc ?_ _));exact BK189.out) hb)
                  have n17_:=Aside0.mk (blk_below (g:=gb208) (o:=.cells #[.slice Ao92 t202.length co92, .slice Ao97 t205.length co97] 28 (0, 0)) (by (with_reducible repeat (first|refine blk_drewN ?_ _|refine blk_drew ?_|refine blk_alloc ?_ _));exact BK208.out) hb)
                  have n18_:=Aside0.mk (below_step (by repeat (first|(with_reducible first|exact HB.out|apply below_alloc|apply pw_below_drewN|apply below_drew1|refine below_set ?_ GE161.out|refine below_set ?_ GE188.out|refine below_set ?_ GE189.out|refine below_set ?_ GE208.out)|exact HB.out)) hb)
                  clear HO177
                  clear HO180
                  clear HO183
                  clear HO186
                  clear HO192
                  clear HO195
                  clear HO198
                  clear HO201
                  clear HO204
                  clear HO207
                  clear HO211
                  clear HO214
                  clear BK161
                  clear BK188
                  clear BK189
                  clear BK208
                  clear HB
                  have HO177 := n0_
                  have HO180 := n1_
                  have HO183 := n2_
                  have HO186 := n3_
                  have HO192 := n4_
                  have HO195 := n5_
                  have HO198 := n6_
                  have HO201 := n7_
                  have HO204 := n8_
                  have HO207 := n9_
                  have HO211 := n10_
                  have HO214 := n11_
                  have HO219 := n12_
                  have HO222 := n13_
                  have BK161 := n14_
                  have BK188 := n15_
                  have BK189 := n16_
                  have BK208 := n17_
                  have HB := n18_
                  clear n0_ n1_ n2_ n3_ n4_ n5_ n6_ n7_ n8_ n9_ n10_ n11_ n12_ n13_ n14_ n15_ n16_ n17_ n18_
                  (try clear hb)
                  (try clear hb2)
                  (try clear hk)
                  (try clear hi)
                  (try clear ho0)
                  (try clear ho1)
                  obtain ⟨Ao105, co105, eo105⟩ := Kd.R_slice HO219.out
                  (first | subst eo105 | (injection eo105 with f1_ f2_ f3_; have f4_ := f1_.symm; have f5_ := f3_.symm; clear f1_ f2_ f3_; subst f4_; subst f5_))
                  obtain ⟨Ao106, co106, eo106⟩ := Kd.R_slice HO222.out
                  (first | subst eo106 | (injection eo106 with f1_ f2_ f3_; have f4_ := f1_.symm; have f5_ := f3_.symm; clear f1_ f2_ f3_; subst f4_; subst f5_))
                  refine hK.out _ _ ⟨(blk_cell BK208.out 0).trans rfl, (blk_cell BK208.out 1).trans rfl, (blk_cell BK189.out 0).trans rfl, (blk_cell BK189.out 1).trans rfl⟩ (fun hHeld => ?_)
                  clear hK K
                  refine norm_ (a' := ?_) ?_ ?_
                  rotate_left
                  · show Act.put _ (some 81) _ = _
                    simp only [Act.put, List.setIfInBounds_toArray, List.set_cons_zero, List.set_cons_succ, i64_w, i32_w]
                    rfl
                  refine one_ (i := 13) (N := some 82) #[true, true, true, true, true, true, true, true, true, true, true, true, true, true, false, false, false, false, false, false, false, false, false, false, false, false] rfl rfl (one_of HT_.out (by kernel_rfl)) (by decide) (fun K hK => ?_)
                  refine goes_ Try.func17 (by kernel_rfl) rfl #[.agg #[.slice Ao92 t202.length co92, .slice Ao97 t205.length co97], .agg #[.slice Ao105 t217.length co105, .slice Ao106 t220.length co106]] (by rfl) rfl rfl (by (try simp only [List.map_toArray, List.map_cons, List.map_nil]); first | done | rfl | (simp only [List.length_drop, List.length_take]; rfl)) ?_
                  with_reducible refine (chancellaw04_same.calls kj3 _ _ t202 _ _ t205 _ _ t217 _ _ t220 true _ ?side1 ?side2 ?side3 ?side4 ?side5 ?side6 ?side7 ?side8 A33.out).mono ?_
                  (case side1 => repeat (first|exact (Kd.R_reads' HO204.out).2.2|(with_reducible refine Kd.C_alloc ?_ _)|(with_reducible refine Kd.C_drewN ?_ _)|(with_reducible refine Kd.C_drew ?_)))
                  (case side2 => exact (Kd.R_reads' HO204.out).2.1)
                  (case side3 => repeat (first|exact (Kd.R_reads' HO207.out).2.2|(with_reducible refine Kd.C_alloc ?_ _)|(with_reducible refine Kd.C_drewN ?_ _)|(with_reducible refine Kd.C_drew ?_)))
                  (case side4 => exact (Kd.R_reads' HO207.out).2.1)
                  (case side5 => repeat (first|exact (Kd.R_reads' HO219.out).2.2|(with_reducible refine Kd.C_alloc ?_ _)|(with_reducible refine Kd.C_drewN ?_ _)|(with_reducible refine Kd.C_drew ?_)))
                  (case side6 => exact (Kd.R_reads' HO219.out).2.1)
                  (case side7 => repeat (first|exact (Kd.R_reads' HO222.out).2.2|(with_reducible refine Kd.C_alloc ?_ _)|(with_reducible refine Kd.C_drewN ?_ _)|(with_reducible refine Kd.C_drew ?_)))
                  (case side8 => exact (Kd.R_reads' HO222.out).2.1)
                  rintro e w107 ⟨rfl, hb⟩
                  refine ⟨_, rfl, ?_⟩
                  have n0_:=Aside0.mk (Kd.V_below (by (with_reducible repeat (first|apply Kd.V_alloc|apply Kd.V_drewN|apply Kd.V_drew));exact HO177.out) hb)
                  have n1_:=Aside0.mk (Kd.V_below (by (with_reducible repeat (first|apply Kd.V_alloc|apply Kd.V_drewN|apply Kd.V_drew));exact HO180.out) hb)
                  have n2_:=Aside0.mk (Kd.V_below (by (with_reducible repeat (first|apply Kd.V_alloc|apply Kd.V_drewN|apply Kd.V_drew));exact HO183.out) hb)
                  have n3_:=Aside0.mk (Kd.V_below (by (with_reducible repeat (first|apply Kd.V_alloc|apply Kd.V_drewN|apply Kd.V_drew));exact HO186.out) hb)
                  have n4_:=Aside0.mk (Kd.R_below (by (with_reducible repeat (first|apply Kd.R_alloc|apply Kd.R_drewN|apply Kd.R_drew));exact HO192.out) hb)
                  have n5_:=Aside0.mk (Kd.R_below (by (with_reducible repeat (first|apply Kd.R_alloc|apply Kd.R_drewN|apply Kd.R_drew));exact HO195.out) hb)
                  have n6_:=Aside0.mk (Kd.R_below (by (with_reducible repeat (first|apply Kd.R_alloc|apply Kd.R_drewN|apply Kd.R_drew));exact HO198.out) hb)
                  have n7_:=Aside0.mk (Kd.R_below (by (with_reducible repeat (first|apply Kd.R_alloc|apply Kd.R_drewN|apply Kd.R_drew));exact HO201.out) hb)
                  have n8_:=Aside0.mk (Kd.R_below (by (with_reducible repeat (first|apply Kd.R_alloc|apply Kd.R_drewN|apply Kd.R_drew));exact HO204.out) hb)
                  have n9_:=Aside0.mk (Kd.R_below (by (with_reducible repeat (first|apply Kd.R_alloc|apply Kd.R_drewN|apply Kd.R_drew));exact HO207.out) hb)
                  have n10_:=Aside0.mk (Kd.R_below (by (with_reducible repeat (first|apply Kd.R_alloc|apply Kd.R_drewN|apply Kd.R_drew));exact HO211.out) hb)
                  have n11_:=Aside0.mk (Kd.R_below (by (with_reducible repeat (first|apply Kd.R_alloc|apply Kd.R_drewN|apply Kd.R_drew));exact HO214.out) hb)
                  have n12_:=Aside0.mk (Kd.R_below (by (with_reducible repeat (first|apply Kd.R_alloc|apply Kd.R_drewN|apply Kd.R_drew));exact HO219.out) hb)
                  have n13_:=Aside0.mk (Kd.R_below (by (with_reducible repeat (first|apply Kd.R_alloc|apply Kd.R_drewN|apply Kd.R_drew));exact HO222.out) hb)
                  have n14_:=Aside0.mk (blk_below (g:=gb161) (o:=.cells #[.slice A0_0 l0_0.length c0_0, .slice A0_1 l0_1.length c0_1, .int .i64 a0_2, .int .i64 a0_3, .int .i64 a0_4] 33 (0, 0)) (by (with_reducible repeat (first|refine blk_drewN ?_ _|refine blk_drew ?_|refine blk_alloc ?_ _));exact BK161.out) hb)
                  have n15_:=Aside0.mk (blk_below (g:=gb188) (o:=.cells #[.slice Ao77 t175.length co77, .slice Ao81 t178.length co81] 28 (0, 0)) (by (with_reducible repeat (first|refine blk_drewN ?_ _|refine blk_drew ?_|refine blk_alloc ?_ _));exact BK188.out) hb)
                  have n16_:=Aside0.mk (blk_below (g:=gb189) (o:=.cells #[.slice Ao82 t181.length co82, .slice Ao85 t184.length co85] 30 (0, 0)) (by (with_reducible repeat (first|refine blk_drewN ?_ _|refine blk_drew ?_|refine blk_alloc ?_ _));exact BK189.out) hb)
                  have n17_:=Aside0.mk (blk_below (g:=gb208) (o:=.cells #[.slice Ao92 t202.length co92, .slice Ao97 t205.length co97] 28 (0, 0)) (by (with_reducible repeat (first|refine blk_drewN ?_ _|refine blk_drew ?_|refine blk_alloc ?_ _));exact BK208.out) hb)
                  have n18_:=Aside0.mk (below_step (by repeat (first|(with_reducible first|exact HB.out|apply below_alloc|apply pw_below_drewN|apply below_drew1|refine below_set ?_ GE161.out|refine below_set ?_ GE188.out|refine below_set ?_ GE189.out|refine below_set ?_ GE208.out)|exact HB.out)) hb)
                  clear HO177
                  clear HO180
                  clear HO183
                  clear HO186
                  clear HO192
                  clear HO195
                  clear HO198
                  clear HO201
                  clear HO204
                  clear HO207
                  clear HO211
                  clear HO214
                  clear HO219
                  clear HO222
                  clear BK161
                  clear BK188
                  clear BK189
                  clear BK208
                  clear HB
                  have HO177 := n0_
                  have HO180 := n1_
                  have HO183 := n2_
                  have HO186 := n3_
                  have HO192 := n4_
                  have HO195 := n5_
                  have HO198 := n6_
                  have HO201 := n7_
                  have HO204 := n8_
                  have HO207 := n9_
                  have HO211 := n10_
                  have HO214 := n11_
                  have HO219 := n12_
                  have HO222 := n13_
                  have BK161 := n14_
                  have BK188 := n15_
                  have BK189 := n16_
                  have BK208 := n17_
                  have HB := n18_
                  clear n0_ n1_ n2_ n3_ n4_ n5_ n6_ n7_ n8_ n9_ n10_ n11_ n12_ n13_ n14_ n15_ n16_ n17_ n18_
                  (try clear hb)
                  (try clear hb2)
                  (try clear hk)
                  (try clear hi)
                  obtain ⟨Ao108, co108, eo108⟩ := Kd.R_slice HO211.out
                  (first | subst eo108 | (injection eo108 with f1_ f2_ f3_; have f4_ := f1_.symm; have f5_ := f3_.symm; clear f1_ f2_ f3_; subst f4_; subst f5_))
                  refine hK.out _ _ ⟨(blk_cell BK208.out 0).trans rfl, (blk_cell BK208.out 1).trans rfl, (blk_cell BK189.out 0).trans rfl, (blk_cell BK189.out 1).trans rfl⟩ (fun hHeld => ?_)
                  clear hK K
                  refine norm_ (a' := ?_) ?_ ?_
                  rotate_left
                  · show Act.put _ (some 82) _ = _
                    simp only [Act.put, List.setIfInBounds_toArray, List.set_cons_zero, List.set_cons_succ, i64_w, i32_w]
                    rfl
                  refine pure_ (i := 14) (N := some 83) (v := ?_) (a' := ?_) #[true, true, true, true, true, true, true, true, true, true, true, true, true, true, true, false, false, false, false, false, false, false, false, false, false, false] rfl rfl (any_of HT_.out (by kernel_rfl)) (fun _ _ _ h => h) (Or.inl ⟨by rfl, ?_⟩) ?_ ?_
                  rotate_left
                  · intro w'
                    go_simp
                    with_reducible rfl
                  rotate_left
                  · simp only [Act.put, List.setIfInBounds_toArray, List.set_cons_zero, List.set_cons_succ, i64_w, i32_w]
                    rfl
                  refine pure_ (i := 15) (N := some 84) (v := ?_) (a' := ?_) #[true, true, true, true, true, true, true, true, true, true, true, true, true, true, true, true, false, false, false, false, false, false, false, false, false, false] rfl rfl (any_of HT_.out (by kernel_rfl)) (fun _ _ _ h => h) (Or.inl ⟨by rfl, ?_⟩) ?_ ?_
                  rotate_left
                  · intro w'
                    go_simp
                    with_reducible rfl
                  rotate_left
                  · simp only [Act.put, List.setIfInBounds_toArray, List.set_cons_zero, List.set_cons_succ, i64_w, i32_w]
                    rfl
                  refine pure_ (i := 16) (N := some 85) (v := ?_) (a' := ?_) #[true, true, true, true, true, true, true, true, true, true, true, true, true, true, true, true, true, false, false, false, false, false, false, false, false, false] rfl rfl (any_of HT_.out (by kernel_rfl)) (fun _ _ _ h => h) (Or.inl ⟨by rfl, ?_⟩) ?_ ?_
                  rotate_left
                  · intro w'
                    go_simp
                    with_reducible rfl
                  rotate_left
                  · simp only [Act.put, List.setIfInBounds_toArray, List.set_cons_zero, List.set_cons_succ, i64_w, i32_w]
                    rfl
                  refine pure_ (i := 17) (N := some 86) (v := ?_) (a' := ?_) #[true, true, true, true, true, true, true, true, true, true, true, true, true, true, true, true, true, true, false, false, false, false, false, false, false, false] rfl rfl (any_of HT_.out (by kernel_rfl)) (fun _ _ _ h => h) (Or.inl ⟨by rfl, ?_⟩) ?_ ?_
                  rotate_left
                  · intro w'
                    go_simp
                    with_reducible rfl
                  rotate_left
                  · simp only [Act.put, List.setIfInBounds_toArray, List.set_cons_zero, List.set_cons_succ, i64_w, i32_w]
                    rfl
                  refine pure_ (i := 18) (N := some 87) (v := ?_) (a' := ?_) #[true, true, true, true, true, true, true, true, true, true, true, true, true, true, true, true, true, true, true, false, false, false, false, false, false, false] rfl rfl (any_of HT_.out (by kernel_rfl)) (fun _ _ _ h => h) (Or.inl ⟨by rfl, ?_⟩) ?_ ?_
                  rotate_left
                  · intro w'
                    go_simp
                    with_reducible rfl
                  rotate_left
                  · simp only [Act.put, List.setIfInBounds_toArray, List.set_cons_zero, List.set_cons_succ, i64_w, i32_w]
                    rfl
                  refine pure_ (i := 19) (N := some 88) (v := ?_) (a' := ?_) #[true, true, true, true, true, true, true, true, true, true, true, true, true, true, true, true, true, true, true, true, false, false, false, false, false, false] rfl rfl (any_of HT_.out (by kernel_rfl)) (fun _ _ _ h => h) (Or.inl ⟨by rfl, ?_⟩) ?_ ?_
                  rotate_left
                  · intro w'
                    go_simp
                    with_reducible rfl
                  rotate_left
                  · simp only [Act.put, List.setIfInBounds_toArray, List.set_cons_zero, List.set_cons_succ, i64_w, i32_w]
                    rfl
                  refine pure_ (i := 20) (N := some 89) (v := ?_) (a' := ?_) #[true, true, true, true, true, true, true, true, true, true, true, true, true, true, true, true, true, true, true, true, true, false, false, false, false, false] rfl rfl (any_of HT_.out (by kernel_rfl)) (fun _ _ _ h => h) (Or.inl ⟨by rfl, ?_⟩) ?_ ?_
                  rotate_left
                  · intro w'
                    go_simp
                    with_reducible rfl
                  rotate_left
                  · simp only [Act.put, List.setIfInBounds_toArray, List.set_cons_zero, List.set_cons_succ, i64_w, i32_w]
                    rfl
                  refine pure_ (i := 21) (N := some 90) (v := undef) (a' := ?_) #[true, true, true, true, true, true, true, true, true, true, true, true, true, true, true, true, true, true, true, true, true, true, false, false, false, false] rfl rfl (any_of HT_.out (by kernel_rfl)) (fun _ _ _ h => h) (Or.inr ⟨by rfl, rfl⟩) ?_ ?_
                  rotate_left
                  · simp only [Act.put, List.setIfInBounds_toArray, List.set_cons_zero, List.set_cons_succ, i64_w, i32_w]
                    rfl
                  refine pure_ (i := 22) (N := some 91) (v := undef) (a' := ?_) #[true, true, true, true, true, true, true, true, true, true, true, true, true, true, true, true, true, true, true, true, true, true, true, false, false, false] rfl rfl (any_of HT_.out (by kernel_rfl)) (fun _ _ _ h => h) (Or.inr ⟨by rfl, rfl⟩) ?_ ?_
                  rotate_left
                  · simp only [Act.put, List.setIfInBounds_toArray, List.set_cons_zero, List.set_cons_succ, i64_w, i32_w]
                    rfl
                  refine pure_ (i := 23) (N := some 92) (v := undef) (a' := ?_) #[true, true, true, true, true, true, true, true, true, true, true, true, true, true, true, true, true, true, true, true, true, true, true, true, false, false] rfl rfl (any_of HT_.out (by kernel_rfl)) (fun _ _ _ h => h) (Or.inr ⟨by rfl, rfl⟩) ?_ ?_
                  rotate_left
                  · simp only [Act.put, List.setIfInBounds_toArray, List.set_cons_zero, List.set_cons_succ, i64_w, i32_w]
                    rfl
                  refine pure_ (i := 24) (N := some 93) (v := ?_) (a' := ?_) #[true, true, true, true, true, true, true, true, true, true, true, true, true, true, true, true, true, true, true, true, true, true, true, true, true, false] rfl rfl (any_of HT_.out (by kernel_rfl)) (fun _ _ _ h => h) (Or.inl ⟨by rfl, ?_⟩) ?_ ?_
                  rotate_left
                  · intro w'
                    go_simp
                    with_reducible rfl
                  rotate_left
                  · simp only [Act.put, List.setIfInBounds_toArray, List.set_cons_zero, List.set_cons_succ, i64_w, i32_w]
                    rfl
                  refine pure_ (i := 25) (N := some 4) (v := ?_) (a' := ?_) #[true, true, true, true, true, true, true, true, true, true, true, true, true, true, true, true, true, true, true, true, true, true, true, true, true, true] rfl rfl (any_of HT_.out (by kernel_rfl)) (fun _ _ _ h => h) (Or.inl ⟨by rfl, ?_⟩) ?_ ?_
                  rotate_left
                  · intro w'
                    go_simp
                    with_reducible rfl
                  rotate_left
                  · simp only [Act.put, List.setIfInBounds_toArray, List.set_cons_zero, List.set_cons_succ, i64_w, i32_w]
                    rfl
                  refine done_ (done_of HT_.out (by kernel_rfl)) ?_
                  try go_wp2
                  go_ret
                  exact ⟨by first|rfl|(simp [errW_none, errW_some] <;> rfl)|(simp [*, errW_none, errW_some] <;> rfl), by repeat (first|(with_reducible first|exact HB.out|apply below_alloc|apply pw_below_drewN|apply below_drew1|refine below_set ?_ GE161.out|refine below_set ?_ GE188.out|refine below_set ?_ GE189.out|refine below_set ?_ GE208.out)|exact HB.out)⟩
              · replace c34 := Bool.eq_false_iff.mpr c34
                subst c34
                have H1 : (some false) = some r := by rw [if_neg (show ¬ (false = true) by decide)] at H; exact H
                exact absurd ((Option.some.inj H1).trans hR_.out) (by decide)
            · replace c31 := Bool.eq_false_iff.mpr c31
              subst c31
              have H1 : (some false) = some r := by rw [if_neg (show ¬ (false = true) by decide)] at H; exact H
              exact absurd ((Option.some.inj H1).trans hR_.out) (by decide)
          · replace c29 := Bool.eq_false_iff.mpr c29
            subst c29
            have H1 : (some false) = some r := by rw [if_neg (show ¬ (false = true) by decide)] at H; exact H
            exact absurd ((Option.some.inj H1).trans hR_.out) (by decide)
        · replace c23 := Bool.eq_false_iff.mpr c23
          subst c23
          have H1 : (some true) = some r := by rw [if_neg (show ¬ (false = true) by decide)] at H; exact H
          clear H
          have H := H1
          clear H1
          obtain rfl := Option.some.inj H
          have hcz204_0 : wc.cell? ⟨gb161, 0, none⟩ = some (.slice A0_0 l0_0.length c0_0) := (blk_cell BK161.out 0).trans rfl
          have hcz204_1 : wc.cell? ⟨gb161, 1, none⟩ = some (.slice A0_1 l0_1.length c0_1) := (blk_cell BK161.out 1).trans rfl
          have hcz204_2 : wc.cell? ⟨gb161, 2, none⟩ = some (.int .i64 a0_2) := (blk_cell BK161.out 2).trans rfl
          have hcz204_3 : wc.cell? ⟨gb161, 3, none⟩ = some (.int .i64 a0_3) := (blk_cell BK161.out 3).trans rfl
          have hcz204_4 : wc.cell? ⟨gb161, 4, none⟩ = some (.int .i64 a0_4) := (blk_cell BK161.out 4).trans rfl
          have hfz204_0 := blk_frozen BK161.out 0
          have hfz204_1 := blk_frozen BK161.out 1
          have hfz204_2 := blk_frozen BK161.out 2
          have hfz204_3 := blk_frozen BK161.out 3
          have hfz204_4 := blk_frozen BK161.out 4
          go_wp2_with (first|((with_reducible refine gate_callee (f:=12) rfl ?_);refine goesL_ (some 42) rfl rfl Try.func12 (by kernel_rfl) rfl #[.agg #[.slice A0_0 l0_0.length c0_0, .slice A0_1 l0_1.length c0_1, .int .i64 a0_2, .int .i64 a0_3, .int .i64 a0_4]] rfl (by (try simp only [List.map_toArray, List.map_cons, List.map_nil]);first|done|rfl|(simp only [List.length_drop, List.length_take];rfl)) ?_;(with_reducible refine (chancellaw04_right.calls kj3 (fun k_ => k_ < w.heap.size) _ _ l0_0 (fun k_ => k_ < w.heap.size) _ _ l0_1 a0_2 a0_3 a0_4 t175 t178 t181 t184 false _ ?side1 ?side2 A22.out).mono ?_);(case side1 => exact Kd.V_mk HC0_0.out (Kd.F_below (Kd.C_F k26_heap HR0_0.out) (by repeat (first|(with_reducible first|exact HB.out|apply below_alloc|apply pw_below_drewN|apply below_drew1|refine below_set ?_ GE161.out)|exact HB.out))));(case side2 => exact Kd.V_mk HC0_1.out (Kd.F_below (Kd.C_F k38_heap HR0_1.out) (by repeat (first|(with_reducible first|exact HB.out|apply below_alloc|apply pw_below_drewN|apply below_drew1|refine below_set ?_ GE161.out)|exact HB.out))));rintro e w205 ⟨v176, v179, v182, v185, rfl, ho0, ho1, ho2, ho3, hb⟩;refine ⟨_, rfl, ?_⟩;have n0_:=Aside0.mk (Kd.V_lower (Kd.V_mono (ok':=fun k_ => k_ ≠ gb161) ho0 (fun k_ hk_ => Or.elim hk_ (fun hs_ => Or.elim hs_ (fun hs_ => fun e_ => Nat.not_le.2 hs_ (by rw [e_];exact GW161.out)) (fun hs_ => fun e_ => Nat.not_le.2 hs_ (by rw [e_];exact GW161.out))) (fun hn_ => (Kd.freshB (g:=gb161) (o:=.cells #[.slice A0_0 l0_0.length c0_0, .slice A0_1 l0_1.length c0_1, .int .i64 a0_2, .int .i64 a0_3, .int .i64 a0_4] 33 (0, 0)) (by (with_reducible repeat (first|refine blk_drewN ?_ _|refine blk_drew ?_|refine blk_alloc ?_ _));exact BK161.out) k_ hn_)))) (below_size (by repeat (first|(with_reducible first|exact HB.out|apply below_alloc|apply pw_below_drewN|apply below_drew1|refine below_set ?_ GE161.out)|exact HB.out))));have n1_:=Aside0.mk (Kd.V_lower (Kd.V_mono (ok':=fun k_ => k_ ≠ gb161) ho1 (fun k_ hk_ => Or.elim hk_ (fun hs_ => Or.elim hs_ (fun hs_ => fun e_ => Nat.not_le.2 hs_ (by rw [e_];exact GW161.out)) (fun hs_ => fun e_ => Nat.not_le.2 hs_ (by rw [e_];exact GW161.out))) (fun hn_ => (Kd.freshB (g:=gb161) (o:=.cells #[.slice A0_0 l0_0.length c0_0, .slice A0_1 l0_1.length c0_1, .int .i64 a0_2, .int .i64 a0_3, .int .i64 a0_4] 33 (0, 0)) (by (with_reducible repeat (first|refine blk_drewN ?_ _|refine blk_drew ?_|refine blk_alloc ?_ _));exact BK161.out) k_ hn_)))) (below_size (by repeat (first|(with_reducible first|exact HB.out|apply below_alloc|apply pw_below_drewN|apply below_drew1|refine below_set ?_ GE161.out)|exact HB.out))));have n2_:=Aside0.mk (Kd.V_lower (Kd.V_mono (ok':=fun k_ => k_ ≠ gb161) ho2 (fun k_ hk_ => Or.elim hk_ (fun hs_ => Or.elim hs_ (fun hs_ => fun e_ => Nat.not_le.2 hs_ (by rw [e_];exact GW161.out)) (fun hs_ => fun e_ => Nat.not_le.2 hs_ (by rw [e_];exact GW161.out))) (fun hn_ => (Kd.freshB (g:=gb161) (o:=.cells #[.slice A0_0 l0_0.length c0_0, .slice A0_1 l0_1.length c0_1, .int .i64 a0_2, .int .i64 a0_3, .int .i64 a0_4] 33 (0, 0)) (by (with_reducible repeat (first|refine blk_drewN ?_ _|refine blk_drew ?_|refine blk_alloc ?_ _));exact BK161.out) k_ hn_)))) (below_size (by repeat (first|(with_reducible first|exact HB.out|apply below_alloc|apply pw_below_drewN|apply below_drew1|refine below_set ?_ GE161.out)|exact HB.out))));have n3_:=Aside0.mk (Kd.V_lower (Kd.V_mono (ok':=fun k_ => k_ ≠ gb161) ho3 (fun k_ hk_ => Or.elim hk_ (fun hs_ => Or.elim hs_ (fun hs_ => fun e_ => Nat.not_le.2 hs_ (by rw [e_];exact GW161.out)) (fun hs_ => fun e_ => Nat.not_le.2 hs_ (by rw [e_];exact GW161.out))) (fun hn_ => (Kd.freshB (g:=gb161) (o:=.cells #[.slice A0_0 l0_0.length c0_0, .slice A0_1 l0_1.length c0_1, .int .i64 a0_2, .int .i64 a0_3, .int .i64 a0_4] 33 (0, 0)) (by (with_reducible repeat (first|refine blk_drewN ?_ _|refine blk_drew ?_|refine blk_alloc ?_ _));exact BK161.out) k_ hn_)))) (below_size (by repeat (first|(with_reducible first|exact HB.out|apply below_alloc|apply pw_below_drewN|apply below_drew1|refine below_set ?_ GE161.out)|exact HB.out))));have n4_:=Aside0.mk (blk_below (g:=gb161) (o:=.cells #[.slice A0_0 l0_0.length c0_0, .slice A0_1 l0_1.length c0_1, .int .i64 a0_2, .int .i64 a0_3, .int .i64 a0_4] 33 (0, 0)) (by (with_reducible repeat (first|refine blk_drewN ?_ _|refine blk_drew ?_|refine blk_alloc ?_ _));exact BK161.out) hb);have n5_:=Aside0.mk (below_step (by repeat (first|(with_reducible first|exact HB.out|apply below_alloc|apply pw_below_drewN|apply below_drew1|refine below_set ?_ GE161.out)|exact HB.out)) hb);clear BK161;clear HB;have HO177:=n0_;have HO180:=n1_;have HO183:=n2_;have HO186:=n3_;have BK161:=n4_;have HB:=n5_;clear n0_ n1_ n2_ n3_ n4_ n5_;(try clear hb);(try clear hb2);(try clear hk);(try clear hi);(try clear ho0);(try clear ho1);(try clear ho2);(try clear ho3))|((with_reducible refine gate_dst (N:=7) rfl ?_);(try (refine gate_guard (by rfl) ?_;dsimp only));refine box_event ?hg (N:=7) ?hd (cs:=#[.slice none 0 0, .slice none 0 0]) (t:=28) ?hr ?_;(case hd => rfl);(case hg => rfl);(case hr => first|(go_simp;done)|(go_simp;rfl));intro gb188 hg w206 hbox hb;have n0_:=Aside0.mk (Kd.V_below (Kd.V_elderB (by (with_reducible repeat (first|apply Kd.V_alloc|apply Kd.V_drewN|apply Kd.V_drew));exact HO177.out) gb188 (Nat.le_of_eq hg.symm)) hb);have n1_:=Aside0.mk (Kd.V_below (Kd.V_elderB (by (with_reducible repeat (first|apply Kd.V_alloc|apply Kd.V_drewN|apply Kd.V_drew));exact HO180.out) gb188 (Nat.le_of_eq hg.symm)) hb);have n2_:=Aside0.mk (Kd.V_below (Kd.V_elderB (by (with_reducible repeat (first|apply Kd.V_alloc|apply Kd.V_drewN|apply Kd.V_drew));exact HO183.out) gb188 (Nat.le_of_eq hg.symm)) hb);have n3_:=Aside0.mk (Kd.V_below (Kd.V_elderB (by (with_reducible repeat (first|apply Kd.V_alloc|apply Kd.V_drewN|apply Kd.V_drew));exact HO186.out) gb188 (Nat.le_of_eq hg.symm)) hb);have n4_:=Aside0.mk (blk_below (g:=gb161) (o:=.cells #[.slice A0_0 l0_0.length c0_0, .slice A0_1 l0_1.length c0_1, .int .i64 a0_2, .int .i64 a0_3, .int .i64 a0_4] 33 (0, 0)) (by (with_reducible repeat (first|refine blk_drewN ?_ _|refine blk_drew ?_|refine blk_alloc ?_ _));exact BK161.out) hb);have n5_:=Aside0.mk (below_step (by repeat (first|(with_reducible first|exact HB.out|apply below_alloc|apply pw_below_drewN|apply below_drew1|refine below_set ?_ GE161.out)|exact HB.out)) hb);have n6_:=Aside0.mk (hbox);have n7_:=Aside0.mk ((by rw [hg];exact (below_size (by repeat (first|(with_reducible first|exact HB.out|apply below_alloc|apply pw_below_drewN|apply below_drew1|refine below_set ?_ GE161.out)|exact HB.out))) : w.heap.size ≤ gb188));have n8_:=Aside0.mk ((by rw [hg];exact (below_size (by repeat (first|(with_reducible first|exact HB.out|apply below_alloc|apply pw_below_drewN|apply below_drew1|refine below_set ?_ GE161.out)|exact HB.out))) : w.heap.size ≤ gb188));have n9_:=Aside0.mk ((by rw [hg];exact Nat.ne_of_lt (blk_lt (g:=gb161) (o:=.cells #[.slice A0_0 l0_0.length c0_0, .slice A0_1 l0_1.length c0_1, .int .i64 a0_2, .int .i64 a0_3, .int .i64 a0_4] 33 (0, 0)) (by (with_reducible repeat (first|refine blk_drewN ?_ _|refine blk_drew ?_|refine blk_alloc ?_ _));exact BK161.out)) : gb161 ≠ gb188));have n10_:=Aside0.mk ((by rw [hg];exact Nat.ne_of_gt (blk_lt (g:=gb161) (o:=.cells #[.slice A0_0 l0_0.length c0_0, .slice A0_1 l0_1.length c0_1, .int .i64 a0_2, .int .i64 a0_3, .int .i64 a0_4] 33 (0, 0)) (by (with_reducible repeat (first|refine blk_drewN ?_ _|refine blk_drew ?_|refine blk_alloc ?_ _));exact BK161.out)) : gb188 ≠ gb161));clear HO177;clear HO180;clear HO183;clear HO186;clear BK161;clear HB;have HO177:=n0_;have HO180:=n1_;have HO183:=n2_;have HO186:=n3_;have BK161:=n4_;have HB:=n5_;have BK188:=n6_;have GW188:=n7_;have GE188:=n8_;have NB161_188:=n9_;have NB188_161:=n10_;clear n0_ n1_ n2_ n3_ n4_ n5_ n6_ n7_ n8_ n9_ n10_;clear hb hbox hg)|((with_reducible refine gate_dst (N:=8) rfl ?_);(try (refine gate_guard (by rfl) ?_;dsimp only));refine box_event ?hg (N:=8) ?hd (cs:=#[.slice none 0 0, .slice none 0 0]) (t:=30) ?hr ?_;(case hd => rfl);(case hg => rfl);(case hr => first|(go_simp;done)|(go_simp;rfl));intro gb189 hg w207 hbox hb;have n0_:=Aside0.mk (Kd.V_below (Kd.V_elderB (by (with_reducible repeat (first|apply Kd.V_alloc|apply Kd.V_drewN|apply Kd.V_drew));exact HO177.out) gb189 (Nat.le_of_eq hg.symm)) hb);have n1_:=Aside0.mk (Kd.V_below (Kd.V_elderB (by (with_reducible repeat (first|apply Kd.V_alloc|apply Kd.V_drewN|apply Kd.V_drew));exact HO180.out) gb189 (Nat.le_of_eq hg.symm)) hb);have n2_:=Aside0.mk (Kd.V_below (Kd.V_elderB (by (with_reducible repeat (first|apply Kd.V_alloc|apply Kd.V_drewN|apply Kd.V_drew));exact HO183.out) gb189 (Nat.le_of_eq hg.symm)) hb);have n3_:=Aside0.mk (Kd.V_below (Kd.V_elderB (by (with_reducible repeat (first|apply Kd.V_alloc|apply Kd.V_drewN|apply Kd.V_drew));exact HO186.out) gb189 (Nat.le_of_eq hg.symm)) hb);have n4_:=Aside0.mk (blk_below (g:=gb161) (o:=.cells #[.slice A0_0 l0_0.length c0_0, .slice A0_1 l0_1.length c0_1, .int .i64 a0_2, .int .i64 a0_3, .int .i64 a0_4] 33 (0, 0)) (by (with_reducible repeat (first|refine blk_drewN ?_ _|refine blk_drew ?_|refine blk_alloc ?_ _));exact BK161.out) hb);have n5_:=Aside0.mk (blk_below (g:=gb188) (o:=.cells #[.slice none 0 0, .slice none 0 0] 28 (0, 0)) (by (with_reducible repeat (first|refine blk_drewN ?_ _|refine blk_drew ?_|refine blk_alloc ?_ _));exact BK188.out) hb);have n6_:=Aside0.mk (below_step (by repeat (first|(with_reducible first|exact HB.out|apply below_alloc|apply pw_below_drewN|apply below_drew1|refine below_set ?_ GE161.out|refine below_set ?_ GE188.out)|exact HB.out)) hb);have n7_:=Aside0.mk (hbox);have n8_:=Aside0.mk ((by rw [hg];exact (below_size (by repeat (first|(with_reducible first|exact HB.out|apply below_alloc|apply pw_below_drewN|apply below_drew1|refine below_set ?_ GE161.out|refine below_set ?_ GE188.out)|exact HB.out))) : w.heap.size ≤ gb189));have n9_:=Aside0.mk ((by rw [hg];exact (below_size (by repeat (first|(with_reducible first|exact HB.out|apply below_alloc|apply pw_below_drewN|apply below_drew1|refine below_set ?_ GE161.out|refine below_set ?_ GE188.out)|exact HB.out))) : w.heap.size ≤ gb189));have n10_:=Aside0.mk ((by rw [hg];exact Nat.ne_of_lt (blk_lt (g:=gb161) (o:=.cells #[.slice A0_0 l0_0.length c0_0, .slice A0_1 l0_1.length c0_1, .int .i64 a0_2, .int .i64 a0_3, .int .i64 a0_4] 33 (0, 0)) (by (with_reducible repeat (first|refine blk_drewN ?_ _|refine blk_drew ?_|refine blk_alloc ?_ _));exact BK161.out)) : gb161 ≠ gb189));have n11_:=Aside0.mk ((by rw [hg];exact Nat.ne_of_gt (blk_lt (g:=gb161) (o:=.cells #[.slice A0_0 l0_0.length c0_0, .slice A0_1 l0_1.length c0_1, .int .i64 a0_2, .int .i64 a0_3, .int .i64 a0_4] 33 (0, 0)) (by (with_reducible repeat (first|refine blk_drewN ?_ _|refine blk_drew ?_|refine blk_alloc ?_ _));exact BK161.out)) : gb189 ≠ gb161));have n12_:=Aside0.mk ((by rw [hg];exact Nat.ne_of_lt (blk_lt (g:=gb188) (o:=.cells #[.slice none 0 0, .slice none 0 0] 28 (0, 0)) (by (with_reducible repeat (first|refine blk_drewN ?_ _|refine blk_drew ?_|refine blk_alloc ?_ _));exact BK188.out)) : gb188 ≠ gb189));have n13_:=Aside0.mk ((by rw [hg];exact Nat.ne_of_gt (blk_lt (g:=gb188) (o:=.cells #[.slice none 0 0, .slice none 0 0] 28 (0, 0)) (by (with_reducible repeat (first|refine blk_drewN ?_ _|refine blk_drew ?_|refine blk_alloc ?_ _));exact BK188.out)) : gb189 ≠ gb188));clear HO177;clear HO180;clear HO183;clear HO186;clear BK161;clear BK188;clear HB;have HO177:=n0_;have HO180:=n1_;have HO183:=n2_;have HO186:=n3_;have BK161:=n4_;have BK188:=n5_;have HB:=n6_;have BK189:=n7_;have GW189:=n8_;have GE189:=n9_;have NB161_189:=n10_;have NB189_161:=n11_;have NB188_189:=n12_;have NB189_188:=n13_;clear n0_ n1_ n2_ n3_ n4_ n5_ n6_ n7_ n8_ n9_ n10_ n11_ n12_ n13_;clear hb hbox hg;obtain ⟨Ao208, co208, eo208⟩:=Kd.V_slice HO177.out;subst eo208;have hnb209:=NB188_161.out;have hnc209:=NB161_188.out;have hnb210:=NB188_189.out;have hnc210:=NB189_188.out;have hcz211_0 : w207.cell? ⟨gb188, 0, none⟩ = some (.slice none 0 0):=(blk_cell BK188.out 0).trans rfl;have hcz211_1 : w207.cell? ⟨gb188, 1, none⟩ = some (.slice none 0 0):=(blk_cell BK188.out 1).trans rfl;have hfz211_0:=blk_frozen BK188.out 0;have hfz211_1:=blk_frozen BK188.out 1;obtain ⟨Ao212, co212, eo212⟩:=Kd.V_slice HO180.out;subst eo212;obtain ⟨Ao213, co213, eo213⟩:=Kd.V_slice HO183.out;subst eo213;have hnb214:=NB189_161.out;have hnc214:=NB161_189.out;have hcz215_0 : w207.cell? ⟨gb189, 0, none⟩ = some (.slice none 0 0):=(blk_cell BK189.out 0).trans rfl;have hcz215_1 : w207.cell? ⟨gb189, 1, none⟩ = some (.slice none 0 0):=(blk_cell BK189.out 1).trans rfl;have hfz215_0:=blk_frozen BK189.out 0;have hfz215_1:=blk_frozen BK189.out 1;obtain ⟨Ao216, co216, eo216⟩:=Kd.V_slice HO186.out;subst eo216))
          go_ret
          exact ⟨by first|rfl|(simp [errW_none, errW_some] <;> rfl)|(simp [*, errW_none, errW_some] <;> rfl), by repeat (first|(with_reducible first|exact HB.out|apply below_alloc|apply pw_below_drewN|apply below_drew1|refine below_set ?_ GE161.out|refine below_set ?_ GE188.out|refine below_set ?_ GE189.out)|exact HB.out)⟩

end Go.Proofs.Ytdgjjdpeaohebaa.PMarksDrop
