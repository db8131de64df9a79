-- Written by a program of this session around the given print (and over contracts of this session): not checked by anybody but Lean.
import Derived.Test.YtjphmebhofkhcaaDoorPSegAllx0
import Derived.Test.YtjphmebhofkhcaaDoorPSegAllx1
import Derived.Test.YtjphmebhofkhcaaDoorPSegAllx2
namespace Go.Proofs.YtjphmebhofkhcaaDoor.PSegAll
open Go.RowKit Go.Proofs.YtjphmebhofkhcaaDoorW.PrintWords Go.Proofs.YtjphmebhofkhcaaDoorW.PrintLast Go.Proofs.YtjphmebhofkhcaaDoorW.PrintMore
attribute [local go_sem] max2_int min2_int max_two min_two max_three min_three max_four min_four   -- for this text's walks alone
set_option linter.unusedVariables false
set_option linter.unusedSimpArgs false

attribute [local go_sem high] eqA67 eqA70
-- NOT PRINTED: function 15 (segment_Segment_Rope)

-- NOT PRINTED: function 105 (abi_NoEscape)

-- NOT PRINTED: function 92 (strings_Builder_copyCheck)

-- NOT PRINTED: function 106 (bytealg_MakeNoZero)

-- NOT PRINTED: function 93 (strings_Builder_grow)

-- NOT PRINTED: function 72 (strings_Builder_Grow)

-- NOT PRINTED: function 73 (strings_Builder_WriteString)

-- NOT PRINTED: function 74 (strings_Builder_String)

-- NOT PRINTED: function 45 (strings_Join)

-- NOT PRINTED: function 46 (rope_Rope_Parts)

-- NOT PRINTED: function 16 (rope_Rope_Text)

-- NOT PRINTED: function 33 (api_Span_33)

-- NOT PRINTED: function 34 (api_Site_34)

-- NOT PRINTED: function 21 (segment_Segment_Plain)

-- NOT PRINTED: function 22 (segment_Segment_Id)

-- NOT PRINTED: function 23 (segment_Segment_Label)

/-! ### chancelref04_Same: function 60 -/

/-! ### chancelref05_Same: function 30 -/

-- NOT PRINTED: function 8 (chancellaw05_has)

-- NOT PRINTED: function 36 (rope_Rope_Len)

-- NOT PRINTED: function 41 (rope_Rope_Bytes)

-- NOT PRINTED: function 42 (segment_Segment_clamp)

/-! ### marks_add: function 67 -/
def marks_add.f (l0 : List (S67)) (a1_0 : Int) (a1_1 : Int) (a1_2 : Int) : Option ((List (S67))) := if a1_1 ≥ a1_2 then (some l0) else (if (l0.length : Int) > 0 then (if 0 ≤ (wrap64 ((l0.length : Int) - 1)) then (if (wrap64 ((l0.length : Int) - 1)) < (l0.length : Int) then (if ((rd_T67 l0 (wrap64 ((l0.length : Int) - 1))).f2) = a1_1 then (if ((rd_T67 l0 (wrap64 ((l0.length : Int) - 1))).f0) = a1_0 then (some (l0.set ((wrap64 ((l0.length : Int) - 1)) : Int).toNat (⟨(rd_T67 l0 (wrap64 ((l0.length : Int) - 1))).f0, (rd_T67 l0 (wrap64 ((l0.length : Int) - 1))).f1, a1_2⟩ : S67))) else (if l0.length < 5864062014805 then (some (l0 ++ [(⟨a1_0, a1_1, a1_2⟩ : S67)])) else (none))) else (if l0.length < 5864062014805 then (some (l0 ++ [(⟨a1_0, a1_1, a1_2⟩ : S67)])) else (none))) else (none)) else (none)) else (if l0.length < 5864062014805 then (some (l0 ++ [(⟨a1_0, a1_1, a1_2⟩ : S67)])) else (none)))
set_option maxHeartbeats 8000000 in
set_option maxRecDepth 100000 in
theorem marks_add.calls (P0_ : Nat → Prop) (u9000_ : Value) (l0 : List (S67)) (a1_0 : Int) (a1_1 : Int) (a1_2 : Int) (r : List (S67)) (w0 w : World) (hB : Below w0.heap.size w0 w) (ho0 : Kd.R k67 67 w w0.heap.size P0_ u9000_ l0) (h : marks_add.f l0 a1_0 a1_1 a1_2 = some r) :
  Calls Tryd.prog 67 #[u9000_, .agg #[.int .i64 a1_0, .int .i64 a1_1, .int .i64 a1_2]] w fun e w' => ∃ v0_ : Value, e = .returned (v0_) ∧ Kd.R k67 67 w' w0.heap.size (fun k_ => (P0_ k_ ∨ w.heap.size ≤ k_)) v0_ r ∧ Below w0.heap.size w0 w' ∧ Kept w w' (fun k_ => P0_ k_) := by
 have hu67 := Tryd.underlying67
 have HO0 := Aside0.mk (show Kd.R k67 67 w w0.heap.size (fun k_ => (P0_ k_ ∨ w.heap.size ≤ k_)) u9000_ l0 from Kd.R_mono ho0 (fun k_ hk => (.inl hk)))
 have HK := Aside0.mk (Kept.refl w (fun k_ => P0_ k_))
 have HW0 := Aside0.mk hB.size
 have HB := Aside0.mk hB
 clear hB
 have H : (if a1_1 ≥ a1_2 then (some l0) else (if (l0.length : Int) > 0 then (if 0 ≤ (wrap64 ((l0.length : Int) - 1)) then (if (wrap64 ((l0.length : Int) - 1)) < (l0.length : Int) then (if ((rd_T67 l0 (wrap64 ((l0.length : Int) - 1))).f2) = a1_1 then (if ((rd_T67 l0 (wrap64 ((l0.length : Int) - 1))).f0) = a1_0 then (some (l0.set ((wrap64 ((l0.length : Int) - 1)) : Int).toNat (⟨(rd_T67 l0 (wrap64 ((l0.length : Int) - 1))).f0, (rd_T67 l0 (wrap64 ((l0.length : Int) - 1))).f1, a1_2⟩ : S67))) else (if l0.length < 5864062014805 then (some (l0 ++ [(⟨a1_0, a1_1, a1_2⟩ : S67)])) else (none))) else (if l0.length < 5864062014805 then (some (l0 ++ [(⟨a1_0, a1_1, a1_2⟩ : S67)])) else (none))) else (none)) else (none)) else (if l0.length < 5864062014805 then (some (l0 ++ [(⟨a1_0, a1_1, a1_2⟩ : S67)])) else (none)))) = some r := h
 clear h
 by_cases c3 : a1_1 ≥ a1_2
 ·rw [if_pos c3] at H
  have c3b0 : decide (a1_2 ≤ a1_1) = true := decide_eq_true c3
  clear c3
  obtain rfl := Option.some.inj H
  go_enter Tryd.func67, Tryd.ntmps67
  go_wp2_with (first|((with_reducible refine gate_dst (N:=3) rfl ?_);refine box_event ?hg (N:=3) ?hd (cs:=#[.int .i64 a1_0, .int .i64 a1_1, .int .i64 a1_2]) (t:=67) ?hr ?_;(case hd => rfl);(case hg => rfl);(case hr => first|(go_simp;done)|(go_simp;rfl));intro gb109 hg w4 hbox hb;have n0_:=Aside0.mk (Kd.R_below (Kd.R_elderB (by (with_reducible repeat (first|apply Kd.R_alloc|apply Kd.R_drewN|apply Kd.R_drew));exact HO0.out) gb109 (Nat.le_of_eq hg.symm)) hb);have n1_:=Aside0.mk (Kept.below (S:=(fun k_ => P0_ k_)) (by repeat (first|(with_reducible first|exact HK.out|apply Kept.alloc|apply Kept.drewN|apply Kept.drew)|exact HK.out)) hb);have n2_:=Aside0.mk (below_step (by repeat (first|(with_reducible first|exact HB.out|apply below_alloc|apply pw_below_drewN|apply below_drew1)|exact HB.out)) hb);have n3_:=Aside0.mk (hbox);have n4_:=Aside0.mk ((by rw [hg];exact (by first|exact HK.out.1|exact (show Kept w _ (fun k_ => P0_ k_) from by repeat (first|(with_reducible first|exact HK.out|apply Kept.alloc|apply Kept.drewN|apply Kept.drew)|exact HK.out)).1) : w.heap.size ≤ gb109));have n5_:=Aside0.mk ((by rw [hg];exact (below_size (by repeat (first|(with_reducible first|exact HB.out|apply below_alloc|apply pw_below_drewN|apply below_drew1)|exact HB.out))) : w0.heap.size ≤ gb109));clear HO0;clear HK;clear HB;have HO0:=n0_;have HK:=n1_;have HB:=n2_;have BK109:=n3_;have GW109:=n4_;have GE109:=n5_;clear n0_ n1_ n2_ n3_ n4_ n5_;clear hb hbox hg;have hcz5_0 : w4.cell? ⟨gb109, 0, none⟩ = some (.int .i64 a1_0):=(blk_cell BK109.out 0).trans rfl;have hcz5_1 : w4.cell? ⟨gb109, 1, none⟩ = some (.int .i64 a1_1):=(blk_cell BK109.out 1).trans rfl;have hcz5_2 : w4.cell? ⟨gb109, 2, none⟩ = some (.int .i64 a1_2):=(blk_cell BK109.out 2).trans rfl;have hfz5_0:=blk_frozen BK109.out 0;have hfz5_1:=blk_frozen BK109.out 1;have hfz5_2:=blk_frozen BK109.out 2))
  go_ret
  exact ⟨_, by first|rfl|(simp [errW_none, errW_some] <;> rfl)|(simp [*, errW_none, errW_some] <;> rfl), by (with_reducible repeat (first|apply Kd.R_alloc|apply Kd.R_drewN|apply Kd.R_drew));exact Kd.R_mono HO0.out (fun _ hk => hk.1), by repeat (first|(with_reducible first|exact HB.out|apply below_alloc|apply pw_below_drewN|apply below_drew1|refine below_set ?_ GE109.out)|exact HB.out), by repeat (first|(with_reducible first|exact HK.out|apply Kept.alloc|apply Kept.drewN|apply Kept.drew|refine Kept.setCell ?_ (.inr GW109.out) _)|exact HK.out)⟩
 ·rw [if_neg c3] at H
  have c3b0 : decide (a1_2 ≤ a1_1) = false := decide_eq_false c3
  clear c3
  by_cases c6 : (l0.length : Int) > 0
  ·rw [if_pos c6] at H
   have c6b0 : decide (0 < (l0.length : Int)) = true := decide_eq_true c6
   have c6b1 : decide (0 < l0.length) = true := decide_eq_true (by omega)
   clear c6
   obtain ⟨ji7, hji7⟩ : ∃ j_ : Int, (wrap64 ((l0.length : Int) - 1)) = j_ := ⟨_, rfl⟩
   replace H : (if 0 ≤ (ji7) then (if (ji7) < (l0.length : Int) then (if ((rd_T67 l0 (ji7)).f2) = a1_1 then (if ((rd_T67 l0 (ji7)).f0) = a1_0 then (some (l0.set ((ji7) : Int).toNat (⟨(rd_T67 l0 (ji7)).f0, (rd_T67 l0 (ji7)).f1, a1_2⟩ : S67))) else (if l0.length < 5864062014805 then (some (l0 ++ [(⟨a1_0, a1_1, a1_2⟩ : S67)])) else (none))) else (if l0.length < 5864062014805 then (some (l0 ++ [(⟨a1_0, a1_1, a1_2⟩ : S67)])) else (none))) else (none)) else (none)) = some r := by first | (rw [hji7] at H; exact H) | (simp only [hji7] at H ⊢; exact H)
   have hji7w : (IntKind.i64.wrap ((l0.length : Int) - 1)) = ji7 := (i64_w _).trans hji7
   by_cases c8 : 0 ≤ (ji7)
   ·rw [if_pos c8] at H
    have c8b0 : decide (0 ≤ (ji7)) = true := decide_eq_true c8
    clear c8
    by_cases c9 : (ji7) < (l0.length : Int)
    ·rw [if_pos c9] at H
     have c9b0 : decide ((ji7) < (l0.length : Int)) = true := decide_eq_true c9
     clear c9
     by_cases c10 : ((rd_T67 l0 (ji7)).f2) = a1_1
     ·rw [if_pos c10] at H
      have c10b0 : (((rd_T67 l0 (ji7)).f2) == a1_1) = true := beq_iff_eq.mpr c10
      have c10b1 : (((rd_T67 l0 (ji7)).f2) != a1_1) = false := bne_eq_false_iff_eq.mpr c10
      clear c10
      by_cases c11 : ((rd_T67 l0 (ji7)).f0) = a1_0
      ·rw [if_pos c11] at H
       have c11b0 : (((rd_T67 l0 (ji7)).f0) == a1_0) = true := beq_iff_eq.mpr c11
       have c11b1 : (((rd_T67 l0 (ji7)).f0) != a1_0) = false := bne_eq_false_iff_eq.mpr c11
       clear c11
       obtain ⟨y112, hy112⟩ : ∃ y_ : List (S67), y_ = (l0.set ((ji7) : Int).toNat (⟨(rd_T67 l0 (ji7)).f0, (rd_T67 l0 (ji7)).f1, a1_2⟩ : S67)) := ⟨_, rfl⟩
       replace H : (some y112) = some r:=by first|(rw [hy112];with_reducible exact H)|(have H2_:=(Option.bind_some _ _).symm.trans H;rw [hy112];with_reducible exact H2_)|(have H2_:=(Option.bind_some _ _).symm.trans H;with_reducible exact H2_)|with_reducible exact H|(rw [hy112];exact H)|exact H
       have Ny112 := Aside0.mk hy112
       clear hy112
       obtain rfl := Option.some.inj H
       go_enter Tryd.func67, Tryd.ntmps67
       go_wp2_with (first|((with_reducible refine gate_dst (N:=3) rfl ?_);refine box_event ?hg (N:=3) ?hd (cs:=#[.int .i64 a1_0, .int .i64 a1_1, .int .i64 a1_2]) (t:=67) ?hr ?_;(case hd => rfl);(case hg => rfl);(case hr => first|(go_simp;done)|(go_simp;rfl));intro gb109 hg w13 hbox hb;have n0_:=Aside0.mk (Kd.R_below (Kd.R_elderB (by (with_reducible repeat (first|apply Kd.R_alloc|apply Kd.R_drewN|apply Kd.R_drew));exact HO0.out) gb109 (Nat.le_of_eq hg.symm)) hb);have n1_:=Aside0.mk (Kept.below (S:=(fun k_ => P0_ k_)) (by repeat (first|(with_reducible first|exact HK.out|apply Kept.alloc|apply Kept.drewN|apply Kept.drew)|exact HK.out)) hb);have n2_:=Aside0.mk (below_step (by repeat (first|(with_reducible first|exact HB.out|apply below_alloc|apply pw_below_drewN|apply below_drew1)|exact HB.out)) hb);have n3_:=Aside0.mk (hbox);have n4_:=Aside0.mk ((by rw [hg];exact (by first|exact HK.out.1|exact (show Kept w _ (fun k_ => P0_ k_) from by repeat (first|(with_reducible first|exact HK.out|apply Kept.alloc|apply Kept.drewN|apply Kept.drew)|exact HK.out)).1) : w.heap.size ≤ gb109));have n5_:=Aside0.mk ((by rw [hg];exact (below_size (by repeat (first|(with_reducible first|exact HB.out|apply below_alloc|apply pw_below_drewN|apply below_drew1)|exact HB.out))) : w0.heap.size ≤ gb109));clear HO0;clear HK;clear HB;have HO0:=n0_;have HK:=n1_;have HB:=n2_;have BK109:=n3_;have GW109:=n4_;have GE109:=n5_;clear n0_ n1_ n2_ n3_ n4_ n5_;clear hb hbox hg;have hcz14_0 : w13.cell? ⟨gb109, 0, none⟩ = some (.int .i64 a1_0):=(blk_cell BK109.out 0).trans rfl;have hcz14_1 : w13.cell? ⟨gb109, 1, none⟩ = some (.int .i64 a1_1):=(blk_cell BK109.out 1).trans rfl;have hcz14_2 : w13.cell? ⟨gb109, 2, none⟩ = some (.int .i64 a1_2):=(blk_cell BK109.out 2).trans rfl;have hfz14_0:=blk_frozen BK109.out 0;have hfz14_1:=blk_frozen BK109.out 1;have hfz14_2:=blk_frozen BK109.out 2;obtain ⟨Ao15, co15, eo15⟩:=Kd.R_slice HO0.out;subst eo15;have p110 : 0 ≤ ((ji7) : Int):=of_decide_eq_true (by first|(with_reducible assumption)|assumption);have q110 : (ji7) < (l0.length : Int):=of_decide_eq_true (by first|(with_reducible assumption)|assumption);obtain ⟨ad110, e110, hx110_0, hx110_1, hx110_2⟩:=at_T67 (Kd.R_reads' HO0.out).2.2 (ji7) p110 q110;cases e110;replace p110:=eq_true p110;replace q110:=eq_true q110;have p111 : 0 ≤ ((ji7) : Int):=of_decide_eq_true (by first|(with_reducible assumption)|assumption);have q111 : (ji7) < (l0.length : Int):=of_decide_eq_true (by first|(with_reducible assumption)|assumption);obtain ⟨ad111, e111, hx111_0, hx111_1, hx111_2⟩:=at_T67 (Kd.R_reads' HO0.out).2.2 (ji7) p111 q111;obtain rfl : ad110 = ad111:=(by injection e111);replace p111:=eq_true p111;replace q111:=eq_true q111;have p12 : 0 ≤ ((ji7) : Int):=of_decide_eq_true (by first|(with_reducible assumption)|assumption);have q12 : ((ji7) : Int) < ((l0.length : Int) : Int):=of_decide_eq_true (by first|(with_reducible assumption)|assumption);obtain ⟨go12, co12, eo12, gb12, gl12, cl12, HG12⟩:=Kd.R_form HO0.out (by omega);(first|cases eo12|(injection eo12 with ea_ en_ ec_;(first|subst ea_|(injection ea_ with ea_;subst ea_));subst ec_;clear en_));have GB12:=Aside0.mk gb12;have GG12:=Aside0.mk HG12;clear gb12 gl12 HG12;have HMgo12:=Aside0.mk (show (P0_ go12 ∨ w.heap.size ≤ go12) from (HO0.out.1 _ rfl).1);(first|simp only [add_plain] at hx110_0|skip);(first|simp only [add_plain] at hx110_1|skip);(first|simp only [add_plain] at hx110_2|skip);(first|simp only [add_plain] at hx111_0|skip);(first|simp only [add_plain] at hx111_1|skip);(first|simp only [add_plain] at hx111_2|skip);obtain ⟨ce12, hcl12, hM12, hcc12, hfr12⟩:=Kd.R_elem HO0.out z67 ((ji7) : Int) p12 q12;obtain rfl:=k67_openM hM12;have hx12_0 : w13.cell? ⟨go12, ((ji7) : Int).toNat * 3, none⟩ = some (.int .i64 ((rd_T67 l0 (ji7)).f0)):=hcc12 0 _ rfl;have hx12_1 : w13.cell? ⟨go12, ((ji7) : Int).toNat * 3 + 1, none⟩ = some (.int .i64 ((rd_T67 l0 (ji7)).f1)):=hcc12 1 _ rfl;have hx12_2 : w13.cell? ⟨go12, ((ji7) : Int).toNat * 3 + 2, none⟩ = some (.int .i64 ((rd_T67 l0 (ji7)).f2)):=hcc12 2 _ rfl;have hf12_0 : w13.frozen? ⟨go12, ((ji7) : Int).toNat * 3, none⟩ = false:=hfr12 0;have hf12_1 : w13.frozen? ⟨go12, ((ji7) : Int).toNat * 3 + 1, none⟩ = false:=hfr12 1;have hf12_2 : w13.frozen? ⟨go12, ((ji7) : Int).toNat * 3 + 2, none⟩ = false:=hfr12 2;clear hcl12 hcc12 hfr12 hM12;replace p12:=eq_true p12;replace q12:=eq_true q12;have HX16:=Aside0.mk (show Kd.R k67 67 w13 w0.heap.size (fun k_ => (P0_ k_ ∨ w.heap.size ≤ k_) ∧ k_ ≠ gb109) (.slice (some ⟨go12, 0, none⟩) l0.length co15) l0 from (by (with_reducible repeat (first|apply Kd.R_alloc|apply Kd.R_drewN|apply Kd.R_drew));exact HO0.out));obtain ⟨ce16, hcl16, hM16, hcc16, hfr16⟩:=Kd.R_elem HX16.out z67 ((ji7) : Int) (of_decide_eq_true (by first|(with_reducible assumption)|assumption)) (by have h_ : ((ji7) : Int) < ((l0.length : Int) : Int):=of_decide_eq_true (by first|(with_reducible assumption)|assumption);first|exact h_|(have e_:=(Kd.R_reads' HO0.out).1;omega)|simpa using h_);obtain rfl:=k67_openM hM16;have HP16:=Kd.R_seg HX16.out ((ji7) : Int) (of_decide_eq_true (by first|(with_reducible assumption)|assumption)) (by have h_ : ((ji7) : Int) < ((l0.length : Int) : Int):=of_decide_eq_true (by first|(with_reducible assumption)|assumption);first|exact h_|(have e_:=(Kd.R_reads' HO0.out).1;omega)|simpa using h_) (seg:=[.int .i64 a1_2]) (j:=2) hcl16 hcc16 (show 3 ≤ 3 from by decide) (x':=(⟨(rd_T67 l0 (ji7)).f0, (rd_T67 l0 (ji7)).f1, a1_2⟩ : S67)) (k67_mkM _ _ _ (⟨(rd_T67 l0 (ji7)).f0, (rd_T67 l0 (ji7)).f1, a1_2⟩ : S67) ) (fun _ hk => hk);have hx16_2:=hcc16 2 _ rfl;(try simp only [show (k67).sz = 3 from rfl, Nat.mul_one, Nat.add_zero] at hx16_2);have hf16_2:=hfr16 2;(try simp only [show (k67).sz = 3 from rfl, Nat.mul_one, Nat.add_zero] at hf16_2);clear hcl16 hcc16 hfr16 hM16))
       repeat (go_quiet (first|((with_reducible refine gate_store (t:=3) (p:=44) rfl ?_);(try (rw [drewN_self w13];generalize hq_ : World.drewN w13 _ = w13;have n0_:=Aside0.mk (Kd.R_at hq_ HO0.out);have n1_:=Aside0.mk (blk_at hq_ BK109.out);have n2_:=Aside0.mk (kept_at hq_ HK.out);have n3_:=Aside0.mk (below_at hq_ HB.out);clear hq_ HO0 BK109 HK HB;have HO0:=n0_;have BK109:=n1_;have HK:=n2_;have HB:=n3_;clear n0_ n1_ n2_ n3_;(try (have HX16:=Aside0.mk (show Kd.R k67 67 w13 w0.heap.size (fun k_ => (P0_ k_ ∨ w.heap.size ≤ k_) ∧ k_ ≠ gb109) (.slice (some ⟨go12, 0, none⟩) l0.length co15) l0 from (by (with_reducible repeat (first|apply Kd.R_alloc|apply Kd.R_drewN|apply Kd.R_drew));exact HO0.out))));(try (obtain ⟨ce16, hcl16, hM16, hcc16, hfr16⟩:=Kd.R_elem HX16.out z67 ((ji7) : Int) (of_decide_eq_true (by first|(with_reducible assumption)|assumption)) (by have h_ : ((ji7) : Int) < ((l0.length : Int) : Int):=of_decide_eq_true (by first|(with_reducible assumption)|assumption);first|exact h_|(have e_:=(Kd.R_reads' HO0.out).1;omega)|simpa using h_)));(try (obtain rfl:=k67_openM hM16));(try (have HP16:=Kd.R_seg HX16.out ((ji7) : Int) (of_decide_eq_true (by first|(with_reducible assumption)|assumption)) (by have h_ : ((ji7) : Int) < ((l0.length : Int) : Int):=of_decide_eq_true (by first|(with_reducible assumption)|assumption);first|exact h_|(have e_:=(Kd.R_reads' HO0.out).1;omega)|simpa using h_) (seg:=[.int .i64 a1_2]) (j:=2) hcl16 hcc16 (show 3 ≤ 3 from by decide) (x':=(⟨(rd_T67 l0 (ji7)).f0, (rd_T67 l0 (ji7)).f1, a1_2⟩ : S67)) (k67_mkM _ _ _ (⟨(rd_T67 l0 (ji7)).f0, (rd_T67 l0 (ji7)).f1, a1_2⟩ : S67) ) (fun _ hk => hk)));(try (have hx16_2:=hcc16 2 _ rfl));(try (try simp only [show (k67).sz = 3 from rfl, Nat.mul_one, Nat.add_zero] at hx16_2));(try (have hf16_2:=hfr16 2));(try (try simp only [show (k67).sz = 3 from rfl, Nat.mul_one, Nat.add_zero] at hf16_2));(try (clear hcl16 hcc16 hfr16 hM16))));refine store_event (t:=3) (p:=44) (v:=?vo_w17) (w1:=(w13.setCell ⟨go12, ((ji7) : Int).toNat * 3 + 2, none⟩ (.int .i64 a1_2))) ?hg ?ho ?hn ?hr ?_;(case ho => rfl);(case hg => rfl);(case hn => rfl);(case hr => first|(go_simp;done)|(go_simp;rfl));intro w17 hw;have hg : w13.grownBy w17 (some go12):=(by rw [hw];exact HP16.2);have hp_ : Kd.R k67 67 w17 w0.heap.size (fun k_ => (P0_ k_ ∨ w.heap.size ≤ k_) ∧ k_ ≠ gb109) (.slice (some ⟨go12, 0, none⟩) l0.length co15) y112:=(by rw [hw, Ny112.out];exact HP16.1);clear HP16;have n0_:=Aside0.mk (hp_);have n1_:=Aside0.mk (blk_grown (g:=gb109) (o:=.cells #[.int .i64 a1_0, .int .i64 a1_1, .int .i64 a1_2] 67 (0, 0)) (by (with_reducible repeat (first|refine blk_drewN ?_ _|refine blk_drew ?_|refine blk_alloc ?_ _));exact BK109.out) hg (Kd.R_away HO0.out (fun _ hk => hk.2)));have n2_:=Aside0.mk ((by rw [hw];exact below_set (HB.out) GB12.out : Below w0.heap.size w0 w17));have n3_:=Aside0.mk (Kept.of_grown (S:=(fun k_ => P0_ k_)) hg (by repeat (first|(with_reducible first|exact HK.out|apply Kept.alloc|apply Kept.drewN|apply Kept.drew|refine Kept.setCell ?_ (.inr GW109.out) _)|exact HK.out)) (fun k_ e_ => (HO0.out.1 k_ e_).1));clear HO0;clear BK109;clear HB;clear HK;have HO0:=n0_;have BK109:=n1_;have HB:=n2_;have HK:=n3_;clear n0_ n1_ n2_ n3_;clear hg hw hp_));try go_wp2_with (first|((with_reducible refine gate_store (t:=3) (p:=44) rfl ?_);(try (rw [drewN_self w13];generalize hq_ : World.drewN w13 _ = w13;have n0_:=Aside0.mk (Kd.R_at hq_ HO0.out);have n1_:=Aside0.mk (blk_at hq_ BK109.out);have n2_:=Aside0.mk (kept_at hq_ HK.out);have n3_:=Aside0.mk (below_at hq_ HB.out);clear hq_ HO0 BK109 HK HB;have HO0:=n0_;have BK109:=n1_;have HK:=n2_;have HB:=n3_;clear n0_ n1_ n2_ n3_;(try (have HX16:=Aside0.mk (show Kd.R k67 67 w13 w0.heap.size (fun k_ => (P0_ k_ ∨ w.heap.size ≤ k_) ∧ k_ ≠ gb109) (.slice (some ⟨go12, 0, none⟩) l0.length co15) l0 from (by (with_reducible repeat (first|apply Kd.R_alloc|apply Kd.R_drewN|apply Kd.R_drew));exact HO0.out))));(try (obtain ⟨ce16, hcl16, hM16, hcc16, hfr16⟩:=Kd.R_elem HX16.out z67 ((ji7) : Int) (of_decide_eq_true (by first|(with_reducible assumption)|assumption)) (by have h_ : ((ji7) : Int) < ((l0.length : Int) : Int):=of_decide_eq_true (by first|(with_reducible assumption)|assumption);first|exact h_|(have e_:=(Kd.R_reads' HO0.out).1;omega)|simpa using h_)));(try (obtain rfl:=k67_openM hM16));(try (have HP16:=Kd.R_seg HX16.out ((ji7) : Int) (of_decide_eq_true (by first|(with_reducible assumption)|assumption)) (by have h_ : ((ji7) : Int) < ((l0.length : Int) : Int):=of_decide_eq_true (by first|(with_reducible assumption)|assumption);first|exact h_|(have e_:=(Kd.R_reads' HO0.out).1;omega)|simpa using h_) (seg:=[.int .i64 a1_2]) (j:=2) hcl16 hcc16 (show 3 ≤ 3 from by decide) (x':=(⟨(rd_T67 l0 (ji7)).f0, (rd_T67 l0 (ji7)).f1, a1_2⟩ : S67)) (k67_mkM _ _ _ (⟨(rd_T67 l0 (ji7)).f0, (rd_T67 l0 (ji7)).f1, a1_2⟩ : S67) ) (fun _ hk => hk)));(try (have hx16_2:=hcc16 2 _ rfl));(try (try simp only [show (k67).sz = 3 from rfl, Nat.mul_one, Nat.add_zero] at hx16_2));(try (have hf16_2:=hfr16 2));(try (try simp only [show (k67).sz = 3 from rfl, Nat.mul_one, Nat.add_zero] at hf16_2));(try (clear hcl16 hcc16 hfr16 hM16))));refine store_event (t:=3) (p:=44) (v:=?vo_w17) (w1:=(w13.setCell ⟨go12, ((ji7) : Int).toNat * 3 + 2, none⟩ (.int .i64 a1_2))) ?hg ?ho ?hn ?hr ?_;(case ho => rfl);(case hg => rfl);(case hn => rfl);(case hr => first|(go_simp;done)|(go_simp;rfl));intro w17 hw;have hg : w13.grownBy w17 (some go12):=(by rw [hw];exact HP16.2);have hp_ : Kd.R k67 67 w17 w0.heap.size (fun k_ => (P0_ k_ ∨ w.heap.size ≤ k_) ∧ k_ ≠ gb109) (.slice (some ⟨go12, 0, none⟩) l0.length co15) y112:=(by rw [hw, Ny112.out];exact HP16.1);clear HP16;have n0_:=Aside0.mk (hp_);have n1_:=Aside0.mk (blk_grown (g:=gb109) (o:=.cells #[.int .i64 a1_0, .int .i64 a1_1, .int .i64 a1_2] 67 (0, 0)) (by (with_reducible repeat (first|refine blk_drewN ?_ _|refine blk_drew ?_|refine blk_alloc ?_ _));exact BK109.out) hg (Kd.R_away HO0.out (fun _ hk => hk.2)));have n2_:=Aside0.mk ((by rw [hw];exact below_set (HB.out) GB12.out : Below w0.heap.size w0 w17));have n3_:=Aside0.mk (Kept.of_grown (S:=(fun k_ => P0_ k_)) hg (by repeat (first|(with_reducible first|exact HK.out|apply Kept.alloc|apply Kept.drewN|apply Kept.drew|refine Kept.setCell ?_ (.inr GW109.out) _)|exact HK.out)) (fun k_ e_ => (HO0.out.1 k_ e_).1));clear HO0;clear BK109;clear HB;clear HK;have HO0:=n0_;have BK109:=n1_;have HB:=n2_;have HK:=n3_;clear n0_ n1_ n2_ n3_;clear hg hw hp_)))
       go_ret
       exact ⟨_, by first|rfl|(simp [errW_none, errW_some] <;> rfl)|(simp only [← hji7];first|rfl|(simp [errW_none, errW_some] <;> rfl))|(simp [*, errW_none, errW_some] <;> rfl), by (with_reducible repeat (first|apply Kd.R_alloc|apply Kd.R_drewN|apply Kd.R_drew));exact Kd.R_mono HO0.out (fun _ hk => hk.1), by repeat (first|(with_reducible first|exact HB.out|apply below_alloc|apply pw_below_drewN|apply below_drew1|refine below_set ?_ GE109.out)|exact HB.out), by repeat (first|(with_reducible first|exact HK.out|apply Kept.alloc|apply Kept.drewN|apply Kept.drew|refine Kept.setCell ?_ (.inr GW109.out) _)|exact HK.out)⟩
      ·rw [if_neg c11] at H
       have c11b0 : (((rd_T67 l0 (ji7)).f0) == a1_0) = false := beq_eq_false_iff_ne.mpr c11
       have c11b1 : (((rd_T67 l0 (ji7)).f0) != a1_0) = true := bne_iff_ne.mpr c11
       by_cases c18 : l0.length < 5864062014805
       ·rw [if_pos c18] at H
        have LMc18 := Aside0.mk c18
        clear c18
        obtain ⟨y113, hy113⟩ : ∃ y_ : List (S67), y_ = (l0 ++ [(⟨a1_0, a1_1, a1_2⟩ : S67)]) := ⟨_, rfl⟩
        replace H : (some y113) = some r:=by first|(rw [hy113];with_reducible exact H)|(have H2_:=(Option.bind_some _ _).symm.trans H;rw [hy113];with_reducible exact H2_)|(have H2_:=(Option.bind_some _ _).symm.trans H;with_reducible exact H2_)|with_reducible exact H|(rw [hy113];exact H)|exact H
        have Ny113 := Aside0.mk hy113
        clear hy113
        obtain rfl := Option.some.inj H
        go_enter Tryd.func67, Tryd.ntmps67
        go_wp2_with (first|((with_reducible refine gate_dst (N:=3) rfl ?_);refine box_event ?hg (N:=3) ?hd (cs:=#[.int .i64 a1_0, .int .i64 a1_1, .int .i64 a1_2]) (t:=67) ?hr ?_;(case hd => rfl);(case hg => rfl);(case hr => first|(go_simp;done)|(go_simp;rfl));intro gb109 hg w19 hbox hb;have n0_:=Aside0.mk (Kd.R_below (Kd.R_elderB (by (with_reducible repeat (first|apply Kd.R_alloc|apply Kd.R_drewN|apply Kd.R_drew));exact HO0.out) gb109 (Nat.le_of_eq hg.symm)) hb);have n1_:=Aside0.mk (Kept.below (S:=(fun k_ => P0_ k_)) (by repeat (first|(with_reducible first|exact HK.out|apply Kept.alloc|apply Kept.drewN|apply Kept.drew)|exact HK.out)) hb);have n2_:=Aside0.mk (below_step (by repeat (first|(with_reducible first|exact HB.out|apply below_alloc|apply pw_below_drewN|apply below_drew1)|exact HB.out)) hb);have n3_:=Aside0.mk (hbox);have n4_:=Aside0.mk ((by rw [hg];exact (by first|exact HK.out.1|exact (show Kept w _ (fun k_ => P0_ k_) from by repeat (first|(with_reducible first|exact HK.out|apply Kept.alloc|apply Kept.drewN|apply Kept.drew)|exact HK.out)).1) : w.heap.size ≤ gb109));have n5_:=Aside0.mk ((by rw [hg];exact (below_size (by repeat (first|(with_reducible first|exact HB.out|apply below_alloc|apply pw_below_drewN|apply below_drew1)|exact HB.out))) : w0.heap.size ≤ gb109));clear HO0;clear HK;clear HB;have HO0:=n0_;have HK:=n1_;have HB:=n2_;have BK109:=n3_;have GW109:=n4_;have GE109:=n5_;clear n0_ n1_ n2_ n3_ n4_ n5_;clear hb hbox hg;have hcz20_0 : w19.cell? ⟨gb109, 0, none⟩ = some (.int .i64 a1_0):=(blk_cell BK109.out 0).trans rfl;have hcz20_1 : w19.cell? ⟨gb109, 1, none⟩ = some (.int .i64 a1_1):=(blk_cell BK109.out 1).trans rfl;have hcz20_2 : w19.cell? ⟨gb109, 2, none⟩ = some (.int .i64 a1_2):=(blk_cell BK109.out 2).trans rfl;have hfz20_0:=blk_frozen BK109.out 0;have hfz20_1:=blk_frozen BK109.out 1;have hfz20_2:=blk_frozen BK109.out 2;obtain ⟨Ao21, co21, eo21⟩:=Kd.R_slice HO0.out;subst eo21;have p110 : 0 ≤ ((ji7) : Int):=of_decide_eq_true (by first|(with_reducible assumption)|assumption);have q110 : (ji7) < (l0.length : Int):=of_decide_eq_true (by first|(with_reducible assumption)|assumption);obtain ⟨ad110, e110, hx110_0, hx110_1, hx110_2⟩:=at_T67 (Kd.R_reads' HO0.out).2.2 (ji7) p110 q110;cases e110;replace p110:=eq_true p110;replace q110:=eq_true q110;have p111 : 0 ≤ ((ji7) : Int):=of_decide_eq_true (by first|(with_reducible assumption)|assumption);have q111 : (ji7) < (l0.length : Int):=of_decide_eq_true (by first|(with_reducible assumption)|assumption);obtain ⟨ad111, e111, hx111_0, hx111_1, hx111_2⟩:=at_T67 (Kd.R_reads' HO0.out).2.2 (ji7) p111 q111;obtain rfl : ad110 = ad111:=(by injection e111);replace p111:=eq_true p111;replace q111:=eq_true q111))
        repeat (go_quiet (first|((with_reducible refine gate_builtin (b:=.append) (xs:=#[.tmp 46, .tmp 48]) rfl ?_);at_builtin;refine Kd.R_append k67 (w0:=w0) w0.heap.size rfl (.tmp 46) (.tmp 48) 22 67 (.agg #[(.int .i64 0), (.int .i64 0), (.int .i64 0)]) 24 rfl Tryd.underlying22 info67 rfl (by decide) (by omega) (.slice (some ad110) l0.length co21) l0 (⟨a1_0, a1_1, a1_2⟩ : S67) [.int .i64 a1_0, .int .i64 a1_1, .int .i64 a1_2] (fun k_ => (P0_ k_ ∨ w.heap.size ≤ k_) ∧ k_ ≠ gb109) (fun _ => False) rfl rfl ?aP (fun _ hk => hk.elim) ?aF ?aO ?aB ?aS ?aL ?_;(case aP => exact k67_mkM _ _ _ (⟨a1_0, a1_1, a1_2⟩ : S67));(case aB => exact (by repeat (first|(with_reducible first|exact HB.out|apply below_alloc|apply pw_below_drewN|apply below_drew1|refine below_set ?_ GE109.out)|exact HB.out)));(case aF => exact (fun k_ hk => ⟨(.inr (Nat.le_trans (by first|exact HK.out.1|exact (show Kept w _ (fun k_ => P0_ k_) from by repeat (first|(with_reducible first|exact HK.out|apply Kept.alloc|apply Kept.drewN|apply Kept.drew|refine Kept.setCell ?_ (.inr GW109.out) _)|exact HK.out)).1) hk)), Kd.freshB (g:=gb109) (o:=.cells #[.int .i64 a1_0, .int .i64 a1_1, .int .i64 a1_2] 67 (0, 0)) (by (with_reducible repeat (first|refine blk_drewN ?_ _|refine blk_drew ?_|refine blk_alloc ?_ _));exact BK109.out) k_ hk⟩));(case aO => exact (by (with_reducible repeat (first|apply Kd.R_alloc|apply Kd.R_drewN|apply Kd.R_drew));exact HO0.out));(case aS => exact (below_size (by repeat (first|(with_reducible first|exact HB.out|apply below_alloc|apply pw_below_drewN|apply below_drew1|refine below_set ?_ GE109.out)|exact HB.out))));(case aL => have:=LMc18.out;omega);intro v114 w22 ho hb hg hat;rw [← Ny113.out] at ho;have n0_:=Aside0.mk (blk_grown (g:=gb109) (o:=.cells #[.int .i64 a1_0, .int .i64 a1_1, .int .i64 a1_2] 67 (0, 0)) (by (with_reducible repeat (first|refine blk_drewN ?_ _|refine blk_drew ?_|refine blk_alloc ?_ _));exact BK109.out) hg (Kd.R_away HO0.out (fun _ hk => hk.2)));have n1_:=Aside0.mk (hb);have n2_:=Aside0.mk (Kept.of_grown (S:=(fun k_ => P0_ k_)) hg (by repeat (first|(with_reducible first|exact HK.out|apply Kept.alloc|apply Kept.drewN|apply Kept.drew|refine Kept.setCell ?_ (.inr GW109.out) _)|exact HK.out)) (fun k_ e_ => (HO0.out.1 k_ e_).1));have n3_:=Aside0.mk (ho);clear BK109;clear HB;clear HK;clear HO0;have BK109:=n0_;have HB:=n1_;have HK:=n2_;have HO115:=n3_;clear n0_ n1_ n2_ n3_;clear ho hb hg hat));try go_wp2_with (first|((with_reducible refine gate_builtin (b:=.append) (xs:=#[.tmp 46, .tmp 48]) rfl ?_);at_builtin;refine Kd.R_append k67 (w0:=w0) w0.heap.size rfl (.tmp 46) (.tmp 48) 22 67 (.agg #[(.int .i64 0), (.int .i64 0), (.int .i64 0)]) 24 rfl Tryd.underlying22 info67 rfl (by decide) (by omega) (.slice (some ad110) l0.length co21) l0 (⟨a1_0, a1_1, a1_2⟩ : S67) [.int .i64 a1_0, .int .i64 a1_1, .int .i64 a1_2] (fun k_ => (P0_ k_ ∨ w.heap.size ≤ k_) ∧ k_ ≠ gb109) (fun _ => False) rfl rfl ?aP (fun _ hk => hk.elim) ?aF ?aO ?aB ?aS ?aL ?_;(case aP => exact k67_mkM _ _ _ (⟨a1_0, a1_1, a1_2⟩ : S67));(case aB => exact (by repeat (first|(with_reducible first|exact HB.out|apply below_alloc|apply pw_below_drewN|apply below_drew1|refine below_set ?_ GE109.out)|exact HB.out)));(case aF => exact (fun k_ hk => ⟨(.inr (Nat.le_trans (by first|exact HK.out.1|exact (show Kept w _ (fun k_ => P0_ k_) from by repeat (first|(with_reducible first|exact HK.out|apply Kept.alloc|apply Kept.drewN|apply Kept.drew|refine Kept.setCell ?_ (.inr GW109.out) _)|exact HK.out)).1) hk)), Kd.freshB (g:=gb109) (o:=.cells #[.int .i64 a1_0, .int .i64 a1_1, .int .i64 a1_2] 67 (0, 0)) (by (with_reducible repeat (first|refine blk_drewN ?_ _|refine blk_drew ?_|refine blk_alloc ?_ _));exact BK109.out) k_ hk⟩));(case aO => exact (by (with_reducible repeat (first|apply Kd.R_alloc|apply Kd.R_drewN|apply Kd.R_drew));exact HO0.out));(case aS => exact (below_size (by repeat (first|(with_reducible first|exact HB.out|apply below_alloc|apply pw_below_drewN|apply below_drew1|refine below_set ?_ GE109.out)|exact HB.out))));(case aL => have:=LMc18.out;omega);intro v114 w22 ho hb hg hat;rw [← Ny113.out] at ho;have n0_:=Aside0.mk (blk_grown (g:=gb109) (o:=.cells #[.int .i64 a1_0, .int .i64 a1_1, .int .i64 a1_2] 67 (0, 0)) (by (with_reducible repeat (first|refine blk_drewN ?_ _|refine blk_drew ?_|refine blk_alloc ?_ _));exact BK109.out) hg (Kd.R_away HO0.out (fun _ hk => hk.2)));have n1_:=Aside0.mk (hb);have n2_:=Aside0.mk (Kept.of_grown (S:=(fun k_ => P0_ k_)) hg (by repeat (first|(with_reducible first|exact HK.out|apply Kept.alloc|apply Kept.drewN|apply Kept.drew|refine Kept.setCell ?_ (.inr GW109.out) _)|exact HK.out)) (fun k_ e_ => (HO0.out.1 k_ e_).1));have n3_:=Aside0.mk (ho);clear BK109;clear HB;clear HK;clear HO0;have BK109:=n0_;have HB:=n1_;have HK:=n2_;have HO115:=n3_;clear n0_ n1_ n2_ n3_;clear ho hb hg hat)))
        go_ret
        exact ⟨_, by first|rfl|(simp [errW_none, errW_some] <;> rfl)|(simp only [← hji7];first|rfl|(simp [errW_none, errW_some] <;> rfl))|(simp [*, errW_none, errW_some] <;> rfl), by (with_reducible repeat (first|apply Kd.R_alloc|apply Kd.R_drewN|apply Kd.R_drew));exact Kd.R_mono HO115.out (fun _ hk => hk.1), by repeat (first|(with_reducible first|exact HB.out|apply below_alloc|apply pw_below_drewN|apply below_drew1|refine below_set ?_ GE109.out)|exact HB.out), by repeat (first|(with_reducible first|exact HK.out|apply Kept.alloc|apply Kept.drewN|apply Kept.drew|refine Kept.setCell ?_ (.inr GW109.out) _)|exact HK.out)⟩
       ·rw [if_neg c18] at H
        exact absurd H (by simp)
     ·rw [if_neg c10] at H
      have c10b0 : (((rd_T67 l0 (ji7)).f2) == a1_1) = false := beq_eq_false_iff_ne.mpr c10
      have c10b1 : (((rd_T67 l0 (ji7)).f2) != a1_1) = true := bne_iff_ne.mpr c10
      by_cases c23 : l0.length < 5864062014805
      ·rw [if_pos c23] at H
       have LMc23 := Aside0.mk c23
       clear c23
       obtain ⟨y116, hy116⟩ : ∃ y_ : List (S67), y_ = (l0 ++ [(⟨a1_0, a1_1, a1_2⟩ : S67)]) := ⟨_, rfl⟩
       replace H : (some y116) = some r:=by first|(rw [hy116];with_reducible exact H)|(have H2_:=(Option.bind_some _ _).symm.trans H;rw [hy116];with_reducible exact H2_)|(have H2_:=(Option.bind_some _ _).symm.trans H;with_reducible exact H2_)|with_reducible exact H|(rw [hy116];exact H)|exact H
       have Ny116 := Aside0.mk hy116
       clear hy116
       obtain rfl := Option.some.inj H
       go_enter Tryd.func67, Tryd.ntmps67
       go_wp2_with (first|((with_reducible refine gate_dst (N:=3) rfl ?_);refine box_event ?hg (N:=3) ?hd (cs:=#[.int .i64 a1_0, .int .i64 a1_1, .int .i64 a1_2]) (t:=67) ?hr ?_;(case hd => rfl);(case hg => rfl);(case hr => first|(go_simp;done)|(go_simp;rfl));intro gb109 hg w24 hbox hb;have n0_:=Aside0.mk (Kd.R_below (Kd.R_elderB (by (with_reducible repeat (first|apply Kd.R_alloc|apply Kd.R_drewN|apply Kd.R_drew));exact HO0.out) gb109 (Nat.le_of_eq hg.symm)) hb);have n1_:=Aside0.mk (Kept.below (S:=(fun k_ => P0_ k_)) (by repeat (first|(with_reducible first|exact HK.out|apply Kept.alloc|apply Kept.drewN|apply Kept.drew)|exact HK.out)) hb);have n2_:=Aside0.mk (below_step (by repeat (first|(with_reducible first|exact HB.out|apply below_alloc|apply pw_below_drewN|apply below_drew1)|exact HB.out)) hb);have n3_:=Aside0.mk (hbox);have n4_:=Aside0.mk ((by rw [hg];exact (by first|exact HK.out.1|exact (show Kept w _ (fun k_ => P0_ k_) from by repeat (first|(with_reducible first|exact HK.out|apply Kept.alloc|apply Kept.drewN|apply Kept.drew)|exact HK.out)).1) : w.heap.size ≤ gb109));have n5_:=Aside0.mk ((by rw [hg];exact (below_size (by repeat (first|(with_reducible first|exact HB.out|apply below_alloc|apply pw_below_drewN|apply below_drew1)|exact HB.out))) : w0.heap.size ≤ gb109));clear HO0;clear HK;clear HB;have HO0:=n0_;have HK:=n1_;have HB:=n2_;have BK109:=n3_;have GW109:=n4_;have GE109:=n5_;clear n0_ n1_ n2_ n3_ n4_ n5_;clear hb hbox hg;have hcz25_0 : w24.cell? ⟨gb109, 0, none⟩ = some (.int .i64 a1_0):=(blk_cell BK109.out 0).trans rfl;have hcz25_1 : w24.cell? ⟨gb109, 1, none⟩ = some (.int .i64 a1_1):=(blk_cell BK109.out 1).trans rfl;have hcz25_2 : w24.cell? ⟨gb109, 2, none⟩ = some (.int .i64 a1_2):=(blk_cell BK109.out 2).trans rfl;have hfz25_0:=blk_frozen BK109.out 0;have hfz25_1:=blk_frozen BK109.out 1;have hfz25_2:=blk_frozen BK109.out 2;obtain ⟨Ao26, co26, eo26⟩:=Kd.R_slice HO0.out;subst eo26;have p110 : 0 ≤ ((ji7) : Int):=of_decide_eq_true (by first|(with_reducible assumption)|assumption);have q110 : (ji7) < (l0.length : Int):=of_decide_eq_true (by first|(with_reducible assumption)|assumption);obtain ⟨ad110, e110, hx110_0, hx110_1, hx110_2⟩:=at_T67 (Kd.R_reads' HO0.out).2.2 (ji7) p110 q110;cases e110;replace p110:=eq_true p110;replace q110:=eq_true q110))
       repeat (go_quiet (first|((with_reducible refine gate_dst (N:=3) rfl ?_);refine box_event ?hg (N:=3) ?hd (cs:=#[.int .i64 a1_0, .int .i64 a1_1, .int .i64 a1_2]) (t:=67) ?hr ?_;(case hd => rfl);(case hg => rfl);(case hr => first|(go_simp;done)|(go_simp;rfl));intro gb109 hg w24 hbox hb;have n0_:=Aside0.mk (Kd.R_below (Kd.R_elderB (by (with_reducible repeat (first|apply Kd.R_alloc|apply Kd.R_drewN|apply Kd.R_drew));exact HO0.out) gb109 (Nat.le_of_eq hg.symm)) hb);have n1_:=Aside0.mk (Kept.below (S:=(fun k_ => P0_ k_)) (by repeat (first|(with_reducible first|exact HK.out|apply Kept.alloc|apply Kept.drewN|apply Kept.drew)|exact HK.out)) hb);have n2_:=Aside0.mk (below_step (by repeat (first|(with_reducible first|exact HB.out|apply below_alloc|apply pw_below_drewN|apply below_drew1)|exact HB.out)) hb);have n3_:=Aside0.mk (hbox);have n4_:=Aside0.mk ((by rw [hg];exact (by first|exact HK.out.1|exact (show Kept w _ (fun k_ => P0_ k_) from by repeat (first|(with_reducible first|exact HK.out|apply Kept.alloc|apply Kept.drewN|apply Kept.drew)|exact HK.out)).1) : w.heap.size ≤ gb109));have n5_:=Aside0.mk ((by rw [hg];exact (below_size (by repeat (first|(with_reducible first|exact HB.out|apply below_alloc|apply pw_below_drewN|apply below_drew1)|exact HB.out))) : w0.heap.size ≤ gb109));clear HO0;clear HK;clear HB;have HO0:=n0_;have HK:=n1_;have HB:=n2_;have BK109:=n3_;have GW109:=n4_;have GE109:=n5_;clear n0_ n1_ n2_ n3_ n4_ n5_;clear hb hbox hg;have hcz25_0 : w24.cell? ⟨gb109, 0, none⟩ = some (.int .i64 a1_0):=(blk_cell BK109.out 0).trans rfl;have hcz25_1 : w24.cell? ⟨gb109, 1, none⟩ = some (.int .i64 a1_1):=(blk_cell BK109.out 1).trans rfl;have hcz25_2 : w24.cell? ⟨gb109, 2, none⟩ = some (.int .i64 a1_2):=(blk_cell BK109.out 2).trans rfl;have hfz25_0:=blk_frozen BK109.out 0;have hfz25_1:=blk_frozen BK109.out 1;have hfz25_2:=blk_frozen BK109.out 2;obtain ⟨Ao26, co26, eo26⟩:=Kd.R_slice HO0.out;subst eo26;have p110 : 0 ≤ ((ji7) : Int):=of_decide_eq_true (by first|(with_reducible assumption)|assumption);have q110 : (ji7) < (l0.length : Int):=of_decide_eq_true (by first|(with_reducible assumption)|assumption);obtain ⟨ad110, e110, hx110_0, hx110_1, hx110_2⟩:=at_T67 (Kd.R_reads' HO0.out).2.2 (ji7) p110 q110;cases e110;replace p110:=eq_true p110;replace q110:=eq_true q110));try go_wp2_with (first|((with_reducible refine gate_builtin (b:=.append) (xs:=#[.tmp 46, .tmp 48]) rfl ?_);at_builtin;refine Kd.R_append k67 (w0:=w0) w0.heap.size rfl (.tmp 46) (.tmp 48) 22 67 (.agg #[(.int .i64 0), (.int .i64 0), (.int .i64 0)]) 24 rfl Tryd.underlying22 info67 rfl (by decide) (by omega) (.slice (some ad110) l0.length co26) l0 (⟨a1_0, a1_1, a1_2⟩ : S67) [.int .i64 a1_0, .int .i64 a1_1, .int .i64 a1_2] (fun k_ => (P0_ k_ ∨ w.heap.size ≤ k_) ∧ k_ ≠ gb109) (fun _ => False) rfl rfl ?aP (fun _ hk => hk.elim) ?aF ?aO ?aB ?aS ?aL ?_;(case aP => exact k67_mkM _ _ _ (⟨a1_0, a1_1, a1_2⟩ : S67));(case aB => exact (by repeat (first|(with_reducible first|exact HB.out|apply below_alloc|apply pw_below_drewN|apply below_drew1|refine below_set ?_ GE109.out)|exact HB.out)));(case aF => exact (fun k_ hk => ⟨(.inr (Nat.le_trans (by first|exact HK.out.1|exact (show Kept w _ (fun k_ => P0_ k_) from by repeat (first|(with_reducible first|exact HK.out|apply Kept.alloc|apply Kept.drewN|apply Kept.drew|refine Kept.setCell ?_ (.inr GW109.out) _)|exact HK.out)).1) hk)), Kd.freshB (g:=gb109) (o:=.cells #[.int .i64 a1_0, .int .i64 a1_1, .int .i64 a1_2] 67 (0, 0)) (by (with_reducible repeat (first|refine blk_drewN ?_ _|refine blk_drew ?_|refine blk_alloc ?_ _));exact BK109.out) k_ hk⟩));(case aO => exact (by (with_reducible repeat (first|apply Kd.R_alloc|apply Kd.R_drewN|apply Kd.R_drew));exact HO0.out));(case aS => exact (below_size (by repeat (first|(with_reducible first|exact HB.out|apply below_alloc|apply pw_below_drewN|apply below_drew1|refine below_set ?_ GE109.out)|exact HB.out))));(case aL => have:=LMc23.out;omega);intro v117 w27 ho hb hg hat;rw [← Ny116.out] at ho;have n0_:=Aside0.mk (blk_grown (g:=gb109) (o:=.cells #[.int .i64 a1_0, .int .i64 a1_1, .int .i64 a1_2] 67 (0, 0)) (by (with_reducible repeat (first|refine blk_drewN ?_ _|refine blk_drew ?_|refine blk_alloc ?_ _));exact BK109.out) hg (Kd.R_away HO0.out (fun _ hk => hk.2)));have n1_:=Aside0.mk (hb);have n2_:=Aside0.mk (Kept.of_grown (S:=(fun k_ => P0_ k_)) hg (by repeat (first|(with_reducible first|exact HK.out|apply Kept.alloc|apply Kept.drewN|apply Kept.drew|refine Kept.setCell ?_ (.inr GW109.out) _)|exact HK.out)) (fun k_ e_ => (HO0.out.1 k_ e_).1));have n3_:=Aside0.mk (ho);clear BK109;clear HB;clear HK;clear HO0;have BK109:=n0_;have HB:=n1_;have HK:=n2_;have HO118:=n3_;clear n0_ n1_ n2_ n3_;clear ho hb hg hat)))
       go_ret
       exact ⟨_, by first|rfl|(simp [errW_none, errW_some] <;> rfl)|(simp only [← hji7];first|rfl|(simp [errW_none, errW_some] <;> rfl))|(simp [*, errW_none, errW_some] <;> rfl), by (with_reducible repeat (first|apply Kd.R_alloc|apply Kd.R_drewN|apply Kd.R_drew));exact Kd.R_mono HO118.out (fun _ hk => hk.1), by repeat (first|(with_reducible first|exact HB.out|apply below_alloc|apply pw_below_drewN|apply below_drew1|refine below_set ?_ GE109.out)|exact HB.out), by repeat (first|(with_reducible first|exact HK.out|apply Kept.alloc|apply Kept.drewN|apply Kept.drew|refine Kept.setCell ?_ (.inr GW109.out) _)|exact HK.out)⟩
      ·rw [if_neg c23] at H
       exact absurd H (by simp)
    ·rw [if_neg c9] at H
     exact absurd H (by simp)
   ·rw [if_neg c8] at H
    exact absurd H (by simp)
  ·rw [if_neg c6] at H
   have c6b0 : decide (0 < (l0.length : Int)) = false := decide_eq_false c6
   have c6b1 : decide (0 < l0.length) = false := decide_eq_false (by omega)
   clear c6
   by_cases c28 : l0.length < 5864062014805
   ·rw [if_pos c28] at H
    have LMc28 := Aside0.mk c28
    clear c28
    obtain ⟨y119, hy119⟩ : ∃ y_ : List (S67), y_ = (l0 ++ [(⟨a1_0, a1_1, a1_2⟩ : S67)]) := ⟨_, rfl⟩
    replace H : (some y119) = some r:=by first|(rw [hy119];with_reducible exact H)|(have H2_:=(Option.bind_some _ _).symm.trans H;rw [hy119];with_reducible exact H2_)|(have H2_:=(Option.bind_some _ _).symm.trans H;with_reducible exact H2_)|with_reducible exact H|(rw [hy119];exact H)|exact H
    have Ny119 := Aside0.mk hy119
    clear hy119
    obtain rfl := Option.some.inj H
    go_enter Tryd.func67, Tryd.ntmps67
    go_wp2_with (first|((with_reducible refine gate_dst (N:=3) rfl ?_);refine box_event ?hg (N:=3) ?hd (cs:=#[.int .i64 a1_0, .int .i64 a1_1, .int .i64 a1_2]) (t:=67) ?hr ?_;(case hd => rfl);(case hg => rfl);(case hr => first|(go_simp;done)|(go_simp;rfl));intro gb109 hg w29 hbox hb;have n0_:=Aside0.mk (Kd.R_below (Kd.R_elderB (by (with_reducible repeat (first|apply Kd.R_alloc|apply Kd.R_drewN|apply Kd.R_drew));exact HO0.out) gb109 (Nat.le_of_eq hg.symm)) hb);have n1_:=Aside0.mk (Kept.below (S:=(fun k_ => P0_ k_)) (by repeat (first|(with_reducible first|exact HK.out|apply Kept.alloc|apply Kept.drewN|apply Kept.drew)|exact HK.out)) hb);have n2_:=Aside0.mk (below_step (by repeat (first|(with_reducible first|exact HB.out|apply below_alloc|apply pw_below_drewN|apply below_drew1)|exact HB.out)) hb);have n3_:=Aside0.mk (hbox);have n4_:=Aside0.mk ((by rw [hg];exact (by first|exact HK.out.1|exact (show Kept w _ (fun k_ => P0_ k_) from by repeat (first|(with_reducible first|exact HK.out|apply Kept.alloc|apply Kept.drewN|apply Kept.drew)|exact HK.out)).1) : w.heap.size ≤ gb109));have n5_:=Aside0.mk ((by rw [hg];exact (below_size (by repeat (first|(with_reducible first|exact HB.out|apply below_alloc|apply pw_below_drewN|apply below_drew1)|exact HB.out))) : w0.heap.size ≤ gb109));clear HO0;clear HK;clear HB;have HO0:=n0_;have HK:=n1_;have HB:=n2_;have BK109:=n3_;have GW109:=n4_;have GE109:=n5_;clear n0_ n1_ n2_ n3_ n4_ n5_;clear hb hbox hg;have hcz30_0 : w29.cell? ⟨gb109, 0, none⟩ = some (.int .i64 a1_0):=(blk_cell BK109.out 0).trans rfl;have hcz30_1 : w29.cell? ⟨gb109, 1, none⟩ = some (.int .i64 a1_1):=(blk_cell BK109.out 1).trans rfl;have hcz30_2 : w29.cell? ⟨gb109, 2, none⟩ = some (.int .i64 a1_2):=(blk_cell BK109.out 2).trans rfl;have hfz30_0:=blk_frozen BK109.out 0;have hfz30_1:=blk_frozen BK109.out 1;have hfz30_2:=blk_frozen BK109.out 2;obtain ⟨Ao31, co31, eo31⟩:=Kd.R_slice HO0.out;subst eo31))
    repeat (go_quiet (first|((with_reducible refine gate_dst (N:=3) rfl ?_);refine box_event ?hg (N:=3) ?hd (cs:=#[.int .i64 a1_0, .int .i64 a1_1, .int .i64 a1_2]) (t:=67) ?hr ?_;(case hd => rfl);(case hg => rfl);(case hr => first|(go_simp;done)|(go_simp;rfl));intro gb109 hg w29 hbox hb;have n0_:=Aside0.mk (Kd.R_below (Kd.R_elderB (by (with_reducible repeat (first|apply Kd.R_alloc|apply Kd.R_drewN|apply Kd.R_drew));exact HO0.out) gb109 (Nat.le_of_eq hg.symm)) hb);have n1_:=Aside0.mk (Kept.below (S:=(fun k_ => P0_ k_)) (by repeat (first|(with_reducible first|exact HK.out|apply Kept.alloc|apply Kept.drewN|apply Kept.drew)|exact HK.out)) hb);have n2_:=Aside0.mk (below_step (by repeat (first|(with_reducible first|exact HB.out|apply below_alloc|apply pw_below_drewN|apply below_drew1)|exact HB.out)) hb);have n3_:=Aside0.mk (hbox);have n4_:=Aside0.mk ((by rw [hg];exact (by first|exact HK.out.1|exact (show Kept w _ (fun k_ => P0_ k_) from by repeat (first|(with_reducible first|exact HK.out|apply Kept.alloc|apply Kept.drewN|apply Kept.drew)|exact HK.out)).1) : w.heap.size ≤ gb109));have n5_:=Aside0.mk ((by rw [hg];exact (below_size (by repeat (first|(with_reducible first|exact HB.out|apply below_alloc|apply pw_below_drewN|apply below_drew1)|exact HB.out))) : w0.heap.size ≤ gb109));clear HO0;clear HK;clear HB;have HO0:=n0_;have HK:=n1_;have HB:=n2_;have BK109:=n3_;have GW109:=n4_;have GE109:=n5_;clear n0_ n1_ n2_ n3_ n4_ n5_;clear hb hbox hg;have hcz30_0 : w29.cell? ⟨gb109, 0, none⟩ = some (.int .i64 a1_0):=(blk_cell BK109.out 0).trans rfl;have hcz30_1 : w29.cell? ⟨gb109, 1, none⟩ = some (.int .i64 a1_1):=(blk_cell BK109.out 1).trans rfl;have hcz30_2 : w29.cell? ⟨gb109, 2, none⟩ = some (.int .i64 a1_2):=(blk_cell BK109.out 2).trans rfl;have hfz30_0:=blk_frozen BK109.out 0;have hfz30_1:=blk_frozen BK109.out 1;have hfz30_2:=blk_frozen BK109.out 2;obtain ⟨Ao31, co31, eo31⟩:=Kd.R_slice HO0.out;subst eo31));try go_wp2_with (first|((with_reducible refine gate_builtin (b:=.append) (xs:=#[.tmp 46, .tmp 48]) rfl ?_);at_builtin;refine Kd.R_append k67 (w0:=w0) w0.heap.size rfl (.tmp 46) (.tmp 48) 22 67 (.agg #[(.int .i64 0), (.int .i64 0), (.int .i64 0)]) 24 rfl Tryd.underlying22 info67 rfl (by decide) (by omega) (.slice Ao31 l0.length co31) l0 (⟨a1_0, a1_1, a1_2⟩ : S67) [.int .i64 a1_0, .int .i64 a1_1, .int .i64 a1_2] (fun k_ => (P0_ k_ ∨ w.heap.size ≤ k_) ∧ k_ ≠ gb109) (fun _ => False) rfl rfl ?aP (fun _ hk => hk.elim) ?aF ?aO ?aB ?aS ?aL ?_;(case aP => exact k67_mkM _ _ _ (⟨a1_0, a1_1, a1_2⟩ : S67));(case aB => exact (by repeat (first|(with_reducible first|exact HB.out|apply below_alloc|apply pw_below_drewN|apply below_drew1|refine below_set ?_ GE109.out)|exact HB.out)));(case aF => exact (fun k_ hk => ⟨(.inr (Nat.le_trans (by first|exact HK.out.1|exact (show Kept w _ (fun k_ => P0_ k_) from by repeat (first|(with_reducible first|exact HK.out|apply Kept.alloc|apply Kept.drewN|apply Kept.drew|refine Kept.setCell ?_ (.inr GW109.out) _)|exact HK.out)).1) hk)), Kd.freshB (g:=gb109) (o:=.cells #[.int .i64 a1_0, .int .i64 a1_1, .int .i64 a1_2] 67 (0, 0)) (by (with_reducible repeat (first|refine blk_drewN ?_ _|refine blk_drew ?_|refine blk_alloc ?_ _));exact BK109.out) k_ hk⟩));(case aO => exact (by (with_reducible repeat (first|apply Kd.R_alloc|apply Kd.R_drewN|apply Kd.R_drew));exact HO0.out));(case aS => exact (below_size (by repeat (first|(with_reducible first|exact HB.out|apply below_alloc|apply pw_below_drewN|apply below_drew1|refine below_set ?_ GE109.out)|exact HB.out))));(case aL => have:=LMc28.out;omega);intro v120 w32 ho hb hg hat;rw [← Ny119.out] at ho;have n0_:=Aside0.mk (blk_grown (g:=gb109) (o:=.cells #[.int .i64 a1_0, .int .i64 a1_1, .int .i64 a1_2] 67 (0, 0)) (by (with_reducible repeat (first|refine blk_drewN ?_ _|refine blk_drew ?_|refine blk_alloc ?_ _));exact BK109.out) hg (Kd.R_away HO0.out (fun _ hk => hk.2)));have n1_:=Aside0.mk (hb);have n2_:=Aside0.mk (Kept.of_grown (S:=(fun k_ => P0_ k_)) hg (by repeat (first|(with_reducible first|exact HK.out|apply Kept.alloc|apply Kept.drewN|apply Kept.drew|refine Kept.setCell ?_ (.inr GW109.out) _)|exact HK.out)) (fun k_ e_ => (HO0.out.1 k_ e_).1));have n3_:=Aside0.mk (ho);clear BK109;clear HB;clear HK;clear HO0;have BK109:=n0_;have HB:=n1_;have HK:=n2_;have HO121:=n3_;clear n0_ n1_ n2_ n3_;clear ho hb hg hat)))
    go_ret
    exact ⟨_, by first|rfl|(simp [errW_none, errW_some] <;> rfl)|(simp [*, errW_none, errW_some] <;> rfl), by (with_reducible repeat (first|apply Kd.R_alloc|apply Kd.R_drewN|apply Kd.R_drew));exact Kd.R_mono HO121.out (fun _ hk => hk.1), by repeat (first|(with_reducible first|exact HB.out|apply below_alloc|apply pw_below_drewN|apply below_drew1|refine below_set ?_ GE109.out)|exact HB.out), by repeat (first|(with_reducible first|exact HK.out|apply Kept.alloc|apply Kept.drewN|apply Kept.drew|refine Kept.setCell ?_ (.inr GW109.out) _)|exact HK.out)⟩
   ·rw [if_neg c28] at H
    exact absurd H (by simp)
/-! ### cmp_Or_int: function 85 -/
def cmp_Or_int.l0 : Nat → Int → List Int → Int → Int → Option (Int)
 | 0, _, _, _, _ => none
 | k + 1, x3, x6, x7, x8 => if x8 < x7 then (if 0 ≤ x8 then (if x8 < (x6.length : Int) then (if (rd x6 x8) = x3 then (cmp_Or_int.l0 k x3 x6 x7 (wrap64 (x8 + 1))) else (some (rd x6 x8))) else (none)) else (none)) else (some x3)
def cmp_Or_int.f (k : Nat) (l0 : List Int) : Option (Int) := cmp_Or_int.l0 k 0 l0 (l0.length : Int) 0
theorem cmp_Or_int.mono_l : ∀ k, (∀ y0 y1 y2 y3, LeO (cmp_Or_int.l0 k y0 y1 y2 y3) (cmp_Or_int.l0 (k + 1) y0 y1 y2 y3))
 | 0 => fun _ _ _ _ r h => by simp [cmp_Or_int.l0] at h
 | k + 1 => by
  have ih0 := cmp_Or_int.mono_l k
  ·intro y0 y1 y2 y3
   unfold cmp_Or_int.l0
   repeat' first
   | (with_reducible exact ih0 _ _ _ _)
   | (with_reducible exact LeO.refl _)
   | (with_reducible exact LeO.none _)
   | (with_reducible refine LeO.ite ?_ ?_)
   | (with_reducible refine LeO.bind ?_ (fun _ => ?_))
   | exact ih0 _ _ _ _
   | exact LeO.none _
   | refine LeO.ite ?_ ?_
   | refine LeO.bind ?_ (fun _ => ?_)
theorem cmp_Or_int.mono : ∀ a0 k, LeO (cmp_Or_int.f k a0) (cmp_Or_int.f (k + 1) a0) := by
 intro a0 k
 have ih0 := cmp_Or_int.mono_l k
 unfold cmp_Or_int.f
 repeat' first
   | (with_reducible exact ih0 _ _ _ _)
   | (with_reducible exact LeO.refl _)
   | (with_reducible exact LeO.none _)
   | (with_reducible refine LeO.ite ?_ ?_)
   | (with_reducible refine LeO.bind ?_ (fun _ => ?_))
   | exact ih0 _ _ _ _
   | exact LeO.none _
   | refine LeO.ite ?_ ?_
   | refine LeO.bind ?_ (fun _ => ?_)
set_option maxHeartbeats 8000000 in
set_option maxRecDepth 100000 in
theorem cmp_Or_int.calls (k : Nat) (A0 : Option Addr) (c0 : Nat) (l0 : List Int) (r : Int) (w : World) (hr0 : Kd.C (Kd.int .i64) w A0 l0.length l0) (hc0 : l0.length ≤ c0) (h : cmp_Or_int.f k l0 = some r) :
  Calls Tryd.prog 85 #[.slice A0 l0.length c0] w fun e w' => e = .returned (.int .i64 r) ∧ Drawn0 w w' := by
 have HR0 := Aside0.mk hr0
 have HC0 := Aside0.mk hc0
 clear hr0 hc0
 have H : (cmp_Or_int.l0 k 0 l0 (l0.length : Int) 0) = some r := h
 clear h
 have H' := Aside0.mk H
 clear H
 go_enter Tryd.func85, Tryd.ntmps85
 go_wp2
 go_loopg [8] k (fun kq v8 w' => ∃ (x8_1 : Int), v8 = .int .i64 x8_1 ∧ Aside0 (cmp_Or_int.l0 kq 0 l0 (l0.length : Int) x8_1 = some r) ∧ Aside0 (kq ≤ k) ∧ Drawn0 w w')
 case atStart => exact ⟨(0), (by first | rfl | (simp; done) | (simp [*]; done)), H', ⟨Nat.le_refl _⟩, by repeat (first | exact Drawn0.refl _ | apply Drawn0.step)⟩
 case round =>
  clear H'
  obtain ⟨x8_1, rfl, HA, HK1, ⟨m1, rfl⟩⟩ := hrel
  cases gk with
  | zero => exact absurd HA.out (by simp [cmp_Or_int.l0])
  | succ k1 =>
   have H := HA.out
   clear HA
   simp only [cmp_Or_int.l0] at H
   by_cases c2 : x8_1 < (l0.length : Int)
   ·rw [if_pos c2] at H
    have c2b0 : decide (x8_1 < (l0.length : Int)) = true := decide_eq_true c2
    clear c2
    by_cases c3 : 0 ≤ x8_1
    ·rw [if_pos c3] at H
     have c3b0 : decide (0 ≤ x8_1) = true := decide_eq_true c3
     clear c3
     by_cases c4 : x8_1 < (l0.length : Int)
     ·rw [if_pos c4] at H
      have c4b0 : decide (x8_1 < (l0.length : Int)) = true := decide_eq_true c4
      clear c4
      by_cases c5 : (rd l0 x8_1) = 0
      ·rw [if_pos c5] at H
       have c5b0 : ((rd l0 x8_1) == 0) = true := beq_iff_eq.mpr c5
       have c5b1 : ((rd l0 x8_1) != 0) = false := bne_eq_false_iff_eq.mpr c5
       clear c5
       have H' := Aside0.mk H
       clear H
       have p122 : 0 ≤ (x8_1 : Int):=of_decide_eq_true (by first|(with_reducible assumption)|assumption)
       have q122 : x8_1 < (l0.length : Int):=of_decide_eq_true (by first|(with_reducible assumption)|assumption)
       obtain ⟨ad122, e122, hx122_0⟩ := Kd.at_int HR0.out x8_1 p122 q122
       cases e122
       replace p122 := eq_true p122
       replace q122 := eq_true q122
       go_wp2
       go_roundg k1
       case measure => have := HK1.out; omega
       case rel => exact ⟨(wrap64 (x8_1 + 1)), (by first | rfl | (simp; done) | (simp [*]; done)), H', ⟨by have := HK1.out; omega⟩, by repeat (first | exact Drawn0.refl _ | apply Drawn0.step)⟩
      ·rw [if_neg c5] at H
       have c5b0 : ((rd l0 x8_1) == 0) = false := beq_eq_false_iff_ne.mpr c5
       have c5b1 : ((rd l0 x8_1) != 0) = true := bne_iff_ne.mpr c5
       obtain rfl := Option.some.inj H
       have p122 : 0 ≤ (x8_1 : Int):=of_decide_eq_true (by first|(with_reducible assumption)|assumption)
       have q122 : x8_1 < (l0.length : Int):=of_decide_eq_true (by first|(with_reducible assumption)|assumption)
       obtain ⟨ad122, e122, hx122_0⟩ := Kd.at_int HR0.out x8_1 p122 q122
       cases e122
       replace p122 := eq_true p122
       replace q122 := eq_true q122
       go_wp2
       go_ret
       exact ⟨by first | rfl | (simp; done) | (simp [*]; done), by repeat (first | exact Drawn0.refl _ | apply Drawn0.step)⟩
     ·rw [if_neg c4] at H
      exact absurd H (by simp)
    ·rw [if_neg c3] at H
     exact absurd H (by simp)
   ·rw [if_neg c2] at H
    have c2b0 : decide (x8_1 < (l0.length : Int)) = false := decide_eq_false c2
    clear c2
    obtain rfl := Option.some.inj H
    go_wp2
    go_ret
    exact ⟨by first | rfl | (simp; done) | (simp [*]; done), by repeat (first | exact Drawn0.refl _ | apply Drawn0.step)⟩

/-! ### cmp_isNaN_int: function 101 -/
def cmp_isNaN_int.f (a0 : Int) : Option (Bool) := some (a0 != a0)
set_option maxHeartbeats 8000000 in
set_option maxRecDepth 100000 in
theorem cmp_isNaN_int.calls (a0 : Int) (r : Bool) (w : World) (h : cmp_isNaN_int.f a0 = some r) :
  Calls Tryd.prog 101 #[.int .i64 a0] w fun e w' => e = .returned (.bool r) ∧ Drawn0 w w' := by
 have H : (some (a0 != a0)) = some r := h
 clear h
 obtain rfl := Option.some.inj H
 go_enter Tryd.func101, Tryd.ntmps101
 go_wp2
 go_ret
 exact ⟨by first | rfl | (simp; done) | (simp [*]; done), by repeat (first | exact Drawn0.refl _ | apply Drawn0.step)⟩

/-! ### cmp_Compare_int: function 86 -/
def cmp_Compare_int.f (a0 : Int) (a1 : Int) : Option (Int) := (cmp_isNaN_int.f a0).bind fun t123 => ((cmp_isNaN_int.f a1).bind fun t124 => (if t123 = true then (if t124 = true then (some 0) else (some (-1))) else (if t124 = true then (some 1) else (if a0 < a1 then (some (-1)) else (if a0 > a1 then (some 1) else (some 0))))))
set_option maxHeartbeats 8000000 in
set_option maxRecDepth 100000 in
theorem cmp_Compare_int.calls (a0 : Int) (a1 : Int) (r : Int) (w : World) (h : cmp_Compare_int.f a0 a1 = some r) :
  Calls Tryd.prog 86 #[.int .i64 a0, .int .i64 a1] w fun e w' => e = .returned (.int .i64 r) ∧ Drawn0 w w' := by
 have H : ((cmp_isNaN_int.f a0).bind fun t123 => ((cmp_isNaN_int.f a1).bind fun t124 => (if t123 = true then (if t124 = true then (some 0) else (some (-1))) else (if t124 = true then (some 1) else (if a0 < a1 then (some (-1)) else (if a0 > a1 then (some 1) else (some 0))))))) = some r := h
 clear h
 replace H := Option.bind_eq_some_iff.mp H
 obtain ⟨t123, A30, H⟩ := H
 replace H : ((cmp_isNaN_int.f a1).bind fun t124 => (if t123 = true then (if t124 = true then (some 0) else (some (-1))) else (if t124 = true then (some 1) else (if a0 < a1 then (some (-1)) else (if a0 > a1 then (some 1) else (some 0)))))) = some r := H
 have A3 := Aside0.mk A30
 clear A30
 replace H := Option.bind_eq_some_iff.mp H
 obtain ⟨t124, A40, H⟩ := H
 replace H : (if t123 = true then (if t124 = true then (some 0) else (some (-1))) else (if t124 = true then (some 1) else (if a0 < a1 then (some (-1)) else (if a0 > a1 then (some 1) else (some 0))))) = some r := H
 have A4 := Aside0.mk A40
 clear A40
 by_cases c5 : t123 = true
 ·subst c5
  have H1 : (if t124 = true then (some 0) else (some (-1))) = some r := by rw [if_pos rfl] at H; exact H
  clear H
  have H := H1
  clear H1
  by_cases c6 : t124 = true
  ·subst c6
   have H1 : (some 0) = some r := by rw [if_pos rfl] at H; exact H
   clear H
   have H := H1
   clear H1
   obtain rfl := Option.some.inj H
   go_enter Tryd.func86, Tryd.ntmps86
   go_wp2_with (first|((with_reducible refine gate_callee (f:=101) rfl ?_);refine goesL_ (some 8) rfl rfl Tryd.func101 (by kernel_rfl) rfl #[.int .i64 a0] rfl (by (try simp only [List.map_toArray, List.map_cons, List.map_nil]);first|done|rfl|(simp only [List.length_drop, List.length_take];rfl)) ?_;(with_reducible refine (cmp_isNaN_int.calls a0 true _ A3.out).mono ?_);rintro e w' ⟨rfl, ⟨nd, rfl⟩⟩;refine ⟨_, rfl, ?_⟩)|((with_reducible refine gate_callee (f:=101) rfl ?_);refine goesL_ (some 10) rfl rfl Tryd.func101 (by kernel_rfl) rfl #[.int .i64 a1] rfl (by (try simp only [List.map_toArray, List.map_cons, List.map_nil]);first|done|rfl|(simp only [List.length_drop, List.length_take];rfl)) ?_;(with_reducible refine (cmp_isNaN_int.calls a1 true _ A4.out).mono ?_);rintro e w' ⟨rfl, ⟨nd, rfl⟩⟩;refine ⟨_, rfl, ?_⟩))
   go_ret
   exact ⟨by first | rfl | (simp; done) | (simp [*]; done), by repeat (first | exact Drawn0.refl _ | apply Drawn0.step)⟩
  ·replace c6 := Bool.eq_false_iff.mpr c6
   subst c6
   have H1 : (some (-1)) = some r := by rw [if_neg (show ¬ (false = true) by decide)] at H; exact H
   clear H
   have H := H1
   clear H1
   obtain rfl := Option.some.inj H
   go_enter Tryd.func86, Tryd.ntmps86
   go_wp2_with (first|((with_reducible refine gate_callee (f:=101) rfl ?_);refine goesL_ (some 8) rfl rfl Tryd.func101 (by kernel_rfl) rfl #[.int .i64 a0] rfl (by (try simp only [List.map_toArray, List.map_cons, List.map_nil]);first|done|rfl|(simp only [List.length_drop, List.length_take];rfl)) ?_;(with_reducible refine (cmp_isNaN_int.calls a0 true _ A3.out).mono ?_);rintro e w' ⟨rfl, ⟨nd, rfl⟩⟩;refine ⟨_, rfl, ?_⟩)|((with_reducible refine gate_callee (f:=101) rfl ?_);refine goesL_ (some 10) rfl rfl Tryd.func101 (by kernel_rfl) rfl #[.int .i64 a1] rfl (by (try simp only [List.map_toArray, List.map_cons, List.map_nil]);first|done|rfl|(simp only [List.length_drop, List.length_take];rfl)) ?_;(with_reducible refine (cmp_isNaN_int.calls a1 false _ A4.out).mono ?_);rintro e w' ⟨rfl, ⟨nd, rfl⟩⟩;refine ⟨_, rfl, ?_⟩))
   go_ret
   exact ⟨by first | rfl | (simp; done) | (simp [*]; done), by repeat (first | exact Drawn0.refl _ | apply Drawn0.step)⟩
 ·replace c5 := Bool.eq_false_iff.mpr c5
  subst c5
  have H1 : (if t124 = true then (some 1) else (if a0 < a1 then (some (-1)) else (if a0 > a1 then (some 1) else (some 0)))) = some r := by rw [if_neg (show ¬ (false = true) by decide)] at H; exact H
  clear H
  have H := H1
  clear H1
  by_cases c7 : t124 = true
  ·subst c7
   have H1 : (some 1) = some r := by rw [if_pos rfl] at H; exact H
   clear H
   have H := H1
   clear H1
   obtain rfl := Option.some.inj H
   go_enter Tryd.func86, Tryd.ntmps86
   go_wp2_with (first|((with_reducible refine gate_callee (f:=101) rfl ?_);refine goesL_ (some 8) rfl rfl Tryd.func101 (by kernel_rfl) rfl #[.int .i64 a0] rfl (by (try simp only [List.map_toArray, List.map_cons, List.map_nil]);first|done|rfl|(simp only [List.length_drop, List.length_take];rfl)) ?_;(with_reducible refine (cmp_isNaN_int.calls a0 false _ A3.out).mono ?_);rintro e w' ⟨rfl, ⟨nd, rfl⟩⟩;refine ⟨_, rfl, ?_⟩)|((with_reducible refine gate_callee (f:=101) rfl ?_);refine goesL_ (some 10) rfl rfl Tryd.func101 (by kernel_rfl) rfl #[.int .i64 a1] rfl (by (try simp only [List.map_toArray, List.map_cons, List.map_nil]);first|done|rfl|(simp only [List.length_drop, List.length_take];rfl)) ?_;(with_reducible refine (cmp_isNaN_int.calls a1 true _ A4.out).mono ?_);rintro e w' ⟨rfl, ⟨nd, rfl⟩⟩;refine ⟨_, rfl, ?_⟩))
   go_ret
   exact ⟨by first | rfl | (simp; done) | (simp [*]; done), by repeat (first | exact Drawn0.refl _ | apply Drawn0.step)⟩
  ·replace c7 := Bool.eq_false_iff.mpr c7
   subst c7
   have H1 : (if a0 < a1 then (some (-1)) else (if a0 > a1 then (some 1) else (some 0))) = some r := by rw [if_neg (show ¬ (false = true) by decide)] at H; exact H
   clear H
   have H := H1
   clear H1
   by_cases c8 : a0 < a1
   ·rw [if_pos c8] at H
    have c8b0 : decide (a0 < a1) = true := decide_eq_true c8
    clear c8
    obtain rfl := Option.some.inj H
    go_enter Tryd.func86, Tryd.ntmps86
    go_wp2_with (first|((with_reducible refine gate_callee (f:=101) rfl ?_);refine goesL_ (some 8) rfl rfl Tryd.func101 (by kernel_rfl) rfl #[.int .i64 a0] rfl (by (try simp only [List.map_toArray, List.map_cons, List.map_nil]);first|done|rfl|(simp only [List.length_drop, List.length_take];rfl)) ?_;(with_reducible refine (cmp_isNaN_int.calls a0 false _ A3.out).mono ?_);rintro e w' ⟨rfl, ⟨nd, rfl⟩⟩;refine ⟨_, rfl, ?_⟩)|((with_reducible refine gate_callee (f:=101) rfl ?_);refine goesL_ (some 10) rfl rfl Tryd.func101 (by kernel_rfl) rfl #[.int .i64 a1] rfl (by (try simp only [List.map_toArray, List.map_cons, List.map_nil]);first|done|rfl|(simp only [List.length_drop, List.length_take];rfl)) ?_;(with_reducible refine (cmp_isNaN_int.calls a1 false _ A4.out).mono ?_);rintro e w' ⟨rfl, ⟨nd, rfl⟩⟩;refine ⟨_, rfl, ?_⟩))
    go_ret
    exact ⟨by first | rfl | (simp; done) | (simp [*]; done), by repeat (first | exact Drawn0.refl _ | apply Drawn0.step)⟩
   ·rw [if_neg c8] at H
    have c8b0 : decide (a0 < a1) = false := decide_eq_false c8
    clear c8
    by_cases c9 : a0 > a1
    ·rw [if_pos c9] at H
     have c9b0 : decide (a1 < a0) = true := decide_eq_true c9
     clear c9
     obtain rfl := Option.some.inj H
     go_enter Tryd.func86, Tryd.ntmps86
     go_wp2_with (first|((with_reducible refine gate_callee (f:=101) rfl ?_);refine goesL_ (some 8) rfl rfl Tryd.func101 (by kernel_rfl) rfl #[.int .i64 a0] rfl (by (try simp only [List.map_toArray, List.map_cons, List.map_nil]);first|done|rfl|(simp only [List.length_drop, List.length_take];rfl)) ?_;(with_reducible refine (cmp_isNaN_int.calls a0 false _ A3.out).mono ?_);rintro e w' ⟨rfl, ⟨nd, rfl⟩⟩;refine ⟨_, rfl, ?_⟩)|((with_reducible refine gate_callee (f:=101) rfl ?_);refine goesL_ (some 10) rfl rfl Tryd.func101 (by kernel_rfl) rfl #[.int .i64 a1] rfl (by (try simp only [List.map_toArray, List.map_cons, List.map_nil]);first|done|rfl|(simp only [List.length_drop, List.length_take];rfl)) ?_;(with_reducible refine (cmp_isNaN_int.calls a1 false _ A4.out).mono ?_);rintro e w' ⟨rfl, ⟨nd, rfl⟩⟩;refine ⟨_, rfl, ?_⟩))
     go_ret
     exact ⟨by first | rfl | (simp; done) | (simp [*]; done), by repeat (first | exact Drawn0.refl _ | apply Drawn0.step)⟩
    ·rw [if_neg c9] at H
     have c9b0 : decide (a1 < a0) = false := decide_eq_false c9
     clear c9
     obtain rfl := Option.some.inj H
     go_enter Tryd.func86, Tryd.ntmps86
     go_wp2_with (first|((with_reducible refine gate_callee (f:=101) rfl ?_);refine goesL_ (some 8) rfl rfl Tryd.func101 (by kernel_rfl) rfl #[.int .i64 a0] rfl (by (try simp only [List.map_toArray, List.map_cons, List.map_nil]);first|done|rfl|(simp only [List.length_drop, List.length_take];rfl)) ?_;(with_reducible refine (cmp_isNaN_int.calls a0 false _ A3.out).mono ?_);rintro e w' ⟨rfl, ⟨nd, rfl⟩⟩;refine ⟨_, rfl, ?_⟩)|((with_reducible refine gate_callee (f:=101) rfl ?_);refine goesL_ (some 10) rfl rfl Tryd.func101 (by kernel_rfl) rfl #[.int .i64 a1] rfl (by (try simp only [List.map_toArray, List.map_cons, List.map_nil]);first|done|rfl|(simp only [List.length_drop, List.length_take];rfl)) ?_;(with_reducible refine (cmp_isNaN_int.calls a1 false _ A4.out).mono ?_);rintro e w' ⟨rfl, ⟨nd, rfl⟩⟩;refine ⟨_, rfl, ?_⟩))
     go_ret
     exact ⟨by first | rfl | (simp; done) | (simp [*]; done), by repeat (first | exact Drawn0.refl _ | apply Drawn0.step)⟩

end Go.Proofs.YtjphmebhofkhcaaDoor.PSegAll
