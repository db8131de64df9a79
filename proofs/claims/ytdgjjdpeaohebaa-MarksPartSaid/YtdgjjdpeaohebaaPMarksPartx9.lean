-- Written by a program of this session around the given print (and over contracts of this session): not checked by anybody but Lean.
import Derived.Test.YtdgjjdpeaohebaaPMarksPartx0
import Derived.Test.YtdgjjdpeaohebaaPMarksPartx2
namespace Go.Proofs.Ytdgjjdpeaohebaa.PMarksPart
open Go.RowKit Go.Proofs.YtdgjjdpeaohebaaW.PrintWords Go.Proofs.YtdgjjdpeaohebaaW.PrintLast Go.Proofs.YtdgjjdpeaohebaaW.PrintMore
attribute [local go_sem] max2_int min2_int max_two min_two max_three min_three max_four min_four   -- for this text's walks alone
set_option linter.unusedVariables false
set_option linter.unusedSimpArgs false

attribute [local go_sem high] eqA38
/-! ### chancelref04_spans: function 34 -/
def chancelref04_spans.l0 : Nat → List Int → List (S26) → Int → Option ((List (S26)))
 | 0, _, _, _ => none
 | k + 1, x0, x3, x4 => if x4 < (x0.length : Int) then (if 0 ≤ x4 then (if (rd x0 x4) = 0 then (chancelref04_spans.l0 k x0 x3 (wrap64 (x4 + 1))) else (if (x3.length : Int) > 0 then (if 0 ≤ (wrap64 ((x3.length : Int) - 1)) then (if (wrap64 ((x3.length : Int) - 1)) < (x3.length : Int) then (if ((rd_T26 x3 (wrap64 ((x3.length : Int) - 1))).f2) = x4 then (if ((rd_T26 x3 (wrap64 ((x3.length : Int) - 1))).f0) = (rd x0 x4) then (chancelref04_spans.l0 k x0 (x3.set ((wrap64 ((x3.length : Int) - 1)) : Int).toNat (⟨(rd_T26 x3 (wrap64 ((x3.length : Int) - 1))).f0, (rd_T26 x3 (wrap64 ((x3.length : Int) - 1))).f1, wrap64 (x4 + 1)⟩ : S26)) (wrap64 (x4 + 1))) else (if x3.length < 5864062014805 then (chancelref04_spans.l0 k x0 (x3 ++ [(⟨rd x0 x4, x4, wrap64 (x4 + 1)⟩ : S26)]) (wrap64 (x4 + 1))) else (none))) else (if x3.length < 5864062014805 then (chancelref04_spans.l0 k x0 (x3 ++ [(⟨rd x0 x4, x4, wrap64 (x4 + 1)⟩ : S26)]) (wrap64 (x4 + 1))) else (none))) else (none)) else (none)) else (if x3.length < 5864062014805 then (chancelref04_spans.l0 k x0 (x3 ++ [(⟨rd x0 x4, x4, wrap64 (x4 + 1)⟩ : S26)]) (wrap64 (x4 + 1))) else (none)))) else (none)) else (some x3)
def chancelref04_spans.f (k : Nat) (l0 : List Int) : Option ((List (S26))) := chancelref04_spans.l0 k l0 ([] : List (S26)) 0
theorem chancelref04_spans.mono_l : ∀ k, (∀ y0 y1 y2, LeO (chancelref04_spans.l0 k y0 y1 y2) (chancelref04_spans.l0 (k + 1) y0 y1 y2))
 | 0 => fun _ _ _ r h => by simp [chancelref04_spans.l0] at h
 | k + 1 => by
  have ih0 := chancelref04_spans.mono_l k
  ·intro y0 y1 y2
   unfold chancelref04_spans.l0
   repeat' first
   | (with_reducible exact ih0 _ _ _)
   | (with_reducible exact LeO.refl _)
   | (with_reducible exact LeO.none _)
   | (with_reducible refine LeO.ite ?_ ?_)
   | (with_reducible refine LeO.bind ?_ (fun _ => ?_))
   | exact ih0 _ _ _
   | exact LeO.none _
   | refine LeO.ite ?_ ?_
   | refine LeO.bind ?_ (fun _ => ?_)
theorem chancelref04_spans.mono : ∀ a0 k, LeO (chancelref04_spans.f k a0) (chancelref04_spans.f (k + 1) a0) := by
 intro a0 k
 have ih0 := chancelref04_spans.mono_l k
 unfold chancelref04_spans.f
 repeat' first
   | (with_reducible exact ih0 _ _ _)
   | (with_reducible exact LeO.refl _)
   | (with_reducible exact LeO.none _)
   | (with_reducible refine LeO.ite ?_ ?_)
   | (with_reducible refine LeO.bind ?_ (fun _ => ?_))
   | exact ih0 _ _ _
   | exact LeO.none _
   | refine LeO.ite ?_ ?_
   | refine LeO.bind ?_ (fun _ => ?_)
set_option maxHeartbeats 8000000 in
set_option maxRecDepth 100000 in
theorem chancelref04_spans.calls (k : Nat) (A0 : Option Addr) (c0 : Nat) (l0 : List Int) (r : List (S26)) (w : World) (hr0 : Kd.C (Kd.int .i64) w A0 l0.length l0) (hc0 : l0.length ≤ c0) (h : chancelref04_spans.f k l0 = some r) :
  Calls Try.prog 34 #[.slice A0 l0.length c0] w fun e w' => ∃ v0_ : Value, e = .returned (v0_) ∧ Kd.R k26 26 w' w.heap.size (fun _ => True) v0_ r ∧ Below w.heap.size w w' := by
 have hu26 := Try.underlying26
 have HR0 := Aside0.mk hr0
 have HC0 := Aside0.mk hc0
 clear hr0 hc0
 have HB := Aside0.mk (Below.refl w.heap.size w)
 have H : (chancelref04_spans.l0 k l0 ([] : List (S26)) 0) = some r := h
 clear h
 have H' := Aside0.mk H
 clear H
 go_enter Try.func34, Try.ntmps34
 go_wp2
 repeat (go_quiet (fail); try go_wp2)
 go_loopg [3, 4] k (fun kq v3 v4 w' => ∃ (x3_1 : List (S26)) (x4_1 : Int), v4 = .int .i64 x4_1 ∧ Aside0 (chancelref04_spans.l0 kq l0 x3_1 x4_1 = some r) ∧ Aside0 (kq ≤ k) ∧ Aside0 (Kd.R k26 26 w' w.heap.size (fun _ => True) v3 x3_1) ∧ Aside0 (Below w.heap.size w w'))
 case atStart => exact ⟨(([] : List (S26))), (0), (by first|rfl|(simp;done)|(simp [*];done)), H', ⟨Nat.le_refl _⟩, ⟨by first|exact Kd.R_nil _ _ _ _ _|exact Kd.N_nil _ _ _ _ _|exact Kd.V_nil _ _ _ _ _|exact Kd.Q_nil _ _ _ _ _|exact Kd.S_nil _ _ _ _ _⟩, ⟨by repeat (first|(with_reducible first|exact HB.out|apply below_alloc|apply pw_below_drewN|apply below_drew1)|exact HB.out)⟩⟩
 case round =>
  clear H'
  obtain ⟨x3_1, x4_1, rfl, HA, HK1, HO_3, HB⟩ := hrel
  cases gk with
  | zero => exact absurd HA.out (by simp [chancelref04_spans.l0])
  | succ k1 =>
   have H := HA.out
   clear HA
   simp only [chancelref04_spans.l0] at H
   by_cases c2 : x4_1 < (l0.length : Int)
   ·rw [if_pos c2] at H
    have c2b0 : decide (x4_1 < (l0.length : Int)) = true := decide_eq_true c2
    clear c2
    by_cases c3 : 0 ≤ x4_1
    ·rw [if_pos c3] at H
     have c3b0 : decide (0 ≤ x4_1) = true := decide_eq_true c3
     clear c3
     by_cases c4 : (rd l0 x4_1) = 0
     ·rw [if_pos c4] at H
      have c4b0 : ((rd l0 x4_1) == 0) = true := beq_iff_eq.mpr c4
      have c4b1 : ((rd l0 x4_1) != 0) = false := bne_eq_false_iff_eq.mpr c4
      clear c4
      have H' := Aside0.mk H
      clear H
      have p186 : 0 ≤ (x4_1 : Int):=of_decide_eq_true (by first|(with_reducible assumption)|assumption)
      have q186 : x4_1 < (l0.length : Int):=of_decide_eq_true (by first|(with_reducible assumption)|assumption)
      obtain ⟨ad186, e186, hx186_0⟩ := Kd.at_int HR0.out x4_1 p186 q186
      cases e186
      replace hx186_0 := (HB.out.cell (World.block_lt_of_cell? w _ hx186_0)).trans hx186_0
      replace p186 := eq_true p186
      replace q186 := eq_true q186
      go_wp2
      repeat (go_quiet (fail); try go_wp2)
      go_roundg k1
      case measure => have := HK1.out; omega
      case rel => exact ⟨(x3_1), (wrap64 (x4_1 + 1)), (by first|rfl|(simp;done)|(simp [*];done)), H', ⟨by have:=HK1.out;omega⟩, ⟨by (with_reducible repeat (first|apply Kd.R_alloc|apply Kd.R_drewN|apply Kd.R_drew));exact HO_3.out⟩, ⟨by repeat (first|(with_reducible first|exact HB.out|apply below_alloc|apply pw_below_drewN|apply below_drew1)|exact HB.out)⟩⟩
     ·rw [if_neg c4] at H
      have c4b0 : ((rd l0 x4_1) == 0) = false := beq_eq_false_iff_ne.mpr c4
      have c4b1 : ((rd l0 x4_1) != 0) = true := bne_iff_ne.mpr c4
      by_cases c5 : (x3_1.length : Int) > 0
      ·rw [if_pos c5] at H
       have c5b0 : decide (0 < (x3_1.length : Int)) = true := decide_eq_true c5
       have c5b1 : decide (0 < x3_1.length) = true := decide_eq_true (by omega)
       clear c5
       obtain ⟨ji6, hji6⟩ : ∃ j_ : Int, (wrap64 ((x3_1.length : Int) - 1)) = j_ := ⟨_, rfl⟩
       replace H : (if 0 ≤ (ji6) then (if (ji6) < (x3_1.length : Int) then (if ((rd_T26 x3_1 (ji6)).f2) = x4_1 then (if ((rd_T26 x3_1 (ji6)).f0) = (rd l0 x4_1) then (chancelref04_spans.l0 k1 l0 (x3_1.set ((ji6) : Int).toNat (⟨(rd_T26 x3_1 (ji6)).f0, (rd_T26 x3_1 (ji6)).f1, wrap64 (x4_1 + 1)⟩ : S26)) (wrap64 (x4_1 + 1))) else (if x3_1.length < 5864062014805 then (chancelref04_spans.l0 k1 l0 (x3_1 ++ [(⟨rd l0 x4_1, x4_1, wrap64 (x4_1 + 1)⟩ : S26)]) (wrap64 (x4_1 + 1))) else (none))) else (if x3_1.length < 5864062014805 then (chancelref04_spans.l0 k1 l0 (x3_1 ++ [(⟨rd l0 x4_1, x4_1, wrap64 (x4_1 + 1)⟩ : S26)]) (wrap64 (x4_1 + 1))) else (none))) else (none)) else (none)) = some r := by first | (rw [hji6] at H; exact H) | (simp only [hji6] at H ⊢; exact H)
       have hji6w : (IntKind.i64.wrap ((x3_1.length : Int) - 1)) = ji6 := (i64_w _).trans hji6
       by_cases c7 : 0 ≤ (ji6)
       ·rw [if_pos c7] at H
        have c7b0 : decide (0 ≤ (ji6)) = true := decide_eq_true c7
        clear c7
        by_cases c8 : (ji6) < (x3_1.length : Int)
        ·rw [if_pos c8] at H
         have c8b0 : decide ((ji6) < (x3_1.length : Int)) = true := decide_eq_true c8
         clear c8
         by_cases c9 : ((rd_T26 x3_1 (ji6)).f2) = x4_1
         ·rw [if_pos c9] at H
          have c9b0 : (((rd_T26 x3_1 (ji6)).f2) == x4_1) = true := beq_iff_eq.mpr c9
          have c9b1 : (((rd_T26 x3_1 (ji6)).f2) != x4_1) = false := bne_eq_false_iff_eq.mpr c9
          clear c9
          by_cases c10 : ((rd_T26 x3_1 (ji6)).f0) = (rd l0 x4_1)
          ·rw [if_pos c10] at H
           have c10b0 : (((rd_T26 x3_1 (ji6)).f0) == (rd l0 x4_1)) = true := beq_iff_eq.mpr c10
           have c10b1 : (((rd_T26 x3_1 (ji6)).f0) != (rd l0 x4_1)) = false := bne_eq_false_iff_eq.mpr c10
           clear c10
           obtain ⟨y190, hy190⟩ : ∃ y_ : List (S26), y_ = (x3_1.set ((ji6) : Int).toNat (⟨(rd_T26 x3_1 (ji6)).f0, (rd_T26 x3_1 (ji6)).f1, wrap64 (x4_1 + 1)⟩ : S26)) := ⟨_, rfl⟩
           replace H : (chancelref04_spans.l0 k1 l0 y190 (wrap64 (x4_1 + 1))) = some r:=by first|(rw [hy190];with_reducible exact H)|(have H2_:=(Option.bind_some _ _).symm.trans H;rw [hy190];with_reducible exact H2_)|(have H2_:=(Option.bind_some _ _).symm.trans H;with_reducible exact H2_)|with_reducible exact H|(rw [hy190];exact H)|exact H
           have Ny190 := Aside0.mk hy190
           clear hy190
           have H' := Aside0.mk H
           clear H
           have p186 : 0 ≤ (x4_1 : Int):=of_decide_eq_true (by first|(with_reducible assumption)|assumption)
           have q186 : x4_1 < (l0.length : Int):=of_decide_eq_true (by first|(with_reducible assumption)|assumption)
           obtain ⟨ad186, e186, hx186_0⟩ := Kd.at_int HR0.out x4_1 p186 q186
           cases e186
           replace hx186_0 := (HB.out.cell (World.block_lt_of_cell? w _ hx186_0)).trans hx186_0
           replace p186 := eq_true p186
           replace q186 := eq_true q186
           obtain ⟨Ao12, co12, eo12⟩ := Kd.R_slice HO_3.out
           subst eo12
           have p187 : 0 ≤ ((ji6) : Int):=of_decide_eq_true (by first|(with_reducible assumption)|assumption)
           have q187 : (ji6) < (x3_1.length : Int):=of_decide_eq_true (by first|(with_reducible assumption)|assumption)
           obtain ⟨ad187, e187, hx187_0, hx187_1, hx187_2⟩ := at_T26 (Kd.R_reads' HO_3.out).2.2 (ji6) p187 q187
           cases e187
           replace p187 := eq_true p187
           replace q187 := eq_true q187
           have p188 : 0 ≤ ((ji6) : Int):=of_decide_eq_true (by first|(with_reducible assumption)|assumption)
           have q188 : (ji6) < (x3_1.length : Int):=of_decide_eq_true (by first|(with_reducible assumption)|assumption)
           obtain ⟨ad188, e188, hx188_0, hx188_1, hx188_2⟩ := at_T26 (Kd.R_reads' HO_3.out).2.2 (ji6) p188 q188
           obtain rfl : ad187 = ad188 := (by injection e188)
           replace p188 := eq_true p188
           replace q188 := eq_true q188
           have p189 : 0 ≤ (x4_1 : Int):=of_decide_eq_true (by first|(with_reducible assumption)|assumption)
           have q189 : x4_1 < (l0.length : Int):=of_decide_eq_true (by first|(with_reducible assumption)|assumption)
           obtain ⟨ad189, e189, hx189_0⟩ := Kd.at_int HR0.out x4_1 p189 q189
           obtain rfl : ad186 = ad189 := (by injection e189)
           replace hx189_0 := (HB.out.cell (World.block_lt_of_cell? w _ hx189_0)).trans hx189_0
           replace p189 := eq_true p189
           replace q189 := eq_true q189
           have p11 : 0 ≤ ((ji6) : Int):=of_decide_eq_true (by first|(with_reducible assumption)|assumption)
           have q11 : ((ji6) : Int) < ((x3_1.length : Int) : Int):=of_decide_eq_true (by first|(with_reducible assumption)|assumption)
           obtain ⟨go11, co11, eo11, gb11, gl11, cl11, HG11⟩ := Kd.R_form HO_3.out (by omega)
           (first | cases eo11 | (injection eo11 with ea_ en_ ec_; (first | subst ea_ | (injection ea_ with ea_; subst ea_)); subst ec_; clear en_))
           have GB11 := Aside0.mk gb11
           have GG11 := Aside0.mk HG11
           clear gb11 gl11 HG11
           (first | simp only [add_plain] at hx187_0 | skip)
           (first | simp only [add_plain] at hx187_1 | skip)
           (first | simp only [add_plain] at hx187_2 | skip)
           (first | simp only [add_plain] at hx188_0 | skip)
           (first | simp only [add_plain] at hx188_1 | skip)
           (first | simp only [add_plain] at hx188_2 | skip)
           obtain ⟨ce11, hcl11, hM11, hcc11, hfr11⟩ := Kd.R_elem HO_3.out z26 ((ji6) : Int) p11 q11
           obtain rfl := k26_openM hM11
           have hx11_0 : wr.cell? ⟨go11, ((ji6) : Int).toNat * 3, none⟩ = some (.int .i64 ((rd_T26 x3_1 (ji6)).f0)) := hcc11 0 _ rfl
           have hx11_1 : wr.cell? ⟨go11, ((ji6) : Int).toNat * 3 + 1, none⟩ = some (.int .i64 ((rd_T26 x3_1 (ji6)).f1)) := hcc11 1 _ rfl
           have hx11_2 : wr.cell? ⟨go11, ((ji6) : Int).toNat * 3 + 2, none⟩ = some (.int .i64 ((rd_T26 x3_1 (ji6)).f2)) := hcc11 2 _ rfl
           have hf11_0 : wr.frozen? ⟨go11, ((ji6) : Int).toNat * 3, none⟩ = false := hfr11 0
           have hf11_1 : wr.frozen? ⟨go11, ((ji6) : Int).toNat * 3 + 1, none⟩ = false := hfr11 1
           have hf11_2 : wr.frozen? ⟨go11, ((ji6) : Int).toNat * 3 + 2, none⟩ = false := hfr11 2
           clear hcl11 hcc11 hfr11 hM11
           replace p11 := eq_true p11
           replace q11 := eq_true q11
           have HX13:=Aside0.mk (show Kd.R k26 26 wr w.heap.size (fun _ => True) (.slice (some ⟨go11, 0, none⟩) x3_1.length co12) x3_1 from (by (with_reducible repeat (first|apply Kd.R_alloc|apply Kd.R_drewN|apply Kd.R_drew));exact HO_3.out))
           obtain ⟨ce13, hcl13, hM13, hcc13, hfr13⟩:=Kd.R_elem HX13.out z26 ((ji6) : Int) (of_decide_eq_true (by first|(with_reducible assumption)|assumption)) (by have h_ : ((ji6) : Int) < ((x3_1.length : Int) : Int):=of_decide_eq_true (by first|(with_reducible assumption)|assumption);first|exact h_|(have e_:=(Kd.R_reads' HO_3.out).1;omega)|simpa using h_)
           obtain rfl := k26_openM hM13
           have HP13:=Kd.R_seg HX13.out ((ji6) : Int) (of_decide_eq_true (by first|(with_reducible assumption)|assumption)) (by have h_ : ((ji6) : Int) < ((x3_1.length : Int) : Int):=of_decide_eq_true (by first|(with_reducible assumption)|assumption);first|exact h_|(have e_:=(Kd.R_reads' HO_3.out).1;omega)|simpa using h_) (seg:=[.int .i64 (wrap64 (x4_1 + 1))]) (j:=2) hcl13 hcc13 (show 3 ≤ 3 from by decide) (x':=(⟨(rd_T26 x3_1 (ji6)).f0, (rd_T26 x3_1 (ji6)).f1, wrap64 (x4_1 + 1)⟩ : S26)) (k26_mkM _ _ _ (⟨(rd_T26 x3_1 (ji6)).f0, (rd_T26 x3_1 (ji6)).f1, wrap64 (x4_1 + 1)⟩ : S26) ) (fun _ hk => hk)
           have hx13_2 := hcc13 2 _ rfl
           (try simp only [show (k26).sz = 3 from rfl, Nat.mul_one, Nat.add_zero] at hx13_2)
           have hf13_2 := hfr13 2
           (try simp only [show (k26).sz = 3 from rfl, Nat.mul_one, Nat.add_zero] at hf13_2)
           clear hcl13 hcc13 hfr13 hM13
           go_wp2_with (first|((with_reducible refine gate_store (t:=3) (p:=64) rfl ?_);(try (rw [drewN_self wr];generalize hq_ : World.drewN wr _ = wr;have n0_:=Aside0.mk (Kd.R_at hq_ HO_3.out);have n1_:=Aside0.mk (below_at hq_ HB.out);clear hq_ HO_3 HB;have HO_3:=n0_;have HB:=n1_;clear n0_ n1_;(try (have HX13:=Aside0.mk (show Kd.R k26 26 wr w.heap.size (fun _ => True) (.slice (some ⟨go11, 0, none⟩) x3_1.length co12) x3_1 from (by (with_reducible repeat (first|apply Kd.R_alloc|apply Kd.R_drewN|apply Kd.R_drew));exact HO_3.out))));(try (obtain ⟨ce13, hcl13, hM13, hcc13, hfr13⟩:=Kd.R_elem HX13.out z26 ((ji6) : Int) (of_decide_eq_true (by first|(with_reducible assumption)|assumption)) (by have h_ : ((ji6) : Int) < ((x3_1.length : Int) : Int):=of_decide_eq_true (by first|(with_reducible assumption)|assumption);first|exact h_|(have e_:=(Kd.R_reads' HO_3.out).1;omega)|simpa using h_)));(try (obtain rfl:=k26_openM hM13));(try (have HP13:=Kd.R_seg HX13.out ((ji6) : Int) (of_decide_eq_true (by first|(with_reducible assumption)|assumption)) (by have h_ : ((ji6) : Int) < ((x3_1.length : Int) : Int):=of_decide_eq_true (by first|(with_reducible assumption)|assumption);first|exact h_|(have e_:=(Kd.R_reads' HO_3.out).1;omega)|simpa using h_) (seg:=[.int .i64 (wrap64 (x4_1 + 1))]) (j:=2) hcl13 hcc13 (show 3 ≤ 3 from by decide) (x':=(⟨(rd_T26 x3_1 (ji6)).f0, (rd_T26 x3_1 (ji6)).f1, wrap64 (x4_1 + 1)⟩ : S26)) (k26_mkM _ _ _ (⟨(rd_T26 x3_1 (ji6)).f0, (rd_T26 x3_1 (ji6)).f1, wrap64 (x4_1 + 1)⟩ : S26) ) (fun _ hk => hk)));(try (have hx13_2:=hcc13 2 _ rfl));(try (try simp only [show (k26).sz = 3 from rfl, Nat.mul_one, Nat.add_zero] at hx13_2));(try (have hf13_2:=hfr13 2));(try (try simp only [show (k26).sz = 3 from rfl, Nat.mul_one, Nat.add_zero] at hf13_2));(try (clear hcl13 hcc13 hfr13 hM13))));refine store_event (t:=3) (p:=64) (v:=?vo_w14) (w1:=(wr.setCell ⟨go11, ((ji6) : Int).toNat * 3 + 2, none⟩ (.int .i64 (wrap64 (x4_1 + 1))))) ?hg ?ho ?hn ?hr ?_;(case ho => rfl);(case hg => rfl);(case hn => rfl);(case hr => first|(go_simp;done)|(go_simp;rfl));intro w14 hw;have hg : wr.grownBy w14 (some go11):=(by rw [hw];exact HP13.2);have hp_ : Kd.R k26 26 w14 w.heap.size (fun _ => True) (.slice (some ⟨go11, 0, none⟩) x3_1.length co12) y190:=(by rw [hw, Ny190.out];exact HP13.1);clear HP13;have n0_:=Aside0.mk (hp_);have n1_:=Aside0.mk ((by rw [hw];exact below_set (HB.out) GB11.out : Below w.heap.size w w14));clear HO_3;clear HB;have HO_3:=n0_;have HB:=n1_;clear n0_ n1_;clear hg hw hp_))
           repeat (go_quiet (first|((with_reducible refine gate_store (t:=3) (p:=64) rfl ?_);(try (rw [drewN_self wr];generalize hq_ : World.drewN wr _ = wr;have n0_:=Aside0.mk (Kd.R_at hq_ HO_3.out);have n1_:=Aside0.mk (below_at hq_ HB.out);clear hq_ HO_3 HB;have HO_3:=n0_;have HB:=n1_;clear n0_ n1_;(try (have HX13:=Aside0.mk (show Kd.R k26 26 wr w.heap.size (fun _ => True) (.slice (some ⟨go11, 0, none⟩) x3_1.length co12) x3_1 from (by (with_reducible repeat (first|apply Kd.R_alloc|apply Kd.R_drewN|apply Kd.R_drew));exact HO_3.out))));(try (obtain ⟨ce13, hcl13, hM13, hcc13, hfr13⟩:=Kd.R_elem HX13.out z26 ((ji6) : Int) (of_decide_eq_true (by first|(with_reducible assumption)|assumption)) (by have h_ : ((ji6) : Int) < ((x3_1.length : Int) : Int):=of_decide_eq_true (by first|(with_reducible assumption)|assumption);first|exact h_|(have e_:=(Kd.R_reads' HO_3.out).1;omega)|simpa using h_)));(try (obtain rfl:=k26_openM hM13));(try (have HP13:=Kd.R_seg HX13.out ((ji6) : Int) (of_decide_eq_true (by first|(with_reducible assumption)|assumption)) (by have h_ : ((ji6) : Int) < ((x3_1.length : Int) : Int):=of_decide_eq_true (by first|(with_reducible assumption)|assumption);first|exact h_|(have e_:=(Kd.R_reads' HO_3.out).1;omega)|simpa using h_) (seg:=[.int .i64 (wrap64 (x4_1 + 1))]) (j:=2) hcl13 hcc13 (show 3 ≤ 3 from by decide) (x':=(⟨(rd_T26 x3_1 (ji6)).f0, (rd_T26 x3_1 (ji6)).f1, wrap64 (x4_1 + 1)⟩ : S26)) (k26_mkM _ _ _ (⟨(rd_T26 x3_1 (ji6)).f0, (rd_T26 x3_1 (ji6)).f1, wrap64 (x4_1 + 1)⟩ : S26) ) (fun _ hk => hk)));(try (have hx13_2:=hcc13 2 _ rfl));(try (try simp only [show (k26).sz = 3 from rfl, Nat.mul_one, Nat.add_zero] at hx13_2));(try (have hf13_2:=hfr13 2));(try (try simp only [show (k26).sz = 3 from rfl, Nat.mul_one, Nat.add_zero] at hf13_2));(try (clear hcl13 hcc13 hfr13 hM13))));refine store_event (t:=3) (p:=64) (v:=?vo_w14) (w1:=(wr.setCell ⟨go11, ((ji6) : Int).toNat * 3 + 2, none⟩ (.int .i64 (wrap64 (x4_1 + 1))))) ?hg ?ho ?hn ?hr ?_;(case ho => rfl);(case hg => rfl);(case hn => rfl);(case hr => first|(go_simp;done)|(go_simp;rfl));intro w14 hw;have hg : wr.grownBy w14 (some go11):=(by rw [hw];exact HP13.2);have hp_ : Kd.R k26 26 w14 w.heap.size (fun _ => True) (.slice (some ⟨go11, 0, none⟩) x3_1.length co12) y190:=(by rw [hw, Ny190.out];exact HP13.1);clear HP13;have n0_:=Aside0.mk (hp_);have n1_:=Aside0.mk ((by rw [hw];exact below_set (HB.out) GB11.out : Below w.heap.size w w14));clear HO_3;clear HB;have HO_3:=n0_;have HB:=n1_;clear n0_ n1_;clear hg hw hp_));try go_wp2_with (first|((with_reducible refine gate_store (t:=3) (p:=64) rfl ?_);(try (rw [drewN_self wr];generalize hq_ : World.drewN wr _ = wr;have n0_:=Aside0.mk (Kd.R_at hq_ HO_3.out);have n1_:=Aside0.mk (below_at hq_ HB.out);clear hq_ HO_3 HB;have HO_3:=n0_;have HB:=n1_;clear n0_ n1_;(try (have HX13:=Aside0.mk (show Kd.R k26 26 wr w.heap.size (fun _ => True) (.slice (some ⟨go11, 0, none⟩) x3_1.length co12) x3_1 from (by (with_reducible repeat (first|apply Kd.R_alloc|apply Kd.R_drewN|apply Kd.R_drew));exact HO_3.out))));(try (obtain ⟨ce13, hcl13, hM13, hcc13, hfr13⟩:=Kd.R_elem HX13.out z26 ((ji6) : Int) (of_decide_eq_true (by first|(with_reducible assumption)|assumption)) (by have h_ : ((ji6) : Int) < ((x3_1.length : Int) : Int):=of_decide_eq_true (by first|(with_reducible assumption)|assumption);first|exact h_|(have e_:=(Kd.R_reads' HO_3.out).1;omega)|simpa using h_)));(try (obtain rfl:=k26_openM hM13));(try (have HP13:=Kd.R_seg HX13.out ((ji6) : Int) (of_decide_eq_true (by first|(with_reducible assumption)|assumption)) (by have h_ : ((ji6) : Int) < ((x3_1.length : Int) : Int):=of_decide_eq_true (by first|(with_reducible assumption)|assumption);first|exact h_|(have e_:=(Kd.R_reads' HO_3.out).1;omega)|simpa using h_) (seg:=[.int .i64 (wrap64 (x4_1 + 1))]) (j:=2) hcl13 hcc13 (show 3 ≤ 3 from by decide) (x':=(⟨(rd_T26 x3_1 (ji6)).f0, (rd_T26 x3_1 (ji6)).f1, wrap64 (x4_1 + 1)⟩ : S26)) (k26_mkM _ _ _ (⟨(rd_T26 x3_1 (ji6)).f0, (rd_T26 x3_1 (ji6)).f1, wrap64 (x4_1 + 1)⟩ : S26) ) (fun _ hk => hk)));(try (have hx13_2:=hcc13 2 _ rfl));(try (try simp only [show (k26).sz = 3 from rfl, Nat.mul_one, Nat.add_zero] at hx13_2));(try (have hf13_2:=hfr13 2));(try (try simp only [show (k26).sz = 3 from rfl, Nat.mul_one, Nat.add_zero] at hf13_2));(try (clear hcl13 hcc13 hfr13 hM13))));refine store_event (t:=3) (p:=64) (v:=?vo_w14) (w1:=(wr.setCell ⟨go11, ((ji6) : Int).toNat * 3 + 2, none⟩ (.int .i64 (wrap64 (x4_1 + 1))))) ?hg ?ho ?hn ?hr ?_;(case ho => rfl);(case hg => rfl);(case hn => rfl);(case hr => first|(go_simp;done)|(go_simp;rfl));intro w14 hw;have hg : wr.grownBy w14 (some go11):=(by rw [hw];exact HP13.2);have hp_ : Kd.R k26 26 w14 w.heap.size (fun _ => True) (.slice (some ⟨go11, 0, none⟩) x3_1.length co12) y190:=(by rw [hw, Ny190.out];exact HP13.1);clear HP13;have n0_:=Aside0.mk (hp_);have n1_:=Aside0.mk ((by rw [hw];exact below_set (HB.out) GB11.out : Below w.heap.size w w14));clear HO_3;clear HB;have HO_3:=n0_;have HB:=n1_;clear n0_ n1_;clear hg hw hp_)))
           go_roundg k1
           case measure => have := HK1.out; omega
           case rel => exact ⟨(y190), (wrap64 (x4_1 + 1)), (by first|rfl|(simp;done)|(simp [*];done)), H', ⟨by have:=HK1.out;omega⟩, ⟨by (with_reducible repeat (first|apply Kd.R_alloc|apply Kd.R_drewN|apply Kd.R_drew));exact HO_3.out⟩, ⟨by repeat (first|(with_reducible first|exact HB.out|apply below_alloc|apply pw_below_drewN|apply below_drew1)|exact HB.out)⟩⟩
          ·rw [if_neg c10] at H
           have c10b0 : (((rd_T26 x3_1 (ji6)).f0) == (rd l0 x4_1)) = false := beq_eq_false_iff_ne.mpr c10
           have c10b1 : (((rd_T26 x3_1 (ji6)).f0) != (rd l0 x4_1)) = true := bne_iff_ne.mpr c10
           by_cases c15 : x3_1.length < 5864062014805
           ·rw [if_pos c15] at H
            have LMc15 := Aside0.mk c15
            clear c15
            obtain ⟨y192, hy192⟩ : ∃ y_ : List (S26), y_ = (x3_1 ++ [(⟨rd l0 x4_1, x4_1, wrap64 (x4_1 + 1)⟩ : S26)]) := ⟨_, rfl⟩
            replace H : (chancelref04_spans.l0 k1 l0 y192 (wrap64 (x4_1 + 1))) = some r:=by first|(rw [hy192];with_reducible exact H)|(have H2_:=(Option.bind_some _ _).symm.trans H;rw [hy192];with_reducible exact H2_)|(have H2_:=(Option.bind_some _ _).symm.trans H;with_reducible exact H2_)|with_reducible exact H|(rw [hy192];exact H)|exact H
            have Ny192 := Aside0.mk hy192
            clear hy192
            have H' := Aside0.mk H
            clear H
            have p186 : 0 ≤ (x4_1 : Int):=of_decide_eq_true (by first|(with_reducible assumption)|assumption)
            have q186 : x4_1 < (l0.length : Int):=of_decide_eq_true (by first|(with_reducible assumption)|assumption)
            obtain ⟨ad186, e186, hx186_0⟩ := Kd.at_int HR0.out x4_1 p186 q186
            cases e186
            replace hx186_0 := (HB.out.cell (World.block_lt_of_cell? w _ hx186_0)).trans hx186_0
            replace p186 := eq_true p186
            replace q186 := eq_true q186
            obtain ⟨Ao16, co16, eo16⟩ := Kd.R_slice HO_3.out
            subst eo16
            have p187 : 0 ≤ ((ji6) : Int):=of_decide_eq_true (by first|(with_reducible assumption)|assumption)
            have q187 : (ji6) < (x3_1.length : Int):=of_decide_eq_true (by first|(with_reducible assumption)|assumption)
            obtain ⟨ad187, e187, hx187_0, hx187_1, hx187_2⟩ := at_T26 (Kd.R_reads' HO_3.out).2.2 (ji6) p187 q187
            cases e187
            replace p187 := eq_true p187
            replace q187 := eq_true q187
            have p188 : 0 ≤ ((ji6) : Int):=of_decide_eq_true (by first|(with_reducible assumption)|assumption)
            have q188 : (ji6) < (x3_1.length : Int):=of_decide_eq_true (by first|(with_reducible assumption)|assumption)
            obtain ⟨ad188, e188, hx188_0, hx188_1, hx188_2⟩ := at_T26 (Kd.R_reads' HO_3.out).2.2 (ji6) p188 q188
            obtain rfl : ad187 = ad188 := (by injection e188)
            replace p188 := eq_true p188
            replace q188 := eq_true q188
            have p189 : 0 ≤ (x4_1 : Int):=of_decide_eq_true (by first|(with_reducible assumption)|assumption)
            have q189 : x4_1 < (l0.length : Int):=of_decide_eq_true (by first|(with_reducible assumption)|assumption)
            obtain ⟨ad189, e189, hx189_0⟩ := Kd.at_int HR0.out x4_1 p189 q189
            obtain rfl : ad186 = ad189 := (by injection e189)
            replace hx189_0 := (HB.out.cell (World.block_lt_of_cell? w _ hx189_0)).trans hx189_0
            replace p189 := eq_true p189
            replace q189 := eq_true q189
            have p191 : 0 ≤ (x4_1 : Int):=of_decide_eq_true (by first|(with_reducible assumption)|assumption)
            have q191 : x4_1 < (l0.length : Int):=of_decide_eq_true (by first|(with_reducible assumption)|assumption)
            obtain ⟨ad191, e191, hx191_0⟩ := Kd.at_int HR0.out x4_1 p191 q191
            obtain rfl : ad186 = ad191 := (by injection e191)
            replace hx191_0 := (HB.out.cell (World.block_lt_of_cell? w _ hx191_0)).trans hx191_0
            replace p191 := eq_true p191
            replace q191 := eq_true q191
            go_wp2_with (first|((with_reducible refine gate_builtin (b:=.append) (xs:=#[.tmp 11, .tmp 20]) rfl ?_);(try (refine gate_guard (by rfl) ?_;dsimp only));at_builtin;refine Kd.R_append k26 (w0:=w) w.heap.size rfl (.tmp 11) (.tmp 20) 22 26 (.agg #[(.int .i64 0), (.int .i64 0), (.int .i64 0)]) 24 rfl Try.underlying22 info26 rfl (by decide) (by omega) (.slice (some ad187) x3_1.length co16) x3_1 (⟨rd l0 x4_1, x4_1, wrap64 (x4_1 + 1)⟩ : S26) [.int .i64 (rd l0 x4_1), .int .i64 x4_1, .int .i64 (wrap64 (x4_1 + 1))] (fun _ => True) (fun _ => False) rfl rfl ?aP (fun _ hk => hk.elim) ?aF ?aO ?aB ?aS ?aL ?_;(case aP => exact k26_mkM _ _ _ (⟨rd l0 x4_1, x4_1, wrap64 (x4_1 + 1)⟩ : S26));(case aB => exact (by repeat (first|(with_reducible first|exact HB.out|apply below_alloc|apply pw_below_drewN|apply below_drew1)|exact HB.out)));(case aF => exact (fun _ _ => trivial));(case aO => exact (by (with_reducible repeat (first|apply Kd.R_alloc|apply Kd.R_drewN|apply Kd.R_drew));exact HO_3.out));(case aS => exact (below_size (by repeat (first|(with_reducible first|exact HB.out|apply below_alloc|apply pw_below_drewN|apply below_drew1)|exact HB.out))));(case aL => have:=LMc15.out;omega);intro v193 w17 ho hb hg hat;rw [← Ny192.out] at ho;have n0_:=Aside0.mk (hb);have n1_:=Aside0.mk (ho);clear HB;clear HO_3;have HB:=n0_;have HO194:=n1_;clear n0_ n1_;clear ho hb hg hat))
            repeat (go_quiet (first|((with_reducible refine gate_builtin (b:=.append) (xs:=#[.tmp 11, .tmp 20]) rfl ?_);(try (refine gate_guard (by rfl) ?_;dsimp only));at_builtin;refine Kd.R_append k26 (w0:=w) w.heap.size rfl (.tmp 11) (.tmp 20) 22 26 (.agg #[(.int .i64 0), (.int .i64 0), (.int .i64 0)]) 24 rfl Try.underlying22 info26 rfl (by decide) (by omega) (.slice (some ad187) x3_1.length co16) x3_1 (⟨rd l0 x4_1, x4_1, wrap64 (x4_1 + 1)⟩ : S26) [.int .i64 (rd l0 x4_1), .int .i64 x4_1, .int .i64 (wrap64 (x4_1 + 1))] (fun _ => True) (fun _ => False) rfl rfl ?aP (fun _ hk => hk.elim) ?aF ?aO ?aB ?aS ?aL ?_;(case aP => exact k26_mkM _ _ _ (⟨rd l0 x4_1, x4_1, wrap64 (x4_1 + 1)⟩ : S26));(case aB => exact (by repeat (first|(with_reducible first|exact HB.out|apply below_alloc|apply pw_below_drewN|apply below_drew1)|exact HB.out)));(case aF => exact (fun _ _ => trivial));(case aO => exact (by (with_reducible repeat (first|apply Kd.R_alloc|apply Kd.R_drewN|apply Kd.R_drew));exact HO_3.out));(case aS => exact (below_size (by repeat (first|(with_reducible first|exact HB.out|apply below_alloc|apply pw_below_drewN|apply below_drew1)|exact HB.out))));(case aL => have:=LMc15.out;omega);intro v193 w17 ho hb hg hat;rw [← Ny192.out] at ho;have n0_:=Aside0.mk (hb);have n1_:=Aside0.mk (ho);clear HB;clear HO_3;have HB:=n0_;have HO194:=n1_;clear n0_ n1_;clear ho hb hg hat));try go_wp2_with (first|((with_reducible refine gate_builtin (b:=.append) (xs:=#[.tmp 11, .tmp 20]) rfl ?_);(try (refine gate_guard (by rfl) ?_;dsimp only));at_builtin;refine Kd.R_append k26 (w0:=w) w.heap.size rfl (.tmp 11) (.tmp 20) 22 26 (.agg #[(.int .i64 0), (.int .i64 0), (.int .i64 0)]) 24 rfl Try.underlying22 info26 rfl (by decide) (by omega) (.slice (some ad187) x3_1.length co16) x3_1 (⟨rd l0 x4_1, x4_1, wrap64 (x4_1 + 1)⟩ : S26) [.int .i64 (rd l0 x4_1), .int .i64 x4_1, .int .i64 (wrap64 (x4_1 + 1))] (fun _ => True) (fun _ => False) rfl rfl ?aP (fun _ hk => hk.elim) ?aF ?aO ?aB ?aS ?aL ?_;(case aP => exact k26_mkM _ _ _ (⟨rd l0 x4_1, x4_1, wrap64 (x4_1 + 1)⟩ : S26));(case aB => exact (by repeat (first|(with_reducible first|exact HB.out|apply below_alloc|apply pw_below_drewN|apply below_drew1)|exact HB.out)));(case aF => exact (fun _ _ => trivial));(case aO => exact (by (with_reducible repeat (first|apply Kd.R_alloc|apply Kd.R_drewN|apply Kd.R_drew));exact HO_3.out));(case aS => exact (below_size (by repeat (first|(with_reducible first|exact HB.out|apply below_alloc|apply pw_below_drewN|apply below_drew1)|exact HB.out))));(case aL => have:=LMc15.out;omega);intro v193 w17 ho hb hg hat;rw [← Ny192.out] at ho;have n0_:=Aside0.mk (hb);have n1_:=Aside0.mk (ho);clear HB;clear HO_3;have HB:=n0_;have HO194:=n1_;clear n0_ n1_;clear ho hb hg hat)))
            go_roundg k1
            case measure => have := HK1.out; omega
            case rel => exact ⟨(y192), (wrap64 (x4_1 + 1)), (by first|rfl|(simp;done)|(simp [*];done)), H', ⟨by have:=HK1.out;omega⟩, ⟨by (with_reducible repeat (first|apply Kd.R_alloc|apply Kd.R_drewN|apply Kd.R_drew));exact HO194.out⟩, ⟨by repeat (first|(with_reducible first|exact HB.out|apply below_alloc|apply pw_below_drewN|apply below_drew1)|exact HB.out)⟩⟩
           ·rw [if_neg c15] at H
            exact absurd H (by simp)
         ·rw [if_neg c9] at H
          have c9b0 : (((rd_T26 x3_1 (ji6)).f2) == x4_1) = false := beq_eq_false_iff_ne.mpr c9
          have c9b1 : (((rd_T26 x3_1 (ji6)).f2) != x4_1) = true := bne_iff_ne.mpr c9
          by_cases c18 : x3_1.length < 5864062014805
          ·rw [if_pos c18] at H
           have LMc18 := Aside0.mk c18
           clear c18
           obtain ⟨y196, hy196⟩ : ∃ y_ : List (S26), y_ = (x3_1 ++ [(⟨rd l0 x4_1, x4_1, wrap64 (x4_1 + 1)⟩ : S26)]) := ⟨_, rfl⟩
           replace H : (chancelref04_spans.l0 k1 l0 y196 (wrap64 (x4_1 + 1))) = some r:=by first|(rw [hy196];with_reducible exact H)|(have H2_:=(Option.bind_some _ _).symm.trans H;rw [hy196];with_reducible exact H2_)|(have H2_:=(Option.bind_some _ _).symm.trans H;with_reducible exact H2_)|with_reducible exact H|(rw [hy196];exact H)|exact H
           have Ny196 := Aside0.mk hy196
           clear hy196
           have H' := Aside0.mk H
           clear H
           have p186 : 0 ≤ (x4_1 : Int):=of_decide_eq_true (by first|(with_reducible assumption)|assumption)
           have q186 : x4_1 < (l0.length : Int):=of_decide_eq_true (by first|(with_reducible assumption)|assumption)
           obtain ⟨ad186, e186, hx186_0⟩ := Kd.at_int HR0.out x4_1 p186 q186
           cases e186
           replace hx186_0 := (HB.out.cell (World.block_lt_of_cell? w _ hx186_0)).trans hx186_0
           replace p186 := eq_true p186
           replace q186 := eq_true q186
           obtain ⟨Ao19, co19, eo19⟩ := Kd.R_slice HO_3.out
           subst eo19
           have p187 : 0 ≤ ((ji6) : Int):=of_decide_eq_true (by first|(with_reducible assumption)|assumption)
           have q187 : (ji6) < (x3_1.length : Int):=of_decide_eq_true (by first|(with_reducible assumption)|assumption)
           obtain ⟨ad187, e187, hx187_0, hx187_1, hx187_2⟩ := at_T26 (Kd.R_reads' HO_3.out).2.2 (ji6) p187 q187
           cases e187
           replace p187 := eq_true p187
           replace q187 := eq_true q187
           have p195 : 0 ≤ (x4_1 : Int):=of_decide_eq_true (by first|(with_reducible assumption)|assumption)
           have q195 : x4_1 < (l0.length : Int):=of_decide_eq_true (by first|(with_reducible assumption)|assumption)
           obtain ⟨ad195, e195, hx195_0⟩ := Kd.at_int HR0.out x4_1 p195 q195
           obtain rfl : ad186 = ad195 := (by injection e195)
           replace hx195_0 := (HB.out.cell (World.block_lt_of_cell? w _ hx195_0)).trans hx195_0
           replace p195 := eq_true p195
           replace q195 := eq_true q195
           go_wp2_with (first|((with_reducible refine gate_builtin (b:=.append) (xs:=#[.tmp 11, .tmp 20]) rfl ?_);(try (refine gate_guard (by rfl) ?_;dsimp only));at_builtin;refine Kd.R_append k26 (w0:=w) w.heap.size rfl (.tmp 11) (.tmp 20) 22 26 (.agg #[(.int .i64 0), (.int .i64 0), (.int .i64 0)]) 24 rfl Try.underlying22 info26 rfl (by decide) (by omega) (.slice (some ad187) x3_1.length co19) x3_1 (⟨rd l0 x4_1, x4_1, wrap64 (x4_1 + 1)⟩ : S26) [.int .i64 (rd l0 x4_1), .int .i64 x4_1, .int .i64 (wrap64 (x4_1 + 1))] (fun _ => True) (fun _ => False) rfl rfl ?aP (fun _ hk => hk.elim) ?aF ?aO ?aB ?aS ?aL ?_;(case aP => exact k26_mkM _ _ _ (⟨rd l0 x4_1, x4_1, wrap64 (x4_1 + 1)⟩ : S26));(case aB => exact (by repeat (first|(with_reducible first|exact HB.out|apply below_alloc|apply pw_below_drewN|apply below_drew1)|exact HB.out)));(case aF => exact (fun _ _ => trivial));(case aO => exact (by (with_reducible repeat (first|apply Kd.R_alloc|apply Kd.R_drewN|apply Kd.R_drew));exact HO_3.out));(case aS => exact (below_size (by repeat (first|(with_reducible first|exact HB.out|apply below_alloc|apply pw_below_drewN|apply below_drew1)|exact HB.out))));(case aL => have:=LMc18.out;omega);intro v197 w20 ho hb hg hat;rw [← Ny196.out] at ho;have n0_:=Aside0.mk (hb);have n1_:=Aside0.mk (ho);clear HB;clear HO_3;have HB:=n0_;have HO198:=n1_;clear n0_ n1_;clear ho hb hg hat))
           repeat (go_quiet (first|((with_reducible refine gate_builtin (b:=.append) (xs:=#[.tmp 11, .tmp 20]) rfl ?_);(try (refine gate_guard (by rfl) ?_;dsimp only));at_builtin;refine Kd.R_append k26 (w0:=w) w.heap.size rfl (.tmp 11) (.tmp 20) 22 26 (.agg #[(.int .i64 0), (.int .i64 0), (.int .i64 0)]) 24 rfl Try.underlying22 info26 rfl (by decide) (by omega) (.slice (some ad187) x3_1.length co19) x3_1 (⟨rd l0 x4_1, x4_1, wrap64 (x4_1 + 1)⟩ : S26) [.int .i64 (rd l0 x4_1), .int .i64 x4_1, .int .i64 (wrap64 (x4_1 + 1))] (fun _ => True) (fun _ => False) rfl rfl ?aP (fun _ hk => hk.elim) ?aF ?aO ?aB ?aS ?aL ?_;(case aP => exact k26_mkM _ _ _ (⟨rd l0 x4_1, x4_1, wrap64 (x4_1 + 1)⟩ : S26));(case aB => exact (by repeat (first|(with_reducible first|exact HB.out|apply below_alloc|apply pw_below_drewN|apply below_drew1)|exact HB.out)));(case aF => exact (fun _ _ => trivial));(case aO => exact (by (with_reducible repeat (first|apply Kd.R_alloc|apply Kd.R_drewN|apply Kd.R_drew));exact HO_3.out));(case aS => exact (below_size (by repeat (first|(with_reducible first|exact HB.out|apply below_alloc|apply pw_below_drewN|apply below_drew1)|exact HB.out))));(case aL => have:=LMc18.out;omega);intro v197 w20 ho hb hg hat;rw [← Ny196.out] at ho;have n0_:=Aside0.mk (hb);have n1_:=Aside0.mk (ho);clear HB;clear HO_3;have HB:=n0_;have HO198:=n1_;clear n0_ n1_;clear ho hb hg hat));try go_wp2_with (first|((with_reducible refine gate_builtin (b:=.append) (xs:=#[.tmp 11, .tmp 20]) rfl ?_);(try (refine gate_guard (by rfl) ?_;dsimp only));at_builtin;refine Kd.R_append k26 (w0:=w) w.heap.size rfl (.tmp 11) (.tmp 20) 22 26 (.agg #[(.int .i64 0), (.int .i64 0), (.int .i64 0)]) 24 rfl Try.underlying22 info26 rfl (by decide) (by omega) (.slice (some ad187) x3_1.length co19) x3_1 (⟨rd l0 x4_1, x4_1, wrap64 (x4_1 + 1)⟩ : S26) [.int .i64 (rd l0 x4_1), .int .i64 x4_1, .int .i64 (wrap64 (x4_1 + 1))] (fun _ => True) (fun _ => False) rfl rfl ?aP (fun _ hk => hk.elim) ?aF ?aO ?aB ?aS ?aL ?_;(case aP => exact k26_mkM _ _ _ (⟨rd l0 x4_1, x4_1, wrap64 (x4_1 + 1)⟩ : S26));(case aB => exact (by repeat (first|(with_reducible first|exact HB.out|apply below_alloc|apply pw_below_drewN|apply below_drew1)|exact HB.out)));(case aF => exact (fun _ _ => trivial));(case aO => exact (by (with_reducible repeat (first|apply Kd.R_alloc|apply Kd.R_drewN|apply Kd.R_drew));exact HO_3.out));(case aS => exact (below_size (by repeat (first|(with_reducible first|exact HB.out|apply below_alloc|apply pw_below_drewN|apply below_drew1)|exact HB.out))));(case aL => have:=LMc18.out;omega);intro v197 w20 ho hb hg hat;rw [← Ny196.out] at ho;have n0_:=Aside0.mk (hb);have n1_:=Aside0.mk (ho);clear HB;clear HO_3;have HB:=n0_;have HO198:=n1_;clear n0_ n1_;clear ho hb hg hat)))
           go_roundg k1
           case measure => have := HK1.out; omega
           case rel => exact ⟨(y196), (wrap64 (x4_1 + 1)), (by first|rfl|(simp;done)|(simp [*];done)), H', ⟨by have:=HK1.out;omega⟩, ⟨by (with_reducible repeat (first|apply Kd.R_alloc|apply Kd.R_drewN|apply Kd.R_drew));exact HO198.out⟩, ⟨by repeat (first|(with_reducible first|exact HB.out|apply below_alloc|apply pw_below_drewN|apply below_drew1)|exact HB.out)⟩⟩
          ·rw [if_neg c18] at H
           exact absurd H (by simp)
        ·rw [if_neg c8] at H
         exact absurd H (by simp)
       ·rw [if_neg c7] at H
        exact absurd H (by simp)
      ·rw [if_neg c5] at H
       have c5b0 : decide (0 < (x3_1.length : Int)) = false := decide_eq_false c5
       have c5b1 : decide (0 < x3_1.length) = false := decide_eq_false (by omega)
       clear c5
       by_cases c21 : x3_1.length < 5864062014805
       ·rw [if_pos c21] at H
        have LMc21 := Aside0.mk c21
        clear c21
        obtain ⟨y200, hy200⟩ : ∃ y_ : List (S26), y_ = (x3_1 ++ [(⟨rd l0 x4_1, x4_1, wrap64 (x4_1 + 1)⟩ : S26)]) := ⟨_, rfl⟩
        replace H : (chancelref04_spans.l0 k1 l0 y200 (wrap64 (x4_1 + 1))) = some r:=by first|(rw [hy200];with_reducible exact H)|(have H2_:=(Option.bind_some _ _).symm.trans H;rw [hy200];with_reducible exact H2_)|(have H2_:=(Option.bind_some _ _).symm.trans H;with_reducible exact H2_)|with_reducible exact H|(rw [hy200];exact H)|exact H
        have Ny200 := Aside0.mk hy200
        clear hy200
        have H' := Aside0.mk H
        clear H
        have p186 : 0 ≤ (x4_1 : Int):=of_decide_eq_true (by first|(with_reducible assumption)|assumption)
        have q186 : x4_1 < (l0.length : Int):=of_decide_eq_true (by first|(with_reducible assumption)|assumption)
        obtain ⟨ad186, e186, hx186_0⟩ := Kd.at_int HR0.out x4_1 p186 q186
        cases e186
        replace hx186_0 := (HB.out.cell (World.block_lt_of_cell? w _ hx186_0)).trans hx186_0
        replace p186 := eq_true p186
        replace q186 := eq_true q186
        obtain ⟨Ao22, co22, eo22⟩ := Kd.R_slice HO_3.out
        subst eo22
        have p199 : 0 ≤ (x4_1 : Int):=of_decide_eq_true (by first|(with_reducible assumption)|assumption)
        have q199 : x4_1 < (l0.length : Int):=of_decide_eq_true (by first|(with_reducible assumption)|assumption)
        obtain ⟨ad199, e199, hx199_0⟩ := Kd.at_int HR0.out x4_1 p199 q199
        obtain rfl : ad186 = ad199 := (by injection e199)
        replace hx199_0 := (HB.out.cell (World.block_lt_of_cell? w _ hx199_0)).trans hx199_0
        replace p199 := eq_true p199
        replace q199 := eq_true q199
        go_wp2_with (first|((with_reducible refine gate_builtin (b:=.append) (xs:=#[.tmp 11, .tmp 20]) rfl ?_);(try (refine gate_guard (by rfl) ?_;dsimp only));at_builtin;refine Kd.R_append k26 (w0:=w) w.heap.size rfl (.tmp 11) (.tmp 20) 22 26 (.agg #[(.int .i64 0), (.int .i64 0), (.int .i64 0)]) 24 rfl Try.underlying22 info26 rfl (by decide) (by omega) (.slice Ao22 x3_1.length co22) x3_1 (⟨rd l0 x4_1, x4_1, wrap64 (x4_1 + 1)⟩ : S26) [.int .i64 (rd l0 x4_1), .int .i64 x4_1, .int .i64 (wrap64 (x4_1 + 1))] (fun _ => True) (fun _ => False) rfl rfl ?aP (fun _ hk => hk.elim) ?aF ?aO ?aB ?aS ?aL ?_;(case aP => exact k26_mkM _ _ _ (⟨rd l0 x4_1, x4_1, wrap64 (x4_1 + 1)⟩ : S26));(case aB => exact (by repeat (first|(with_reducible first|exact HB.out|apply below_alloc|apply pw_below_drewN|apply below_drew1)|exact HB.out)));(case aF => exact (fun _ _ => trivial));(case aO => exact (by (with_reducible repeat (first|apply Kd.R_alloc|apply Kd.R_drewN|apply Kd.R_drew));exact HO_3.out));(case aS => exact (below_size (by repeat (first|(with_reducible first|exact HB.out|apply below_alloc|apply pw_below_drewN|apply below_drew1)|exact HB.out))));(case aL => have:=LMc21.out;omega);intro v201 w23 ho hb hg hat;rw [← Ny200.out] at ho;have n0_:=Aside0.mk (hb);have n1_:=Aside0.mk (ho);clear HB;clear HO_3;have HB:=n0_;have HO202:=n1_;clear n0_ n1_;clear ho hb hg hat))
        repeat (go_quiet (first|((with_reducible refine gate_builtin (b:=.append) (xs:=#[.tmp 11, .tmp 20]) rfl ?_);(try (refine gate_guard (by rfl) ?_;dsimp only));at_builtin;refine Kd.R_append k26 (w0:=w) w.heap.size rfl (.tmp 11) (.tmp 20) 22 26 (.agg #[(.int .i64 0), (.int .i64 0), (.int .i64 0)]) 24 rfl Try.underlying22 info26 rfl (by decide) (by omega) (.slice Ao22 x3_1.length co22) x3_1 (⟨rd l0 x4_1, x4_1, wrap64 (x4_1 + 1)⟩ : S26) [.int .i64 (rd l0 x4_1), .int .i64 x4_1, .int .i64 (wrap64 (x4_1 + 1))] (fun _ => True) (fun _ => False) rfl rfl ?aP (fun _ hk => hk.elim) ?aF ?aO ?aB ?aS ?aL ?_;(case aP => exact k26_mkM _ _ _ (⟨rd l0 x4_1, x4_1, wrap64 (x4_1 + 1)⟩ : S26));(case aB => exact (by repeat (first|(with_reducible first|exact HB.out|apply below_alloc|apply pw_below_drewN|apply below_drew1)|exact HB.out)));(case aF => exact (fun _ _ => trivial));(case aO => exact (by (with_reducible repeat (first|apply Kd.R_alloc|apply Kd.R_drewN|apply Kd.R_drew));exact HO_3.out));(case aS => exact (below_size (by repeat (first|(with_reducible first|exact HB.out|apply below_alloc|apply pw_below_drewN|apply below_drew1)|exact HB.out))));(case aL => have:=LMc21.out;omega);intro v201 w23 ho hb hg hat;rw [← Ny200.out] at ho;have n0_:=Aside0.mk (hb);have n1_:=Aside0.mk (ho);clear HB;clear HO_3;have HB:=n0_;have HO202:=n1_;clear n0_ n1_;clear ho hb hg hat));try go_wp2_with (first|((with_reducible refine gate_builtin (b:=.append) (xs:=#[.tmp 11, .tmp 20]) rfl ?_);(try (refine gate_guard (by rfl) ?_;dsimp only));at_builtin;refine Kd.R_append k26 (w0:=w) w.heap.size rfl (.tmp 11) (.tmp 20) 22 26 (.agg #[(.int .i64 0), (.int .i64 0), (.int .i64 0)]) 24 rfl Try.underlying22 info26 rfl (by decide) (by omega) (.slice Ao22 x3_1.length co22) x3_1 (⟨rd l0 x4_1, x4_1, wrap64 (x4_1 + 1)⟩ : S26) [.int .i64 (rd l0 x4_1), .int .i64 x4_1, .int .i64 (wrap64 (x4_1 + 1))] (fun _ => True) (fun _ => False) rfl rfl ?aP (fun _ hk => hk.elim) ?aF ?aO ?aB ?aS ?aL ?_;(case aP => exact k26_mkM _ _ _ (⟨rd l0 x4_1, x4_1, wrap64 (x4_1 + 1)⟩ : S26));(case aB => exact (by repeat (first|(with_reducible first|exact HB.out|apply below_alloc|apply pw_below_drewN|apply below_drew1)|exact HB.out)));(case aF => exact (fun _ _ => trivial));(case aO => exact (by (with_reducible repeat (first|apply Kd.R_alloc|apply Kd.R_drewN|apply Kd.R_drew));exact HO_3.out));(case aS => exact (below_size (by repeat (first|(with_reducible first|exact HB.out|apply below_alloc|apply pw_below_drewN|apply below_drew1)|exact HB.out))));(case aL => have:=LMc21.out;omega);intro v201 w23 ho hb hg hat;rw [← Ny200.out] at ho;have n0_:=Aside0.mk (hb);have n1_:=Aside0.mk (ho);clear HB;clear HO_3;have HB:=n0_;have HO202:=n1_;clear n0_ n1_;clear ho hb hg hat)))
        go_roundg k1
        case measure => have := HK1.out; omega
        case rel => exact ⟨(y200), (wrap64 (x4_1 + 1)), (by first|rfl|(simp;done)|(simp [*];done)), H', ⟨by have:=HK1.out;omega⟩, ⟨by (with_reducible repeat (first|apply Kd.R_alloc|apply Kd.R_drewN|apply Kd.R_drew));exact HO202.out⟩, ⟨by repeat (first|(with_reducible first|exact HB.out|apply below_alloc|apply pw_below_drewN|apply below_drew1)|exact HB.out)⟩⟩
       ·rw [if_neg c21] at H
        exact absurd H (by simp)
    ·rw [if_neg c3] at H
     exact absurd H (by simp)
   ·rw [if_neg c2] at H
    have c2b0 : decide (x4_1 < (l0.length : Int)) = false := decide_eq_false c2
    clear c2
    obtain rfl := Option.some.inj H
    go_wp2
    repeat (go_quiet (fail); try go_wp2)
    go_ret
    exact ⟨_, by first|rfl|(simp [errW_none, errW_some] <;> rfl)|(simp [*, errW_none, errW_some] <;> rfl), by (with_reducible repeat (first|apply Kd.R_alloc|apply Kd.R_drewN|apply Kd.R_drew));exact HO_3.out, by repeat (first|(with_reducible first|exact HB.out|apply below_alloc|apply pw_below_drewN|apply below_drew1)|exact HB.out)⟩

/-! ### chancelref04_site: function 35 -/
def chancelref04_site.l0 : Nat → List (S38) → List (S38) → Bool → Int → Int → Int → Option ((List (S38)))
 | 0, _, _, _, _, _, _ => none
 | k + 1, x0, x5, x6, x7, x204000, x204001 => if x7 < (x0.length : Int) then (if 0 ≤ x7 then (if (((rd_T38 x0 x7).f0) == x204000 && (((rd_T38 x0 x7).f1) == x204001)) = true then (some x0) else (if x6 = true then (if x5.length < 8796093022208 then (chancelref04_site.l0 k x0 (x5 ++ [(⟨(rd_T38 x0 x7).f0, (rd_T38 x0 x7).f1⟩ : S38)]) x6 (wrap64 (x7 + 1)) x204000 x204001) else (none)) else (if ((rd_T38 x0 x7).f1) > x204001 then (if x5.length < 8796093022208 then ((some (x5 ++ [(⟨x204000, x204001⟩ : S38)] : List (S38))).bind fun y213 => (if y213.length < 8796093022208 then (chancelref04_site.l0 k x0 (y213 ++ [(⟨(rd_T38 x0 x7).f0, (rd_T38 x0 x7).f1⟩ : S38)]) true (wrap64 (x7 + 1)) x204000 x204001) else (none))) else (none)) else (if ((rd_T38 x0 x7).f1) = x204001 then (if ((rd_T38 x0 x7).f0) > x204000 then (if x5.length < 8796093022208 then ((some (x5 ++ [(⟨x204000, x204001⟩ : S38)] : List (S38))).bind fun y222 => (if y222.length < 8796093022208 then (chancelref04_site.l0 k x0 (y222 ++ [(⟨(rd_T38 x0 x7).f0, (rd_T38 x0 x7).f1⟩ : S38)]) true (wrap64 (x7 + 1)) x204000 x204001) else (none))) else (none)) else (if x5.length < 8796093022208 then (chancelref04_site.l0 k x0 (x5 ++ [(⟨(rd_T38 x0 x7).f0, (rd_T38 x0 x7).f1⟩ : S38)]) x6 (wrap64 (x7 + 1)) x204000 x204001) else (none))) else (if x5.length < 8796093022208 then (chancelref04_site.l0 k x0 (x5 ++ [(⟨(rd_T38 x0 x7).f0, (rd_T38 x0 x7).f1⟩ : S38)]) x6 (wrap64 (x7 + 1)) x204000 x204001) else (none)))))) else (none)) else (if x6 = true then (some x5) else (if x5.length < 8796093022208 then (some (x5 ++ [(⟨x204000, x204001⟩ : S38)])) else (none)))
def chancelref04_site.f (k : Nat) (l0 : List (S38)) (a1_0 : Int) (a1_1 : Int) : Option ((List (S38))) := chancelref04_site.l0 k l0 ([] : List (S38)) false 0 a1_0 a1_1
theorem chancelref04_site.mono_l : ∀ k, (∀ y0 y1 y2 y3 y4 y5, LeO (chancelref04_site.l0 k y0 y1 y2 y3 y4 y5) (chancelref04_site.l0 (k + 1) y0 y1 y2 y3 y4 y5))
 | 0 => fun _ _ _ _ _ _ r h => by simp [chancelref04_site.l0] at h
 | k + 1 => by
  have ih0 := chancelref04_site.mono_l k
  ·intro y0 y1 y2 y3 y4 y5
   unfold chancelref04_site.l0
   repeat' first
   | (with_reducible exact ih0 _ _ _ _ _ _)
   | (with_reducible exact LeO.refl _)
   | (with_reducible exact LeO.none _)
   | (with_reducible refine LeO.ite ?_ ?_)
   | (with_reducible refine LeO.bind ?_ (fun _ => ?_))
   | exact ih0 _ _ _ _ _ _
   | exact LeO.none _
   | refine LeO.ite ?_ ?_
   | refine LeO.bind ?_ (fun _ => ?_)
theorem chancelref04_site.mono : ∀ a0 a1 a2 k, LeO (chancelref04_site.f k a0 a1 a2) (chancelref04_site.f (k + 1) a0 a1 a2) := by
 intro a0 a1 a2 k
 have ih0 := chancelref04_site.mono_l k
 unfold chancelref04_site.f
 repeat' first
   | (with_reducible exact ih0 _ _ _ _ _ _)
   | (with_reducible exact LeO.refl _)
   | (with_reducible exact LeO.none _)
   | (with_reducible refine LeO.ite ?_ ?_)
   | (with_reducible refine LeO.bind ?_ (fun _ => ?_))
   | exact ih0 _ _ _ _ _ _
   | exact LeO.none _
   | refine LeO.ite ?_ ?_
   | refine LeO.bind ?_ (fun _ => ?_)
set_option maxHeartbeats 8000000 in
set_option maxRecDepth 100000 in
theorem chancelref04_site.calls (k : Nat) (P0_ : Nat → Prop) (A0 : Option Addr) (c0 : Nat) (l0 : List (S38)) (a1_0 : Int) (a1_1 : Int) (r : List (S38)) (w : World) (hs0 : Kd.V k38 38 w w.heap.size (fun k_ => P0_ k_) (.slice A0 l0.length c0) l0) (h : chancelref04_site.f k l0 a1_0 a1_1 = some r) :
  Calls Try.prog 35 #[.slice A0 l0.length c0, .agg #[.int .i64 a1_0, .int .i64 a1_1]] w fun e w' => ∃ v0_ : Value, e = .returned (v0_) ∧ Kd.V k38 38 w' w.heap.size (fun k_ => (P0_ k_ ∨ w.heap.size ≤ k_)) v0_ r ∧ Below w.heap.size w w' := by
 have hu38 := Try.underlying38
 have HO0 := Aside0.mk (show Kd.V k38 38 w w.heap.size (fun k_ => (P0_ k_ ∨ w.heap.size ≤ k_)) (.slice A0 l0.length c0) l0 from Kd.V_mono hs0 (fun k_ hk => .inl hk))
 have HB := Aside0.mk (Below.refl w.heap.size w)
 have H : (chancelref04_site.l0 k l0 ([] : List (S38)) false 0 a1_0 a1_1) = some r := h
 clear h
 have H' := Aside0.mk H
 clear H
 go_enter Try.func35, Try.ntmps35
 go_wp2_with (first|((with_reducible refine gate_dst (N:=3) rfl ?_);refine box_event ?hg (N:=3) ?hd (cs:=#[.int .i64 a1_0, .int .i64 a1_1]) (t:=38) ?hr ?_;(case hd => rfl);(case hg => rfl);(case hr => first|(go_simp;done)|(go_simp;rfl));intro gb203 hg w3 hbox hb;have n0_:=Aside0.mk (Kd.V_below (Kd.V_elderB (by (with_reducible repeat (first|apply Kd.V_alloc|apply Kd.V_drewN|apply Kd.V_drew));exact HO0.out) gb203 (Nat.le_of_eq hg.symm)) hb);have n1_:=Aside0.mk (below_step (by repeat (first|(with_reducible first|exact HB.out|apply below_alloc|apply pw_below_drewN|apply below_drew1)|exact HB.out)) hb);have n2_:=Aside0.mk (hbox);have n3_:=Aside0.mk ((by rw [hg];exact (below_size (by repeat (first|(with_reducible first|exact HB.out|apply below_alloc|apply pw_below_drewN|apply below_drew1)|exact HB.out))) : w.heap.size ≤ gb203));have n4_:=Aside0.mk ((by rw [hg];exact (below_size (by repeat (first|(with_reducible first|exact HB.out|apply below_alloc|apply pw_below_drewN|apply below_drew1)|exact HB.out))) : w.heap.size ≤ gb203));clear HO0;clear HB;have HO0:=n0_;have HB:=n1_;have BK203:=n2_;have GW203:=n3_;have GE203:=n4_;clear n0_ n1_ n2_ n3_ n4_;clear hb hbox hg))
 repeat (go_quiet (first|((with_reducible refine gate_dst (N:=3) rfl ?_);refine box_event ?hg (N:=3) ?hd (cs:=#[.int .i64 a1_0, .int .i64 a1_1]) (t:=38) ?hr ?_;(case hd => rfl);(case hg => rfl);(case hr => first|(go_simp;done)|(go_simp;rfl));intro gb203 hg w3 hbox hb;have n0_:=Aside0.mk (Kd.V_below (Kd.V_elderB (by (with_reducible repeat (first|apply Kd.V_alloc|apply Kd.V_drewN|apply Kd.V_drew));exact HO0.out) gb203 (Nat.le_of_eq hg.symm)) hb);have n1_:=Aside0.mk (below_step (by repeat (first|(with_reducible first|exact HB.out|apply below_alloc|apply pw_below_drewN|apply below_drew1)|exact HB.out)) hb);have n2_:=Aside0.mk (hbox);have n3_:=Aside0.mk ((by rw [hg];exact (below_size (by repeat (first|(with_reducible first|exact HB.out|apply below_alloc|apply pw_below_drewN|apply below_drew1)|exact HB.out))) : w.heap.size ≤ gb203));have n4_:=Aside0.mk ((by rw [hg];exact (below_size (by repeat (first|(with_reducible first|exact HB.out|apply below_alloc|apply pw_below_drewN|apply below_drew1)|exact HB.out))) : w.heap.size ≤ gb203));clear HO0;clear HB;have HO0:=n0_;have HB:=n1_;have BK203:=n2_;have GW203:=n3_;have GE203:=n4_;clear n0_ n1_ n2_ n3_ n4_;clear hb hbox hg));try go_wp2_with (first|((with_reducible refine gate_dst (N:=3) rfl ?_);refine box_event ?hg (N:=3) ?hd (cs:=#[.int .i64 a1_0, .int .i64 a1_1]) (t:=38) ?hr ?_;(case hd => rfl);(case hg => rfl);(case hr => first|(go_simp;done)|(go_simp;rfl));intro gb203 hg w3 hbox hb;have n0_:=Aside0.mk (Kd.V_below (Kd.V_elderB (by (with_reducible repeat (first|apply Kd.V_alloc|apply Kd.V_drewN|apply Kd.V_drew));exact HO0.out) gb203 (Nat.le_of_eq hg.symm)) hb);have n1_:=Aside0.mk (below_step (by repeat (first|(with_reducible first|exact HB.out|apply below_alloc|apply pw_below_drewN|apply below_drew1)|exact HB.out)) hb);have n2_:=Aside0.mk (hbox);have n3_:=Aside0.mk ((by rw [hg];exact (below_size (by repeat (first|(with_reducible first|exact HB.out|apply below_alloc|apply pw_below_drewN|apply below_drew1)|exact HB.out))) : w.heap.size ≤ gb203));have n4_:=Aside0.mk ((by rw [hg];exact (below_size (by repeat (first|(with_reducible first|exact HB.out|apply below_alloc|apply pw_below_drewN|apply below_drew1)|exact HB.out))) : w.heap.size ≤ gb203));clear HO0;clear HB;have HO0:=n0_;have HB:=n1_;have BK203:=n2_;have GW203:=n3_;have GE203:=n4_;clear n0_ n1_ n2_ n3_ n4_;clear hb hbox hg)))
 go_loopg [5, 6, 7] k (fun kq v5 v6 v7 w' => ∃ (x5_1 : List (S38)) (x6_1 : Bool) (x7_1 : Int), v6 = .bool x6_1 ∧ v7 = .int .i64 x7_1 ∧ Aside0 (chancelref04_site.l0 kq l0 x5_1 x6_1 x7_1 a1_0 a1_1 = some r) ∧ Aside0 (kq ≤ k) ∧ Aside0 (Kd.V k38 38 w' w.heap.size (fun k_ => (P0_ k_ ∨ w.heap.size ≤ k_) ∧ some k_ ≠ (v5 : Value).ownBlock ∧ k_ ≠ gb203) (.slice A0 l0.length c0) l0) ∧ Aside0 (Kd.R k38 38 w' w.heap.size (fun k_ => (w.heap.size ≤ k_) ∧ k_ ≠ gb203) v5 x5_1) ∧ Aside0 (w'.heap[gb203]? = some (.cells #[.int .i64 a1_0, .int .i64 a1_1] 38 (0, 0))) ∧ Aside0 (Below w.heap.size w w'))
 case atStart => exact ⟨(([] : List (S38))), (false), (0), (by first|rfl|(simp;done)|(simp [*];done)), (by first|rfl|(simp;done)|(simp [*];done)), H', ⟨Nat.le_refl _⟩, ⟨by (with_reducible repeat (first|apply Kd.V_alloc|apply Kd.V_drewN|apply Kd.V_drew));exact Kd.V_mono HO0.out (fun _ hk => ⟨hk.1, ⟨(by simp [Value.ownBlock]), hk.2⟩⟩)⟩, ⟨by first|exact Kd.R_nil _ _ _ _ _|exact Kd.N_nil _ _ _ _ _|exact Kd.V_nil _ _ _ _ _|exact Kd.Q_nil _ _ _ _ _|exact Kd.S_nil _ _ _ _ _⟩, ⟨by (with_reducible repeat (first|refine blk_drewN ?_ _|refine blk_drew ?_|refine blk_alloc ?_ _));exact BK203.out⟩, ⟨by repeat (first|(with_reducible first|exact HB.out|apply below_alloc|apply pw_below_drewN|apply below_drew1|refine below_set ?_ GE203.out)|exact HB.out)⟩⟩
 case round =>
  clear H'
  try clear p2
  try clear c3
  obtain ⟨x5_1, x6_1, x7_1, rfl, rfl, HA, HK1, HO_0, HO_5, BK203, HB⟩ := hrel
  cases gk with
  | zero => exact absurd HA.out (by simp [chancelref04_site.l0])
  | succ k1 =>
   have H := HA.out
   clear HA
   simp only [chancelref04_site.l0] at H
   by_cases c4 : x7_1 < (l0.length : Int)
   ·rw [if_pos c4] at H
    have c4b0 : decide (x7_1 < (l0.length : Int)) = true := decide_eq_true c4
    clear c4
    by_cases c5 : 0 ≤ x7_1
    ·rw [if_pos c5] at H
     have c5b0 : decide (0 ≤ x7_1) = true := decide_eq_true c5
     clear c5
     by_cases c6 : (((rd_T38 l0 x7_1).f0) == a1_0 && (((rd_T38 l0 x7_1).f1) == a1_1)) = true
     ·rw [if_pos c6] at H
      have c6b0 : (((rd_T38 l0 x7_1).f0) == a1_0 && (((rd_T38 l0 x7_1).f1) == a1_1)) = true := c6
      (try (have c6b1 : decide (((rd_T38 l0 x7_1).f0) = a1_0 && (((rd_T38 l0 x7_1).f1) == a1_1)) = true := by simpa using c6))
      (try (have c6b2 : (((rd_T38 l0 x7_1).f0) == a1_0 && (((rd_T38 l0 x7_1).f1) == a1_1)) = true := by simpa using c6))
      clear c6
      obtain rfl := Option.some.inj H
      have p207 : 0 ≤ (x7_1 : Int):=of_decide_eq_true (by first|(with_reducible assumption)|assumption)
      have q207 : x7_1 < (l0.length : Int):=of_decide_eq_true (by first|(with_reducible assumption)|assumption)
      obtain ⟨ad207, e207, hx207_0, hx207_1⟩ := at_T38 (Kd.V_reads' HO_0.out).2.2 x7_1 p207 q207
      cases e207
      replace p207 := eq_true p207
      replace q207 := eq_true q207
      have hcz7_0 : wr.cell? ⟨gb203, 0, none⟩ = some (.int .i64 a1_0) := (blk_cell BK203.out 0).trans rfl
      have hcz7_1 : wr.cell? ⟨gb203, 1, none⟩ = some (.int .i64 a1_1) := (blk_cell BK203.out 1).trans rfl
      have hfz7_0 := blk_frozen BK203.out 0
      have hfz7_1 := blk_frozen BK203.out 1
      go_wp2
      repeat (go_quiet (fail); try go_wp2)
      go_ret
      exact ⟨_, by first|rfl|(simp [errW_none, errW_some] <;> rfl)|(simp [*, errW_none, errW_some] <;> rfl), by (with_reducible repeat (first|apply Kd.V_alloc|apply Kd.V_drewN|apply Kd.V_drew));exact Kd.V_mono HO_0.out (fun _ hk => hk.1), by repeat (first|(with_reducible first|exact HB.out|apply below_alloc|apply pw_below_drewN|apply below_drew1|refine below_set ?_ GE203.out)|exact HB.out)⟩
     ·rw [if_neg c6] at H
      have c6b0 : (((rd_T38 l0 x7_1).f0) == a1_0 && (((rd_T38 l0 x7_1).f1) == a1_1)) = false := by simpa using c6
      (try (have c6b1 : decide (((rd_T38 l0 x7_1).f0) = a1_0 && (((rd_T38 l0 x7_1).f1) == a1_1)) = false := by simpa using c6))
      (try (have c6b2 : (((rd_T38 l0 x7_1).f0) == a1_0 && (((rd_T38 l0 x7_1).f1) == a1_1)) = false := by simpa using c6))
      (try (have c6b3 : ¬ (((rd_T38 l0 x7_1).f0) = a1_0 && (((rd_T38 l0 x7_1).f1) == a1_1)) := by simpa using c6))
      clear c6
      by_cases c8 : x6_1 = true
      ·subst c8
       have H1 : (if x5_1.length < 8796093022208 then (chancelref04_site.l0 k1 l0 (x5_1 ++ [(⟨(rd_T38 l0 x7_1).f0, (rd_T38 l0 x7_1).f1⟩ : S38)]) true (wrap64 (x7_1 + 1)) a1_0 a1_1) else (none)) = some r := by rw [if_pos rfl] at H; exact H
       clear H
       have H := H1
       clear H1
       by_cases c9 : x5_1.length < 8796093022208
       ·rw [if_pos c9] at H
        have LMc9 := Aside0.mk c9
        clear c9
        obtain ⟨y209, hy209⟩ : ∃ y_ : List (S38), y_ = (x5_1 ++ [(⟨(rd_T38 l0 x7_1).f0, (rd_T38 l0 x7_1).f1⟩ : S38)]) := ⟨_, rfl⟩
        replace H : (chancelref04_site.l0 k1 l0 y209 true (wrap64 (x7_1 + 1)) a1_0 a1_1) = some r:=by first|(rw [hy209];with_reducible exact H)|(have H2_:=(Option.bind_some _ _).symm.trans H;rw [hy209];with_reducible exact H2_)|(have H2_:=(Option.bind_some _ _).symm.trans H;with_reducible exact H2_)|with_reducible exact H|(rw [hy209];exact H)|exact H
        have Ny209 := Aside0.mk hy209
        clear hy209
        have H' := Aside0.mk H
        clear H
        have p207 : 0 ≤ (x7_1 : Int):=of_decide_eq_true (by first|(with_reducible assumption)|assumption)
        have q207 : x7_1 < (l0.length : Int):=of_decide_eq_true (by first|(with_reducible assumption)|assumption)
        obtain ⟨ad207, e207, hx207_0, hx207_1⟩ := at_T38 (Kd.V_reads' HO_0.out).2.2 x7_1 p207 q207
        cases e207
        replace p207 := eq_true p207
        replace q207 := eq_true q207
        have hcz10_0 : wr.cell? ⟨gb203, 0, none⟩ = some (.int .i64 a1_0) := (blk_cell BK203.out 0).trans rfl
        have hcz10_1 : wr.cell? ⟨gb203, 1, none⟩ = some (.int .i64 a1_1) := (blk_cell BK203.out 1).trans rfl
        have hfz10_0 := blk_frozen BK203.out 0
        have hfz10_1 := blk_frozen BK203.out 1
        have p208 : 0 ≤ (x7_1 : Int):=of_decide_eq_true (by first|(with_reducible assumption)|assumption)
        have q208 : x7_1 < (l0.length : Int):=of_decide_eq_true (by first|(with_reducible assumption)|assumption)
        obtain ⟨ad208, e208, hx208_0, hx208_1⟩ := at_T38 (Kd.V_reads' HO_0.out).2.2 x7_1 p208 q208
        obtain rfl : ad207 = ad208 := (by injection e208)
        replace p208 := eq_true p208
        replace q208 := eq_true q208
        go_wp2_with (first|((with_reducible refine gate_builtin (b:=.append) (xs:=#[.tmp 57, .tmp 62]) rfl ?_);at_builtin;refine Kd.R_append k38 (w0:=w) w.heap.size rfl (.tmp 57) (.tmp 62) 23 38 (.agg #[(.int .i64 0), (.int .i64 0)]) 16 rfl Try.underlying23 info38 rfl (by decide) (by omega) u5 x5_1 (⟨(rd_T38 l0 x7_1).f0, (rd_T38 l0 x7_1).f1⟩ : S38) [.int .i64 ((rd_T38 l0 x7_1).f0), .int .i64 ((rd_T38 l0 x7_1).f1)] (fun k_ => (w.heap.size ≤ k_) ∧ k_ ≠ gb203) (fun _ => False) rfl rfl ?aP (fun _ hk => hk.elim) ?aF ?aO ?aB ?aS ?aL ?_;(case aP => exact k38_mkM _ _ _ (⟨(rd_T38 l0 x7_1).f0, (rd_T38 l0 x7_1).f1⟩ : S38));(case aB => exact (by repeat (first|(with_reducible first|exact HB.out|apply below_alloc|apply pw_below_drewN|apply below_drew1|refine below_set ?_ GE203.out)|exact HB.out)));(case aF => exact (fun k_ hk => ⟨(Nat.le_trans (below_size (by repeat (first|(with_reducible first|exact HB.out|apply below_alloc|apply pw_below_drewN|apply below_drew1|refine below_set ?_ GE203.out)|exact HB.out))) hk), Kd.freshB (g:=gb203) (o:=.cells #[.int .i64 a1_0, .int .i64 a1_1] 38 (0, 0)) (by (with_reducible repeat (first|refine blk_drewN ?_ _|refine blk_drew ?_|refine blk_alloc ?_ _));exact BK203.out) k_ hk⟩));(case aO => exact (by (with_reducible repeat (first|apply Kd.R_alloc|apply Kd.R_drewN|apply Kd.R_drew));exact HO_5.out));(case aS => exact (below_size (by repeat (first|(with_reducible first|exact HB.out|apply below_alloc|apply pw_below_drewN|apply below_drew1|refine below_set ?_ GE203.out)|exact HB.out))));(case aL => have:=LMc9.out;omega);intro v210 w11 ho hb hg hat;rw [← Ny209.out] at ho;have n0_:=Aside0.mk (Kd.V_afterv (ok:=(fun k_ => (P0_ k_ ∨ w.heap.size ≤ k_) ∧ k_ ≠ gb203)) (by (with_reducible repeat (first|apply Kd.V_alloc|apply Kd.V_drewN|apply Kd.V_drew));exact Kd.V_mono HO_0.out (fun _ hk => ⟨⟨hk.1, hk.2.2⟩, hk.2.1⟩)) hg hat);have n1_:=Aside0.mk (blk_grown (g:=gb203) (o:=.cells #[.int .i64 a1_0, .int .i64 a1_1] 38 (0, 0)) (by (with_reducible repeat (first|refine blk_drewN ?_ _|refine blk_drew ?_|refine blk_alloc ?_ _));exact BK203.out) hg (Kd.R_away HO_5.out (fun _ hk => hk.2)));have n2_:=Aside0.mk (hb);have n3_:=Aside0.mk (ho);clear HO_0;clear BK203;clear HB;clear HO_5;have HO_0:=n0_;have BK203:=n1_;have HB:=n2_;have HO211:=n3_;clear n0_ n1_ n2_ n3_;clear ho hb hg hat))
        repeat (go_quiet (first|((with_reducible refine gate_builtin (b:=.append) (xs:=#[.tmp 57, .tmp 62]) rfl ?_);at_builtin;refine Kd.R_append k38 (w0:=w) w.heap.size rfl (.tmp 57) (.tmp 62) 23 38 (.agg #[(.int .i64 0), (.int .i64 0)]) 16 rfl Try.underlying23 info38 rfl (by decide) (by omega) u5 x5_1 (⟨(rd_T38 l0 x7_1).f0, (rd_T38 l0 x7_1).f1⟩ : S38) [.int .i64 ((rd_T38 l0 x7_1).f0), .int .i64 ((rd_T38 l0 x7_1).f1)] (fun k_ => (w.heap.size ≤ k_) ∧ k_ ≠ gb203) (fun _ => False) rfl rfl ?aP (fun _ hk => hk.elim) ?aF ?aO ?aB ?aS ?aL ?_;(case aP => exact k38_mkM _ _ _ (⟨(rd_T38 l0 x7_1).f0, (rd_T38 l0 x7_1).f1⟩ : S38));(case aB => exact (by repeat (first|(with_reducible first|exact HB.out|apply below_alloc|apply pw_below_drewN|apply below_drew1|refine below_set ?_ GE203.out)|exact HB.out)));(case aF => exact (fun k_ hk => ⟨(Nat.le_trans (below_size (by repeat (first|(with_reducible first|exact HB.out|apply below_alloc|apply pw_below_drewN|apply below_drew1|refine below_set ?_ GE203.out)|exact HB.out))) hk), Kd.freshB (g:=gb203) (o:=.cells #[.int .i64 a1_0, .int .i64 a1_1] 38 (0, 0)) (by (with_reducible repeat (first|refine blk_drewN ?_ _|refine blk_drew ?_|refine blk_alloc ?_ _));exact BK203.out) k_ hk⟩));(case aO => exact (by (with_reducible repeat (first|apply Kd.R_alloc|apply Kd.R_drewN|apply Kd.R_drew));exact HO_5.out));(case aS => exact (below_size (by repeat (first|(with_reducible first|exact HB.out|apply below_alloc|apply pw_below_drewN|apply below_drew1|refine below_set ?_ GE203.out)|exact HB.out))));(case aL => have:=LMc9.out;omega);intro v210 w11 ho hb hg hat;rw [← Ny209.out] at ho;have n0_:=Aside0.mk (Kd.V_afterv (ok:=(fun k_ => (P0_ k_ ∨ w.heap.size ≤ k_) ∧ k_ ≠ gb203)) (by (with_reducible repeat (first|apply Kd.V_alloc|apply Kd.V_drewN|apply Kd.V_drew));exact Kd.V_mono HO_0.out (fun _ hk => ⟨⟨hk.1, hk.2.2⟩, hk.2.1⟩)) hg hat);have n1_:=Aside0.mk (blk_grown (g:=gb203) (o:=.cells #[.int .i64 a1_0, .int .i64 a1_1] 38 (0, 0)) (by (with_reducible repeat (first|refine blk_drewN ?_ _|refine blk_drew ?_|refine blk_alloc ?_ _));exact BK203.out) hg (Kd.R_away HO_5.out (fun _ hk => hk.2)));have n2_:=Aside0.mk (hb);have n3_:=Aside0.mk (ho);clear HO_0;clear BK203;clear HB;clear HO_5;have HO_0:=n0_;have BK203:=n1_;have HB:=n2_;have HO211:=n3_;clear n0_ n1_ n2_ n3_;clear ho hb hg hat));try go_wp2_with (first|((with_reducible refine gate_builtin (b:=.append) (xs:=#[.tmp 57, .tmp 62]) rfl ?_);at_builtin;refine Kd.R_append k38 (w0:=w) w.heap.size rfl (.tmp 57) (.tmp 62) 23 38 (.agg #[(.int .i64 0), (.int .i64 0)]) 16 rfl Try.underlying23 info38 rfl (by decide) (by omega) u5 x5_1 (⟨(rd_T38 l0 x7_1).f0, (rd_T38 l0 x7_1).f1⟩ : S38) [.int .i64 ((rd_T38 l0 x7_1).f0), .int .i64 ((rd_T38 l0 x7_1).f1)] (fun k_ => (w.heap.size ≤ k_) ∧ k_ ≠ gb203) (fun _ => False) rfl rfl ?aP (fun _ hk => hk.elim) ?aF ?aO ?aB ?aS ?aL ?_;(case aP => exact k38_mkM _ _ _ (⟨(rd_T38 l0 x7_1).f0, (rd_T38 l0 x7_1).f1⟩ : S38));(case aB => exact (by repeat (first|(with_reducible first|exact HB.out|apply below_alloc|apply pw_below_drewN|apply below_drew1|refine below_set ?_ GE203.out)|exact HB.out)));(case aF => exact (fun k_ hk => ⟨(Nat.le_trans (below_size (by repeat (first|(with_reducible first|exact HB.out|apply below_alloc|apply pw_below_drewN|apply below_drew1|refine below_set ?_ GE203.out)|exact HB.out))) hk), Kd.freshB (g:=gb203) (o:=.cells #[.int .i64 a1_0, .int .i64 a1_1] 38 (0, 0)) (by (with_reducible repeat (first|refine blk_drewN ?_ _|refine blk_drew ?_|refine blk_alloc ?_ _));exact BK203.out) k_ hk⟩));(case aO => exact (by (with_reducible repeat (first|apply Kd.R_alloc|apply Kd.R_drewN|apply Kd.R_drew));exact HO_5.out));(case aS => exact (below_size (by repeat (first|(with_reducible first|exact HB.out|apply below_alloc|apply pw_below_drewN|apply below_drew1|refine below_set ?_ GE203.out)|exact HB.out))));(case aL => have:=LMc9.out;omega);intro v210 w11 ho hb hg hat;rw [← Ny209.out] at ho;have n0_:=Aside0.mk (Kd.V_afterv (ok:=(fun k_ => (P0_ k_ ∨ w.heap.size ≤ k_) ∧ k_ ≠ gb203)) (by (with_reducible repeat (first|apply Kd.V_alloc|apply Kd.V_drewN|apply Kd.V_drew));exact Kd.V_mono HO_0.out (fun _ hk => ⟨⟨hk.1, hk.2.2⟩, hk.2.1⟩)) hg hat);have n1_:=Aside0.mk (blk_grown (g:=gb203) (o:=.cells #[.int .i64 a1_0, .int .i64 a1_1] 38 (0, 0)) (by (with_reducible repeat (first|refine blk_drewN ?_ _|refine blk_drew ?_|refine blk_alloc ?_ _));exact BK203.out) hg (Kd.R_away HO_5.out (fun _ hk => hk.2)));have n2_:=Aside0.mk (hb);have n3_:=Aside0.mk (ho);clear HO_0;clear BK203;clear HB;clear HO_5;have HO_0:=n0_;have BK203:=n1_;have HB:=n2_;have HO211:=n3_;clear n0_ n1_ n2_ n3_;clear ho hb hg hat)))
        go_roundg k1
        case measure => have := HK1.out; omega
        case rel => exact ⟨(y209), (true), (wrap64 (x7_1 + 1)), (by first|rfl|(simp;done)|(simp [*];done)), (by first|rfl|(simp;done)|(simp [*];done)), H', ⟨by have:=HK1.out;omega⟩, ⟨by (with_reducible repeat (first|apply Kd.V_alloc|apply Kd.V_drewN|apply Kd.V_drew));exact Kd.V_mono HO_0.out (fun _ hk => ⟨hk.1.1, ⟨hk.2, hk.1.2⟩⟩)⟩, ⟨by (with_reducible repeat (first|apply Kd.R_alloc|apply Kd.R_drewN|apply Kd.R_drew));exact HO211.out⟩, ⟨by (with_reducible repeat (first|refine blk_drewN ?_ _|refine blk_drew ?_|refine blk_alloc ?_ _));exact BK203.out⟩, ⟨by repeat (first|(with_reducible first|exact HB.out|apply below_alloc|apply pw_below_drewN|apply below_drew1|refine below_set ?_ GE203.out)|exact HB.out)⟩⟩
       ·rw [if_neg c9] at H
        exact absurd H (by simp)
      ·replace c8 := Bool.eq_false_iff.mpr c8
       subst c8
       have H1 : (if ((rd_T38 l0 x7_1).f1) > a1_1 then (if x5_1.length < 8796093022208 then ((some (x5_1 ++ [(⟨a1_0, a1_1⟩ : S38)] : List (S38))).bind fun y213 => (if y213.length < 8796093022208 then (chancelref04_site.l0 k1 l0 (y213 ++ [(⟨(rd_T38 l0 x7_1).f0, (rd_T38 l0 x7_1).f1⟩ : S38)]) true (wrap64 (x7_1 + 1)) a1_0 a1_1) else (none))) else (none)) else (if ((rd_T38 l0 x7_1).f1) = a1_1 then (if ((rd_T38 l0 x7_1).f0) > a1_0 then (if x5_1.length < 8796093022208 then ((some (x5_1 ++ [(⟨a1_0, a1_1⟩ : S38)] : List (S38))).bind fun y222 => (if y222.length < 8796093022208 then (chancelref04_site.l0 k1 l0 (y222 ++ [(⟨(rd_T38 l0 x7_1).f0, (rd_T38 l0 x7_1).f1⟩ : S38)]) true (wrap64 (x7_1 + 1)) a1_0 a1_1) else (none))) else (none)) else (if x5_1.length < 8796093022208 then (chancelref04_site.l0 k1 l0 (x5_1 ++ [(⟨(rd_T38 l0 x7_1).f0, (rd_T38 l0 x7_1).f1⟩ : S38)]) false (wrap64 (x7_1 + 1)) a1_0 a1_1) else (none))) else (if x5_1.length < 8796093022208 then (chancelref04_site.l0 k1 l0 (x5_1 ++ [(⟨(rd_T38 l0 x7_1).f0, (rd_T38 l0 x7_1).f1⟩ : S38)]) false (wrap64 (x7_1 + 1)) a1_0 a1_1) else (none)))) = some r := by rw [if_neg (show ¬ (false = true) by decide)] at H; exact H
       clear H
       have H := H1
       clear H1
       by_cases c12 : ((rd_T38 l0 x7_1).f1) > a1_1
       ·rw [if_pos c12] at H
        have c12b0 : decide (a1_1 < ((rd_T38 l0 x7_1).f1)) = true := decide_eq_true c12
        clear c12
        by_cases c13 : x5_1.length < 8796093022208
        ·rw [if_pos c13] at H
         have LMc13 := Aside0.mk c13
         clear c13
         obtain ⟨y213, hy213⟩ : ∃ y_ : List (S38), y_ = (x5_1 ++ [(⟨a1_0, a1_1⟩ : S38)]) := ⟨_, rfl⟩
         replace H : (if y213.length < 8796093022208 then (chancelref04_site.l0 k1 l0 (y213 ++ [(⟨(rd_T38 l0 x7_1).f0, (rd_T38 l0 x7_1).f1⟩ : S38)]) true (wrap64 (x7_1 + 1)) a1_0 a1_1) else (none)) = some r:=by first|(rw [hy213];with_reducible exact H)|(have H2_:=(Option.bind_some _ _).symm.trans H;rw [hy213];with_reducible exact H2_)|(have H2_:=(Option.bind_some _ _).symm.trans H;with_reducible exact H2_)|with_reducible exact H|(rw [hy213];exact H)|exact H
         have Ny213 := Aside0.mk hy213
         clear hy213
         by_cases c14 : y213.length < 8796093022208
         ·rw [if_pos c14] at H
          have LMc14 := Aside0.mk c14
          clear c14
          obtain ⟨y217, hy217⟩ : ∃ y_ : List (S38), y_ = (y213 ++ [(⟨(rd_T38 l0 x7_1).f0, (rd_T38 l0 x7_1).f1⟩ : S38)]) := ⟨_, rfl⟩
          replace H : (chancelref04_site.l0 k1 l0 y217 true (wrap64 (x7_1 + 1)) a1_0 a1_1) = some r:=by first|(rw [hy217];with_reducible exact H)|(have H2_:=(Option.bind_some _ _).symm.trans H;rw [hy217];with_reducible exact H2_)|(have H2_:=(Option.bind_some _ _).symm.trans H;with_reducible exact H2_)|with_reducible exact H|(rw [hy217];exact H)|exact H
          have Ny217 := Aside0.mk hy217
          clear hy217
          have H' := Aside0.mk H
          clear H
          have p207 : 0 ≤ (x7_1 : Int):=of_decide_eq_true (by first|(with_reducible assumption)|assumption)
          have q207 : x7_1 < (l0.length : Int):=of_decide_eq_true (by first|(with_reducible assumption)|assumption)
          obtain ⟨ad207, e207, hx207_0, hx207_1⟩ := at_T38 (Kd.V_reads' HO_0.out).2.2 x7_1 p207 q207
          cases e207
          replace p207 := eq_true p207
          replace q207 := eq_true q207
          have hcz15_0 : wr.cell? ⟨gb203, 0, none⟩ = some (.int .i64 a1_0) := (blk_cell BK203.out 0).trans rfl
          have hcz15_1 : wr.cell? ⟨gb203, 1, none⟩ = some (.int .i64 a1_1) := (blk_cell BK203.out 1).trans rfl
          have hfz15_0 := blk_frozen BK203.out 0
          have hfz15_1 := blk_frozen BK203.out 1
          have p212 : 0 ≤ (x7_1 : Int):=of_decide_eq_true (by first|(with_reducible assumption)|assumption)
          have q212 : x7_1 < (l0.length : Int):=of_decide_eq_true (by first|(with_reducible assumption)|assumption)
          obtain ⟨ad212, e212, hx212_0, hx212_1⟩ := at_T38 (Kd.V_reads' HO_0.out).2.2 x7_1 p212 q212
          obtain rfl : ad207 = ad212 := (by injection e212)
          replace p212 := eq_true p212
          replace q212 := eq_true q212
          go_wp2_with (first|((with_reducible refine gate_builtin (b:=.append) (xs:=#[.tmp 53, .tmp 55]) rfl ?_);at_builtin;refine Kd.R_append k38 (w0:=w) w.heap.size rfl (.tmp 53) (.tmp 55) 23 38 (.agg #[(.int .i64 0), (.int .i64 0)]) 16 rfl Try.underlying23 info38 rfl (by decide) (by omega) u5 x5_1 (⟨a1_0, a1_1⟩ : S38) [.int .i64 a1_0, .int .i64 a1_1] (fun k_ => (w.heap.size ≤ k_) ∧ k_ ≠ gb203) (fun _ => False) rfl rfl ?aP (fun _ hk => hk.elim) ?aF ?aO ?aB ?aS ?aL ?_;(case aP => exact k38_mkM _ _ _ (⟨a1_0, a1_1⟩ : S38));(case aB => exact (by repeat (first|(with_reducible first|exact HB.out|apply below_alloc|apply pw_below_drewN|apply below_drew1|refine below_set ?_ GE203.out)|exact HB.out)));(case aF => exact (fun k_ hk => ⟨(Nat.le_trans (below_size (by repeat (first|(with_reducible first|exact HB.out|apply below_alloc|apply pw_below_drewN|apply below_drew1|refine below_set ?_ GE203.out)|exact HB.out))) hk), Kd.freshB (g:=gb203) (o:=.cells #[.int .i64 a1_0, .int .i64 a1_1] 38 (0, 0)) (by (with_reducible repeat (first|refine blk_drewN ?_ _|refine blk_drew ?_|refine blk_alloc ?_ _));exact BK203.out) k_ hk⟩));(case aO => exact (by (with_reducible repeat (first|apply Kd.R_alloc|apply Kd.R_drewN|apply Kd.R_drew));exact HO_5.out));(case aS => exact (below_size (by repeat (first|(with_reducible first|exact HB.out|apply below_alloc|apply pw_below_drewN|apply below_drew1|refine below_set ?_ GE203.out)|exact HB.out))));(case aL => have:=LMc13.out;omega);intro v214 w16 ho hb hg hat;rw [← Ny213.out] at ho;have n0_:=Aside0.mk (Kd.V_afterv (ok:=(fun k_ => (P0_ k_ ∨ w.heap.size ≤ k_) ∧ k_ ≠ gb203)) (by (with_reducible repeat (first|apply Kd.V_alloc|apply Kd.V_drewN|apply Kd.V_drew));exact Kd.V_mono HO_0.out (fun _ hk => ⟨⟨hk.1, hk.2.2⟩, hk.2.1⟩)) hg hat);have n1_:=Aside0.mk (blk_grown (g:=gb203) (o:=.cells #[.int .i64 a1_0, .int .i64 a1_1] 38 (0, 0)) (by (with_reducible repeat (first|refine blk_drewN ?_ _|refine blk_drew ?_|refine blk_alloc ?_ _));exact BK203.out) hg (Kd.R_away HO_5.out (fun _ hk => hk.2)));have n2_:=Aside0.mk (hb);have n3_:=Aside0.mk (ho);clear HO_0;clear BK203;clear HB;clear HO_5;have HO_0:=n0_;have BK203:=n1_;have HB:=n2_;have HO215:=n3_;clear n0_ n1_ n2_ n3_;clear ho hb hg hat;have p216 : 0 ≤ (x7_1 : Int):=of_decide_eq_true (by first|(with_reducible assumption)|assumption);have q216 : x7_1 < (l0.length : Int):=of_decide_eq_true (by first|(with_reducible assumption)|assumption);obtain ⟨ad216, e216, hx216_0, hx216_1⟩:=at_T38 (Kd.V_reads' HO_0.out).2.2 x7_1 p216 q216;obtain rfl : ad207 = ad216:=(by injection e216);replace p216:=eq_true p216;replace q216:=eq_true q216)|((with_reducible refine gate_builtin (b:=.append) (xs:=#[.tmp 57, .tmp 62]) rfl ?_);at_builtin;refine Kd.R_append k38 (w0:=w) w.heap.size rfl (.tmp 57) (.tmp 62) 23 38 (.agg #[(.int .i64 0), (.int .i64 0)]) 16 rfl Try.underlying23 info38 rfl (by decide) (by omega) v214 y213 (⟨(rd_T38 l0 x7_1).f0, (rd_T38 l0 x7_1).f1⟩ : S38) [.int .i64 ((rd_T38 l0 x7_1).f0), .int .i64 ((rd_T38 l0 x7_1).f1)] (fun k_ => (w.heap.size ≤ k_) ∧ k_ ≠ gb203) (fun _ => False) rfl rfl ?aP (fun _ hk => hk.elim) ?aF ?aO ?aB ?aS ?aL ?_;(case aP => exact k38_mkM _ _ _ (⟨(rd_T38 l0 x7_1).f0, (rd_T38 l0 x7_1).f1⟩ : S38));(case aB => exact (by repeat (first|(with_reducible first|exact HB.out|apply below_alloc|apply pw_below_drewN|apply below_drew1|refine below_set ?_ GE203.out)|exact HB.out)));(case aF => exact (fun k_ hk => ⟨(Nat.le_trans (below_size (by repeat (first|(with_reducible first|exact HB.out|apply below_alloc|apply pw_below_drewN|apply below_drew1|refine below_set ?_ GE203.out)|exact HB.out))) hk), Kd.freshB (g:=gb203) (o:=.cells #[.int .i64 a1_0, .int .i64 a1_1] 38 (0, 0)) (by (with_reducible repeat (first|refine blk_drewN ?_ _|refine blk_drew ?_|refine blk_alloc ?_ _));exact BK203.out) k_ hk⟩));(case aO => exact (by (with_reducible repeat (first|apply Kd.R_alloc|apply Kd.R_drewN|apply Kd.R_drew));exact HO215.out));(case aS => exact (below_size (by repeat (first|(with_reducible first|exact HB.out|apply below_alloc|apply pw_below_drewN|apply below_drew1|refine below_set ?_ GE203.out)|exact HB.out))));(case aL => have:=LMc14.out;omega);intro v218 w17 ho hb hg hat;rw [← Ny217.out] at ho;have n0_:=Aside0.mk (Kd.V_afterv (ok:=(fun k_ => (P0_ k_ ∨ w.heap.size ≤ k_) ∧ k_ ≠ gb203)) (by (with_reducible repeat (first|apply Kd.V_alloc|apply Kd.V_drewN|apply Kd.V_drew));exact HO_0.out) hg hat);have n1_:=Aside0.mk (blk_grown (g:=gb203) (o:=.cells #[.int .i64 a1_0, .int .i64 a1_1] 38 (0, 0)) (by (with_reducible repeat (first|refine blk_drewN ?_ _|refine blk_drew ?_|refine blk_alloc ?_ _));exact BK203.out) hg (Kd.R_away HO215.out (fun _ hk => hk.2)));have n2_:=Aside0.mk (hb);have n3_:=Aside0.mk (ho);clear HO_0;clear BK203;clear HB;clear HO215;have HO_0:=n0_;have BK203:=n1_;have HB:=n2_;have HO219:=n3_;clear n0_ n1_ n2_ n3_;clear ho hb hg hat))
          repeat (go_quiet (first|((with_reducible refine gate_builtin (b:=.append) (xs:=#[.tmp 53, .tmp 55]) rfl ?_);at_builtin;refine Kd.R_append k38 (w0:=w) w.heap.size rfl (.tmp 53) (.tmp 55) 23 38 (.agg #[(.int .i64 0), (.int .i64 0)]) 16 rfl Try.underlying23 info38 rfl (by decide) (by omega) u5 x5_1 (⟨a1_0, a1_1⟩ : S38) [.int .i64 a1_0, .int .i64 a1_1] (fun k_ => (w.heap.size ≤ k_) ∧ k_ ≠ gb203) (fun _ => False) rfl rfl ?aP (fun _ hk => hk.elim) ?aF ?aO ?aB ?aS ?aL ?_;(case aP => exact k38_mkM _ _ _ (⟨a1_0, a1_1⟩ : S38));(case aB => exact (by repeat (first|(with_reducible first|exact HB.out|apply below_alloc|apply pw_below_drewN|apply below_drew1|refine below_set ?_ GE203.out)|exact HB.out)));(case aF => exact (fun k_ hk => ⟨(Nat.le_trans (below_size (by repeat (first|(with_reducible first|exact HB.out|apply below_alloc|apply pw_below_drewN|apply below_drew1|refine below_set ?_ GE203.out)|exact HB.out))) hk), Kd.freshB (g:=gb203) (o:=.cells #[.int .i64 a1_0, .int .i64 a1_1] 38 (0, 0)) (by (with_reducible repeat (first|refine blk_drewN ?_ _|refine blk_drew ?_|refine blk_alloc ?_ _));exact BK203.out) k_ hk⟩));(case aO => exact (by (with_reducible repeat (first|apply Kd.R_alloc|apply Kd.R_drewN|apply Kd.R_drew));exact HO_5.out));(case aS => exact (below_size (by repeat (first|(with_reducible first|exact HB.out|apply below_alloc|apply pw_below_drewN|apply below_drew1|refine below_set ?_ GE203.out)|exact HB.out))));(case aL => have:=LMc13.out;omega);intro v214 w16 ho hb hg hat;rw [← Ny213.out] at ho;have n0_:=Aside0.mk (Kd.V_afterv (ok:=(fun k_ => (P0_ k_ ∨ w.heap.size ≤ k_) ∧ k_ ≠ gb203)) (by (with_reducible repeat (first|apply Kd.V_alloc|apply Kd.V_drewN|apply Kd.V_drew));exact Kd.V_mono HO_0.out (fun _ hk => ⟨⟨hk.1, hk.2.2⟩, hk.2.1⟩)) hg hat);have n1_:=Aside0.mk (blk_grown (g:=gb203) (o:=.cells #[.int .i64 a1_0, .int .i64 a1_1] 38 (0, 0)) (by (with_reducible repeat (first|refine blk_drewN ?_ _|refine blk_drew ?_|refine blk_alloc ?_ _));exact BK203.out) hg (Kd.R_away HO_5.out (fun _ hk => hk.2)));have n2_:=Aside0.mk (hb);have n3_:=Aside0.mk (ho);clear HO_0;clear BK203;clear HB;clear HO_5;have HO_0:=n0_;have BK203:=n1_;have HB:=n2_;have HO215:=n3_;clear n0_ n1_ n2_ n3_;clear ho hb hg hat;have p216 : 0 ≤ (x7_1 : Int):=of_decide_eq_true (by first|(with_reducible assumption)|assumption);have q216 : x7_1 < (l0.length : Int):=of_decide_eq_true (by first|(with_reducible assumption)|assumption);obtain ⟨ad216, e216, hx216_0, hx216_1⟩:=at_T38 (Kd.V_reads' HO_0.out).2.2 x7_1 p216 q216;obtain rfl : ad207 = ad216:=(by injection e216);replace p216:=eq_true p216;replace q216:=eq_true q216)|((with_reducible refine gate_builtin (b:=.append) (xs:=#[.tmp 57, .tmp 62]) rfl ?_);at_builtin;refine Kd.R_append k38 (w0:=w) w.heap.size rfl (.tmp 57) (.tmp 62) 23 38 (.agg #[(.int .i64 0), (.int .i64 0)]) 16 rfl Try.underlying23 info38 rfl (by decide) (by omega) v214 y213 (⟨(rd_T38 l0 x7_1).f0, (rd_T38 l0 x7_1).f1⟩ : S38) [.int .i64 ((rd_T38 l0 x7_1).f0), .int .i64 ((rd_T38 l0 x7_1).f1)] (fun k_ => (w.heap.size ≤ k_) ∧ k_ ≠ gb203) (fun _ => False) rfl rfl ?aP (fun _ hk => hk.elim) ?aF ?aO ?aB ?aS ?aL ?_;(case aP => exact k38_mkM _ _ _ (⟨(rd_T38 l0 x7_1).f0, (rd_T38 l0 x7_1).f1⟩ : S38));(case aB => exact (by repeat (first|(with_reducible first|exact HB.out|apply below_alloc|apply pw_below_drewN|apply below_drew1|refine below_set ?_ GE203.out)|exact HB.out)));(case aF => exact (fun k_ hk => ⟨(Nat.le_trans (below_size (by repeat (first|(with_reducible first|exact HB.out|apply below_alloc|apply pw_below_drewN|apply below_drew1|refine below_set ?_ GE203.out)|exact HB.out))) hk), Kd.freshB (g:=gb203) (o:=.cells #[.int .i64 a1_0, .int .i64 a1_1] 38 (0, 0)) (by (with_reducible repeat (first|refine blk_drewN ?_ _|refine blk_drew ?_|refine blk_alloc ?_ _));exact BK203.out) k_ hk⟩));(case aO => exact (by (with_reducible repeat (first|apply Kd.R_alloc|apply Kd.R_drewN|apply Kd.R_drew));exact HO215.out));(case aS => exact (below_size (by repeat (first|(with_reducible first|exact HB.out|apply below_alloc|apply pw_below_drewN|apply below_drew1|refine below_set ?_ GE203.out)|exact HB.out))));(case aL => have:=LMc14.out;omega);intro v218 w17 ho hb hg hat;rw [← Ny217.out] at ho;have n0_:=Aside0.mk (Kd.V_afterv (ok:=(fun k_ => (P0_ k_ ∨ w.heap.size ≤ k_) ∧ k_ ≠ gb203)) (by (with_reducible repeat (first|apply Kd.V_alloc|apply Kd.V_drewN|apply Kd.V_drew));exact HO_0.out) hg hat);have n1_:=Aside0.mk (blk_grown (g:=gb203) (o:=.cells #[.int .i64 a1_0, .int .i64 a1_1] 38 (0, 0)) (by (with_reducible repeat (first|refine blk_drewN ?_ _|refine blk_drew ?_|refine blk_alloc ?_ _));exact BK203.out) hg (Kd.R_away HO215.out (fun _ hk => hk.2)));have n2_:=Aside0.mk (hb);have n3_:=Aside0.mk (ho);clear HO_0;clear BK203;clear HB;clear HO215;have HO_0:=n0_;have BK203:=n1_;have HB:=n2_;have HO219:=n3_;clear n0_ n1_ n2_ n3_;clear ho hb hg hat));try go_wp2_with (first|((with_reducible refine gate_builtin (b:=.append) (xs:=#[.tmp 53, .tmp 55]) rfl ?_);at_builtin;refine Kd.R_append k38 (w0:=w) w.heap.size rfl (.tmp 53) (.tmp 55) 23 38 (.agg #[(.int .i64 0), (.int .i64 0)]) 16 rfl Try.underlying23 info38 rfl (by decide) (by omega) u5 x5_1 (⟨a1_0, a1_1⟩ : S38) [.int .i64 a1_0, .int .i64 a1_1] (fun k_ => (w.heap.size ≤ k_) ∧ k_ ≠ gb203) (fun _ => False) rfl rfl ?aP (fun _ hk => hk.elim) ?aF ?aO ?aB ?aS ?aL ?_;(case aP => exact k38_mkM _ _ _ (⟨a1_0, a1_1⟩ : S38));(case aB => exact (by repeat (first|(with_reducible first|exact HB.out|apply below_alloc|apply pw_below_drewN|apply below_drew1|refine below_set ?_ GE203.out)|exact HB.out)));(case aF => exact (fun k_ hk => ⟨(Nat.le_trans (below_size (by repeat (first|(with_reducible first|exact HB.out|apply below_alloc|apply pw_below_drewN|apply below_drew1|refine below_set ?_ GE203.out)|exact HB.out))) hk), Kd.freshB (g:=gb203) (o:=.cells #[.int .i64 a1_0, .int .i64 a1_1] 38 (0, 0)) (by (with_reducible repeat (first|refine blk_drewN ?_ _|refine blk_drew ?_|refine blk_alloc ?_ _));exact BK203.out) k_ hk⟩));(case aO => exact (by (with_reducible repeat (first|apply Kd.R_alloc|apply Kd.R_drewN|apply Kd.R_drew));exact HO_5.out));(case aS => exact (below_size (by repeat (first|(with_reducible first|exact HB.out|apply below_alloc|apply pw_below_drewN|apply below_drew1|refine below_set ?_ GE203.out)|exact HB.out))));(case aL => have:=LMc13.out;omega);intro v214 w16 ho hb hg hat;rw [← Ny213.out] at ho;have n0_:=Aside0.mk (Kd.V_afterv (ok:=(fun k_ => (P0_ k_ ∨ w.heap.size ≤ k_) ∧ k_ ≠ gb203)) (by (with_reducible repeat (first|apply Kd.V_alloc|apply Kd.V_drewN|apply Kd.V_drew));exact Kd.V_mono HO_0.out (fun _ hk => ⟨⟨hk.1, hk.2.2⟩, hk.2.1⟩)) hg hat);have n1_:=Aside0.mk (blk_grown (g:=gb203) (o:=.cells #[.int .i64 a1_0, .int .i64 a1_1] 38 (0, 0)) (by (with_reducible repeat (first|refine blk_drewN ?_ _|refine blk_drew ?_|refine blk_alloc ?_ _));exact BK203.out) hg (Kd.R_away HO_5.out (fun _ hk => hk.2)));have n2_:=Aside0.mk (hb);have n3_:=Aside0.mk (ho);clear HO_0;clear BK203;clear HB;clear HO_5;have HO_0:=n0_;have BK203:=n1_;have HB:=n2_;have HO215:=n3_;clear n0_ n1_ n2_ n3_;clear ho hb hg hat;have p216 : 0 ≤ (x7_1 : Int):=of_decide_eq_true (by first|(with_reducible assumption)|assumption);have q216 : x7_1 < (l0.length : Int):=of_decide_eq_true (by first|(with_reducible assumption)|assumption);obtain ⟨ad216, e216, hx216_0, hx216_1⟩:=at_T38 (Kd.V_reads' HO_0.out).2.2 x7_1 p216 q216;obtain rfl : ad207 = ad216:=(by injection e216);replace p216:=eq_true p216;replace q216:=eq_true q216)|((with_reducible refine gate_builtin (b:=.append) (xs:=#[.tmp 57, .tmp 62]) rfl ?_);at_builtin;refine Kd.R_append k38 (w0:=w) w.heap.size rfl (.tmp 57) (.tmp 62) 23 38 (.agg #[(.int .i64 0), (.int .i64 0)]) 16 rfl Try.underlying23 info38 rfl (by decide) (by omega) v214 y213 (⟨(rd_T38 l0 x7_1).f0, (rd_T38 l0 x7_1).f1⟩ : S38) [.int .i64 ((rd_T38 l0 x7_1).f0), .int .i64 ((rd_T38 l0 x7_1).f1)] (fun k_ => (w.heap.size ≤ k_) ∧ k_ ≠ gb203) (fun _ => False) rfl rfl ?aP (fun _ hk => hk.elim) ?aF ?aO ?aB ?aS ?aL ?_;(case aP => exact k38_mkM _ _ _ (⟨(rd_T38 l0 x7_1).f0, (rd_T38 l0 x7_1).f1⟩ : S38));(case aB => exact (by repeat (first|(with_reducible first|exact HB.out|apply below_alloc|apply pw_below_drewN|apply below_drew1|refine below_set ?_ GE203.out)|exact HB.out)));(case aF => exact (fun k_ hk => ⟨(Nat.le_trans (below_size (by repeat (first|(with_reducible first|exact HB.out|apply below_alloc|apply pw_below_drewN|apply below_drew1|refine below_set ?_ GE203.out)|exact HB.out))) hk), Kd.freshB (g:=gb203) (o:=.cells #[.int .i64 a1_0, .int .i64 a1_1] 38 (0, 0)) (by (with_reducible repeat (first|refine blk_drewN ?_ _|refine blk_drew ?_|refine blk_alloc ?_ _));exact BK203.out) k_ hk⟩));(case aO => exact (by (with_reducible repeat (first|apply Kd.R_alloc|apply Kd.R_drewN|apply Kd.R_drew));exact HO215.out));(case aS => exact (below_size (by repeat (first|(with_reducible first|exact HB.out|apply below_alloc|apply pw_below_drewN|apply below_drew1|refine below_set ?_ GE203.out)|exact HB.out))));(case aL => have:=LMc14.out;omega);intro v218 w17 ho hb hg hat;rw [← Ny217.out] at ho;have n0_:=Aside0.mk (Kd.V_afterv (ok:=(fun k_ => (P0_ k_ ∨ w.heap.size ≤ k_) ∧ k_ ≠ gb203)) (by (with_reducible repeat (first|apply Kd.V_alloc|apply Kd.V_drewN|apply Kd.V_drew));exact HO_0.out) hg hat);have n1_:=Aside0.mk (blk_grown (g:=gb203) (o:=.cells #[.int .i64 a1_0, .int .i64 a1_1] 38 (0, 0)) (by (with_reducible repeat (first|refine blk_drewN ?_ _|refine blk_drew ?_|refine blk_alloc ?_ _));exact BK203.out) hg (Kd.R_away HO215.out (fun _ hk => hk.2)));have n2_:=Aside0.mk (hb);have n3_:=Aside0.mk (ho);clear HO_0;clear BK203;clear HB;clear HO215;have HO_0:=n0_;have BK203:=n1_;have HB:=n2_;have HO219:=n3_;clear n0_ n1_ n2_ n3_;clear ho hb hg hat)))
          go_roundg k1
          case measure => have := HK1.out; omega
          case rel => exact ⟨(y217), (true), (wrap64 (x7_1 + 1)), (by first|rfl|(simp;done)|(simp [*];done)), (by first|rfl|(simp;done)|(simp [*];done)), H', ⟨by have:=HK1.out;omega⟩, ⟨by (with_reducible repeat (first|apply Kd.V_alloc|apply Kd.V_drewN|apply Kd.V_drew));exact Kd.V_mono HO_0.out (fun _ hk => ⟨hk.1.1, ⟨hk.2, hk.1.2⟩⟩)⟩, ⟨by (with_reducible repeat (first|apply Kd.R_alloc|apply Kd.R_drewN|apply Kd.R_drew));exact HO219.out⟩, ⟨by (with_reducible repeat (first|refine blk_drewN ?_ _|refine blk_drew ?_|refine blk_alloc ?_ _));exact BK203.out⟩, ⟨by repeat (first|(with_reducible first|exact HB.out|apply below_alloc|apply pw_below_drewN|apply below_drew1|refine below_set ?_ GE203.out)|exact HB.out)⟩⟩
         ·rw [if_neg c14] at H
          exact absurd H (by simp)
        ·rw [if_neg c13] at H
         exact absurd H (by simp)
       ·rw [if_neg c12] at H
        have c12b0 : decide (a1_1 < ((rd_T38 l0 x7_1).f1)) = false := decide_eq_false c12
        clear c12
        by_cases c18 : ((rd_T38 l0 x7_1).f1) = a1_1
        ·rw [if_pos c18] at H
         have c18b0 : (((rd_T38 l0 x7_1).f1) == a1_1) = true := beq_iff_eq.mpr c18
         (try (have c6z : (((rd_T38 l0 x7_1).f0) == a1_0) = false := by have z := c6b0; rw [c18b0, Bool.and_true] at z; exact z))
         have c18b1 : (((rd_T38 l0 x7_1).f1) != a1_1) = false := bne_eq_false_iff_eq.mpr c18
         clear c18
         by_cases c19 : ((rd_T38 l0 x7_1).f0) > a1_0
         ·rw [if_pos c19] at H
          have c19b0 : decide (a1_0 < ((rd_T38 l0 x7_1).f0)) = true := decide_eq_true c19
          clear c19
          by_cases c20 : x5_1.length < 8796093022208
          ·rw [if_pos c20] at H
           have LMc20 := Aside0.mk c20
           clear c20
           obtain ⟨y222, hy222⟩ : ∃ y_ : List (S38), y_ = (x5_1 ++ [(⟨a1_0, a1_1⟩ : S38)]) := ⟨_, rfl⟩
           replace H : (if y222.length < 8796093022208 then (chancelref04_site.l0 k1 l0 (y222 ++ [(⟨(rd_T38 l0 x7_1).f0, (rd_T38 l0 x7_1).f1⟩ : S38)]) true (wrap64 (x7_1 + 1)) a1_0 a1_1) else (none)) = some r:=by first|(rw [hy222];with_reducible exact H)|(have H2_:=(Option.bind_some _ _).symm.trans H;rw [hy222];with_reducible exact H2_)|(have H2_:=(Option.bind_some _ _).symm.trans H;with_reducible exact H2_)|with_reducible exact H|(rw [hy222];exact H)|exact H
           have Ny222 := Aside0.mk hy222
           clear hy222
           by_cases c21 : y222.length < 8796093022208
           ·rw [if_pos c21] at H
            have LMc21 := Aside0.mk c21
            clear c21
            obtain ⟨y226, hy226⟩ : ∃ y_ : List (S38), y_ = (y222 ++ [(⟨(rd_T38 l0 x7_1).f0, (rd_T38 l0 x7_1).f1⟩ : S38)]) := ⟨_, rfl⟩
            replace H : (chancelref04_site.l0 k1 l0 y226 true (wrap64 (x7_1 + 1)) a1_0 a1_1) = some r:=by first|(rw [hy226];with_reducible exact H)|(have H2_:=(Option.bind_some _ _).symm.trans H;rw [hy226];with_reducible exact H2_)|(have H2_:=(Option.bind_some _ _).symm.trans H;with_reducible exact H2_)|with_reducible exact H|(rw [hy226];exact H)|exact H
            have Ny226 := Aside0.mk hy226
            clear hy226
            have H' := Aside0.mk H
            clear H
            have p207 : 0 ≤ (x7_1 : Int):=of_decide_eq_true (by first|(with_reducible assumption)|assumption)
            have q207 : x7_1 < (l0.length : Int):=of_decide_eq_true (by first|(with_reducible assumption)|assumption)
            obtain ⟨ad207, e207, hx207_0, hx207_1⟩ := at_T38 (Kd.V_reads' HO_0.out).2.2 x7_1 p207 q207
            cases e207
            replace p207 := eq_true p207
            replace q207 := eq_true q207
            have hcz22_0 : wr.cell? ⟨gb203, 0, none⟩ = some (.int .i64 a1_0) := (blk_cell BK203.out 0).trans rfl
            have hcz22_1 : wr.cell? ⟨gb203, 1, none⟩ = some (.int .i64 a1_1) := (blk_cell BK203.out 1).trans rfl
            have hfz22_0 := blk_frozen BK203.out 0
            have hfz22_1 := blk_frozen BK203.out 1
            have p212 : 0 ≤ (x7_1 : Int):=of_decide_eq_true (by first|(with_reducible assumption)|assumption)
            have q212 : x7_1 < (l0.length : Int):=of_decide_eq_true (by first|(with_reducible assumption)|assumption)
            obtain ⟨ad212, e212, hx212_0, hx212_1⟩ := at_T38 (Kd.V_reads' HO_0.out).2.2 x7_1 p212 q212
            obtain rfl : ad207 = ad212 := (by injection e212)
            replace p212 := eq_true p212
            replace q212 := eq_true q212
            have p220 : 0 ≤ (x7_1 : Int):=of_decide_eq_true (by first|(with_reducible assumption)|assumption)
            have q220 : x7_1 < (l0.length : Int):=of_decide_eq_true (by first|(with_reducible assumption)|assumption)
            obtain ⟨ad220, e220, hx220_0, hx220_1⟩ := at_T38 (Kd.V_reads' HO_0.out).2.2 x7_1 p220 q220
            obtain rfl : ad207 = ad220 := (by injection e220)
            replace p220 := eq_true p220
            replace q220 := eq_true q220
            have p221 : 0 ≤ (x7_1 : Int):=of_decide_eq_true (by first|(with_reducible assumption)|assumption)
            have q221 : x7_1 < (l0.length : Int):=of_decide_eq_true (by first|(with_reducible assumption)|assumption)
            obtain ⟨ad221, e221, hx221_0, hx221_1⟩ := at_T38 (Kd.V_reads' HO_0.out).2.2 x7_1 p221 q221
            obtain rfl : ad207 = ad221 := (by injection e221)
            replace p221 := eq_true p221
            replace q221 := eq_true q221
            go_wp2_with (first|((with_reducible refine gate_builtin (b:=.append) (xs:=#[.tmp 53, .tmp 55]) rfl ?_);at_builtin;refine Kd.R_append k38 (w0:=w) w.heap.size rfl (.tmp 53) (.tmp 55) 23 38 (.agg #[(.int .i64 0), (.int .i64 0)]) 16 rfl Try.underlying23 info38 rfl (by decide) (by omega) u5 x5_1 (⟨a1_0, a1_1⟩ : S38) [.int .i64 a1_0, .int .i64 a1_1] (fun k_ => (w.heap.size ≤ k_) ∧ k_ ≠ gb203) (fun _ => False) rfl rfl ?aP (fun _ hk => hk.elim) ?aF ?aO ?aB ?aS ?aL ?_;(case aP => exact k38_mkM _ _ _ (⟨a1_0, a1_1⟩ : S38));(case aB => exact (by repeat (first|(with_reducible first|exact HB.out|apply below_alloc|apply pw_below_drewN|apply below_drew1|refine below_set ?_ GE203.out)|exact HB.out)));(case aF => exact (fun k_ hk => ⟨(Nat.le_trans (below_size (by repeat (first|(with_reducible first|exact HB.out|apply below_alloc|apply pw_below_drewN|apply below_drew1|refine below_set ?_ GE203.out)|exact HB.out))) hk), Kd.freshB (g:=gb203) (o:=.cells #[.int .i64 a1_0, .int .i64 a1_1] 38 (0, 0)) (by (with_reducible repeat (first|refine blk_drewN ?_ _|refine blk_drew ?_|refine blk_alloc ?_ _));exact BK203.out) k_ hk⟩));(case aO => exact (by (with_reducible repeat (first|apply Kd.R_alloc|apply Kd.R_drewN|apply Kd.R_drew));exact HO_5.out));(case aS => exact (below_size (by repeat (first|(with_reducible first|exact HB.out|apply below_alloc|apply pw_below_drewN|apply below_drew1|refine below_set ?_ GE203.out)|exact HB.out))));(case aL => have:=LMc20.out;omega);intro v223 w23 ho hb hg hat;rw [← Ny222.out] at ho;have n0_:=Aside0.mk (Kd.V_afterv (ok:=(fun k_ => (P0_ k_ ∨ w.heap.size ≤ k_) ∧ k_ ≠ gb203)) (by (with_reducible repeat (first|apply Kd.V_alloc|apply Kd.V_drewN|apply Kd.V_drew));exact Kd.V_mono HO_0.out (fun _ hk => ⟨⟨hk.1, hk.2.2⟩, hk.2.1⟩)) hg hat);have n1_:=Aside0.mk (blk_grown (g:=gb203) (o:=.cells #[.int .i64 a1_0, .int .i64 a1_1] 38 (0, 0)) (by (with_reducible repeat (first|refine blk_drewN ?_ _|refine blk_drew ?_|refine blk_alloc ?_ _));exact BK203.out) hg (Kd.R_away HO_5.out (fun _ hk => hk.2)));have n2_:=Aside0.mk (hb);have n3_:=Aside0.mk (ho);clear HO_0;clear BK203;clear HB;clear HO_5;have HO_0:=n0_;have BK203:=n1_;have HB:=n2_;have HO224:=n3_;clear n0_ n1_ n2_ n3_;clear ho hb hg hat;have p225 : 0 ≤ (x7_1 : Int):=of_decide_eq_true (by first|(with_reducible assumption)|assumption);have q225 : x7_1 < (l0.length : Int):=of_decide_eq_true (by first|(with_reducible assumption)|assumption);obtain ⟨ad225, e225, hx225_0, hx225_1⟩:=at_T38 (Kd.V_reads' HO_0.out).2.2 x7_1 p225 q225;obtain rfl : ad207 = ad225:=(by injection e225);replace p225:=eq_true p225;replace q225:=eq_true q225)|((with_reducible refine gate_builtin (b:=.append) (xs:=#[.tmp 57, .tmp 62]) rfl ?_);at_builtin;refine Kd.R_append k38 (w0:=w) w.heap.size rfl (.tmp 57) (.tmp 62) 23 38 (.agg #[(.int .i64 0), (.int .i64 0)]) 16 rfl Try.underlying23 info38 rfl (by decide) (by omega) v223 y222 (⟨(rd_T38 l0 x7_1).f0, (rd_T38 l0 x7_1).f1⟩ : S38) [.int .i64 ((rd_T38 l0 x7_1).f0), .int .i64 ((rd_T38 l0 x7_1).f1)] (fun k_ => (w.heap.size ≤ k_) ∧ k_ ≠ gb203) (fun _ => False) rfl rfl ?aP (fun _ hk => hk.elim) ?aF ?aO ?aB ?aS ?aL ?_;(case aP => exact k38_mkM _ _ _ (⟨(rd_T38 l0 x7_1).f0, (rd_T38 l0 x7_1).f1⟩ : S38));(case aB => exact (by repeat (first|(with_reducible first|exact HB.out|apply below_alloc|apply pw_below_drewN|apply below_drew1|refine below_set ?_ GE203.out)|exact HB.out)));(case aF => exact (fun k_ hk => ⟨(Nat.le_trans (below_size (by repeat (first|(with_reducible first|exact HB.out|apply below_alloc|apply pw_below_drewN|apply below_drew1|refine below_set ?_ GE203.out)|exact HB.out))) hk), Kd.freshB (g:=gb203) (o:=.cells #[.int .i64 a1_0, .int .i64 a1_1] 38 (0, 0)) (by (with_reducible repeat (first|refine blk_drewN ?_ _|refine blk_drew ?_|refine blk_alloc ?_ _));exact BK203.out) k_ hk⟩));(case aO => exact (by (with_reducible repeat (first|apply Kd.R_alloc|apply Kd.R_drewN|apply Kd.R_drew));exact HO224.out));(case aS => exact (below_size (by repeat (first|(with_reducible first|exact HB.out|apply below_alloc|apply pw_below_drewN|apply below_drew1|refine below_set ?_ GE203.out)|exact HB.out))));(case aL => have:=LMc21.out;omega);intro v227 w24 ho hb hg hat;rw [← Ny226.out] at ho;have n0_:=Aside0.mk (Kd.V_afterv (ok:=(fun k_ => (P0_ k_ ∨ w.heap.size ≤ k_) ∧ k_ ≠ gb203)) (by (with_reducible repeat (first|apply Kd.V_alloc|apply Kd.V_drewN|apply Kd.V_drew));exact HO_0.out) hg hat);have n1_:=Aside0.mk (blk_grown (g:=gb203) (o:=.cells #[.int .i64 a1_0, .int .i64 a1_1] 38 (0, 0)) (by (with_reducible repeat (first|refine blk_drewN ?_ _|refine blk_drew ?_|refine blk_alloc ?_ _));exact BK203.out) hg (Kd.R_away HO224.out (fun _ hk => hk.2)));have n2_:=Aside0.mk (hb);have n3_:=Aside0.mk (ho);clear HO_0;clear BK203;clear HB;clear HO224;have HO_0:=n0_;have BK203:=n1_;have HB:=n2_;have HO228:=n3_;clear n0_ n1_ n2_ n3_;clear ho hb hg hat))
            repeat (go_quiet (first|((with_reducible refine gate_builtin (b:=.append) (xs:=#[.tmp 53, .tmp 55]) rfl ?_);at_builtin;refine Kd.R_append k38 (w0:=w) w.heap.size rfl (.tmp 53) (.tmp 55) 23 38 (.agg #[(.int .i64 0), (.int .i64 0)]) 16 rfl Try.underlying23 info38 rfl (by decide) (by omega) u5 x5_1 (⟨a1_0, a1_1⟩ : S38) [.int .i64 a1_0, .int .i64 a1_1] (fun k_ => (w.heap.size ≤ k_) ∧ k_ ≠ gb203) (fun _ => False) rfl rfl ?aP (fun _ hk => hk.elim) ?aF ?aO ?aB ?aS ?aL ?_;(case aP => exact k38_mkM _ _ _ (⟨a1_0, a1_1⟩ : S38));(case aB => exact (by repeat (first|(with_reducible first|exact HB.out|apply below_alloc|apply pw_below_drewN|apply below_drew1|refine below_set ?_ GE203.out)|exact HB.out)));(case aF => exact (fun k_ hk => ⟨(Nat.le_trans (below_size (by repeat (first|(with_reducible first|exact HB.out|apply below_alloc|apply pw_below_drewN|apply below_drew1|refine below_set ?_ GE203.out)|exact HB.out))) hk), Kd.freshB (g:=gb203) (o:=.cells #[.int .i64 a1_0, .int .i64 a1_1] 38 (0, 0)) (by (with_reducible repeat (first|refine blk_drewN ?_ _|refine blk_drew ?_|refine blk_alloc ?_ _));exact BK203.out) k_ hk⟩));(case aO => exact (by (with_reducible repeat (first|apply Kd.R_alloc|apply Kd.R_drewN|apply Kd.R_drew));exact HO_5.out));(case aS => exact (below_size (by repeat (first|(with_reducible first|exact HB.out|apply below_alloc|apply pw_below_drewN|apply below_drew1|refine below_set ?_ GE203.out)|exact HB.out))));(case aL => have:=LMc20.out;omega);intro v223 w23 ho hb hg hat;rw [← Ny222.out] at ho;have n0_:=Aside0.mk (Kd.V_afterv (ok:=(fun k_ => (P0_ k_ ∨ w.heap.size ≤ k_) ∧ k_ ≠ gb203)) (by (with_reducible repeat (first|apply Kd.V_alloc|apply Kd.V_drewN|apply Kd.V_drew));exact Kd.V_mono HO_0.out (fun _ hk => ⟨⟨hk.1, hk.2.2⟩, hk.2.1⟩)) hg hat);have n1_:=Aside0.mk (blk_grown (g:=gb203) (o:=.cells #[.int .i64 a1_0, .int .i64 a1_1] 38 (0, 0)) (by (with_reducible repeat (first|refine blk_drewN ?_ _|refine blk_drew ?_|refine blk_alloc ?_ _));exact BK203.out) hg (Kd.R_away HO_5.out (fun _ hk => hk.2)));have n2_:=Aside0.mk (hb);have n3_:=Aside0.mk (ho);clear HO_0;clear BK203;clear HB;clear HO_5;have HO_0:=n0_;have BK203:=n1_;have HB:=n2_;have HO224:=n3_;clear n0_ n1_ n2_ n3_;clear ho hb hg hat;have p225 : 0 ≤ (x7_1 : Int):=of_decide_eq_true (by first|(with_reducible assumption)|assumption);have q225 : x7_1 < (l0.length : Int):=of_decide_eq_true (by first|(with_reducible assumption)|assumption);obtain ⟨ad225, e225, hx225_0, hx225_1⟩:=at_T38 (Kd.V_reads' HO_0.out).2.2 x7_1 p225 q225;obtain rfl : ad207 = ad225:=(by injection e225);replace p225:=eq_true p225;replace q225:=eq_true q225)|((with_reducible refine gate_builtin (b:=.append) (xs:=#[.tmp 57, .tmp 62]) rfl ?_);at_builtin;refine Kd.R_append k38 (w0:=w) w.heap.size rfl (.tmp 57) (.tmp 62) 23 38 (.agg #[(.int .i64 0), (.int .i64 0)]) 16 rfl Try.underlying23 info38 rfl (by decide) (by omega) v223 y222 (⟨(rd_T38 l0 x7_1).f0, (rd_T38 l0 x7_1).f1⟩ : S38) [.int .i64 ((rd_T38 l0 x7_1).f0), .int .i64 ((rd_T38 l0 x7_1).f1)] (fun k_ => (w.heap.size ≤ k_) ∧ k_ ≠ gb203) (fun _ => False) rfl rfl ?aP (fun _ hk => hk.elim) ?aF ?aO ?aB ?aS ?aL ?_;(case aP => exact k38_mkM _ _ _ (⟨(rd_T38 l0 x7_1).f0, (rd_T38 l0 x7_1).f1⟩ : S38));(case aB => exact (by repeat (first|(with_reducible first|exact HB.out|apply below_alloc|apply pw_below_drewN|apply below_drew1|refine below_set ?_ GE203.out)|exact HB.out)));(case aF => exact (fun k_ hk => ⟨(Nat.le_trans (below_size (by repeat (first|(with_reducible first|exact HB.out|apply below_alloc|apply pw_below_drewN|apply below_drew1|refine below_set ?_ GE203.out)|exact HB.out))) hk), Kd.freshB (g:=gb203) (o:=.cells #[.int .i64 a1_0, .int .i64 a1_1] 38 (0, 0)) (by (with_reducible repeat (first|refine blk_drewN ?_ _|refine blk_drew ?_|refine blk_alloc ?_ _));exact BK203.out) k_ hk⟩));(case aO => exact (by (with_reducible repeat (first|apply Kd.R_alloc|apply Kd.R_drewN|apply Kd.R_drew));exact HO224.out));(case aS => exact (below_size (by repeat (first|(with_reducible first|exact HB.out|apply below_alloc|apply pw_below_drewN|apply below_drew1|refine below_set ?_ GE203.out)|exact HB.out))));(case aL => have:=LMc21.out;omega);intro v227 w24 ho hb hg hat;rw [← Ny226.out] at ho;have n0_:=Aside0.mk (Kd.V_afterv (ok:=(fun k_ => (P0_ k_ ∨ w.heap.size ≤ k_) ∧ k_ ≠ gb203)) (by (with_reducible repeat (first|apply Kd.V_alloc|apply Kd.V_drewN|apply Kd.V_drew));exact HO_0.out) hg hat);have n1_:=Aside0.mk (blk_grown (g:=gb203) (o:=.cells #[.int .i64 a1_0, .int .i64 a1_1] 38 (0, 0)) (by (with_reducible repeat (first|refine blk_drewN ?_ _|refine blk_drew ?_|refine blk_alloc ?_ _));exact BK203.out) hg (Kd.R_away HO224.out (fun _ hk => hk.2)));have n2_:=Aside0.mk (hb);have n3_:=Aside0.mk (ho);clear HO_0;clear BK203;clear HB;clear HO224;have HO_0:=n0_;have BK203:=n1_;have HB:=n2_;have HO228:=n3_;clear n0_ n1_ n2_ n3_;clear ho hb hg hat));try go_wp2_with (first|((with_reducible refine gate_builtin (b:=.append) (xs:=#[.tmp 53, .tmp 55]) rfl ?_);at_builtin;refine Kd.R_append k38 (w0:=w) w.heap.size rfl (.tmp 53) (.tmp 55) 23 38 (.agg #[(.int .i64 0), (.int .i64 0)]) 16 rfl Try.underlying23 info38 rfl (by decide) (by omega) u5 x5_1 (⟨a1_0, a1_1⟩ : S38) [.int .i64 a1_0, .int .i64 a1_1] (fun k_ => (w.heap.size ≤ k_) ∧ k_ ≠ gb203) (fun _ => False) rfl rfl ?aP (fun _ hk => hk.elim) ?aF ?aO ?aB ?aS ?aL ?_;(case aP => exact k38_mkM _ _ _ (⟨a1_0, a1_1⟩ : S38));(case aB => exact (by repeat (first|(with_reducible first|exact HB.out|apply below_alloc|apply pw_below_drewN|apply below_drew1|refine below_set ?_ GE203.out)|exact HB.out)));(case aF => exact (fun k_ hk => ⟨(Nat.le_trans (below_size (by repeat (first|(with_reducible first|exact HB.out|apply below_alloc|apply pw_below_drewN|apply below_drew1|refine below_set ?_ GE203.out)|exact HB.out))) hk), Kd.freshB (g:=gb203) (o:=.cells #[.int .i64 a1_0, .int .i64 a1_1] 38 (0, 0)) (by (with_reducible repeat (first|refine blk_drewN ?_ _|refine blk_drew ?_|refine blk_alloc ?_ _));exact BK203.out) k_ hk⟩));(case aO => exact (by (with_reducible repeat (first|apply Kd.R_alloc|apply Kd.R_drewN|apply Kd.R_drew));exact HO_5.out));(case aS => exact (below_size (by repeat (first|(with_reducible first|exact HB.out|apply below_alloc|apply pw_below_drewN|apply below_drew1|refine below_set ?_ GE203.out)|exact HB.out))));(case aL => have:=LMc20.out;omega);intro v223 w23 ho hb hg hat;rw [← Ny222.out] at ho;have n0_:=Aside0.mk (Kd.V_afterv (ok:=(fun k_ => (P0_ k_ ∨ w.heap.size ≤ k_) ∧ k_ ≠ gb203)) (by (with_reducible repeat (first|apply Kd.V_alloc|apply Kd.V_drewN|apply Kd.V_drew));exact Kd.V_mono HO_0.out (fun _ hk => ⟨⟨hk.1, hk.2.2⟩, hk.2.1⟩)) hg hat);have n1_:=Aside0.mk (blk_grown (g:=gb203) (o:=.cells #[.int .i64 a1_0, .int .i64 a1_1] 38 (0, 0)) (by (with_reducible repeat (first|refine blk_drewN ?_ _|refine blk_drew ?_|refine blk_alloc ?_ _));exact BK203.out) hg (Kd.R_away HO_5.out (fun _ hk => hk.2)));have n2_:=Aside0.mk (hb);have n3_:=Aside0.mk (ho);clear HO_0;clear BK203;clear HB;clear HO_5;have HO_0:=n0_;have BK203:=n1_;have HB:=n2_;have HO224:=n3_;clear n0_ n1_ n2_ n3_;clear ho hb hg hat;have p225 : 0 ≤ (x7_1 : Int):=of_decide_eq_true (by first|(with_reducible assumption)|assumption);have q225 : x7_1 < (l0.length : Int):=of_decide_eq_true (by first|(with_reducible assumption)|assumption);obtain ⟨ad225, e225, hx225_0, hx225_1⟩:=at_T38 (Kd.V_reads' HO_0.out).2.2 x7_1 p225 q225;obtain rfl : ad207 = ad225:=(by injection e225);replace p225:=eq_true p225;replace q225:=eq_true q225)|((with_reducible refine gate_builtin (b:=.append) (xs:=#[.tmp 57, .tmp 62]) rfl ?_);at_builtin;refine Kd.R_append k38 (w0:=w) w.heap.size rfl (.tmp 57) (.tmp 62) 23 38 (.agg #[(.int .i64 0), (.int .i64 0)]) 16 rfl Try.underlying23 info38 rfl (by decide) (by omega) v223 y222 (⟨(rd_T38 l0 x7_1).f0, (rd_T38 l0 x7_1).f1⟩ : S38) [.int .i64 ((rd_T38 l0 x7_1).f0), .int .i64 ((rd_T38 l0 x7_1).f1)] (fun k_ => (w.heap.size ≤ k_) ∧ k_ ≠ gb203) (fun _ => False) rfl rfl ?aP (fun _ hk => hk.elim) ?aF ?aO ?aB ?aS ?aL ?_;(case aP => exact k38_mkM _ _ _ (⟨(rd_T38 l0 x7_1).f0, (rd_T38 l0 x7_1).f1⟩ : S38));(case aB => exact (by repeat (first|(with_reducible first|exact HB.out|apply below_alloc|apply pw_below_drewN|apply below_drew1|refine below_set ?_ GE203.out)|exact HB.out)));(case aF => exact (fun k_ hk => ⟨(Nat.le_trans (below_size (by repeat (first|(with_reducible first|exact HB.out|apply below_alloc|apply pw_below_drewN|apply below_drew1|refine below_set ?_ GE203.out)|exact HB.out))) hk), Kd.freshB (g:=gb203) (o:=.cells #[.int .i64 a1_0, .int .i64 a1_1] 38 (0, 0)) (by (with_reducible repeat (first|refine blk_drewN ?_ _|refine blk_drew ?_|refine blk_alloc ?_ _));exact BK203.out) k_ hk⟩));(case aO => exact (by (with_reducible repeat (first|apply Kd.R_alloc|apply Kd.R_drewN|apply Kd.R_drew));exact HO224.out));(case aS => exact (below_size (by repeat (first|(with_reducible first|exact HB.out|apply below_alloc|apply pw_below_drewN|apply below_drew1|refine below_set ?_ GE203.out)|exact HB.out))));(case aL => have:=LMc21.out;omega);intro v227 w24 ho hb hg hat;rw [← Ny226.out] at ho;have n0_:=Aside0.mk (Kd.V_afterv (ok:=(fun k_ => (P0_ k_ ∨ w.heap.size ≤ k_) ∧ k_ ≠ gb203)) (by (with_reducible repeat (first|apply Kd.V_alloc|apply Kd.V_drewN|apply Kd.V_drew));exact HO_0.out) hg hat);have n1_:=Aside0.mk (blk_grown (g:=gb203) (o:=.cells #[.int .i64 a1_0, .int .i64 a1_1] 38 (0, 0)) (by (with_reducible repeat (first|refine blk_drewN ?_ _|refine blk_drew ?_|refine blk_alloc ?_ _));exact BK203.out) hg (Kd.R_away HO224.out (fun _ hk => hk.2)));have n2_:=Aside0.mk (hb);have n3_:=Aside0.mk (ho);clear HO_0;clear BK203;clear HB;clear HO224;have HO_0:=n0_;have BK203:=n1_;have HB:=n2_;have HO228:=n3_;clear n0_ n1_ n2_ n3_;clear ho hb hg hat)))
            go_roundg k1
            case measure => have := HK1.out; omega
            case rel => exact ⟨(y226), (true), (wrap64 (x7_1 + 1)), (by first|rfl|(simp;done)|(simp [*];done)), (by first|rfl|(simp;done)|(simp [*];done)), H', ⟨by have:=HK1.out;omega⟩, ⟨by (with_reducible repeat (first|apply Kd.V_alloc|apply Kd.V_drewN|apply Kd.V_drew));exact Kd.V_mono HO_0.out (fun _ hk => ⟨hk.1.1, ⟨hk.2, hk.1.2⟩⟩)⟩, ⟨by (with_reducible repeat (first|apply Kd.R_alloc|apply Kd.R_drewN|apply Kd.R_drew));exact HO228.out⟩, ⟨by (with_reducible repeat (first|refine blk_drewN ?_ _|refine blk_drew ?_|refine blk_alloc ?_ _));exact BK203.out⟩, ⟨by repeat (first|(with_reducible first|exact HB.out|apply below_alloc|apply pw_below_drewN|apply below_drew1|refine below_set ?_ GE203.out)|exact HB.out)⟩⟩
           ·rw [if_neg c21] at H
            exact absurd H (by simp)
          ·rw [if_neg c20] at H
           exact absurd H (by simp)
         ·rw [if_neg c19] at H
          have c19b0 : decide (a1_0 < ((rd_T38 l0 x7_1).f0)) = false := decide_eq_false c19
          clear c19
          by_cases c25 : x5_1.length < 8796093022208
          ·rw [if_pos c25] at H
           have LMc25 := Aside0.mk c25
           clear c25
           obtain ⟨y230, hy230⟩ : ∃ y_ : List (S38), y_ = (x5_1 ++ [(⟨(rd_T38 l0 x7_1).f0, (rd_T38 l0 x7_1).f1⟩ : S38)]) := ⟨_, rfl⟩
           replace H : (chancelref04_site.l0 k1 l0 y230 false (wrap64 (x7_1 + 1)) a1_0 a1_1) = some r:=by first|(rw [hy230];with_reducible exact H)|(have H2_:=(Option.bind_some _ _).symm.trans H;rw [hy230];with_reducible exact H2_)|(have H2_:=(Option.bind_some _ _).symm.trans H;with_reducible exact H2_)|with_reducible exact H|(rw [hy230];exact H)|exact H
           have Ny230 := Aside0.mk hy230
           clear hy230
           have H' := Aside0.mk H
           clear H
           have p207 : 0 ≤ (x7_1 : Int):=of_decide_eq_true (by first|(with_reducible assumption)|assumption)
           have q207 : x7_1 < (l0.length : Int):=of_decide_eq_true (by first|(with_reducible assumption)|assumption)
           obtain ⟨ad207, e207, hx207_0, hx207_1⟩ := at_T38 (Kd.V_reads' HO_0.out).2.2 x7_1 p207 q207
           cases e207
           replace p207 := eq_true p207
           replace q207 := eq_true q207
           have hcz26_0 : wr.cell? ⟨gb203, 0, none⟩ = some (.int .i64 a1_0) := (blk_cell BK203.out 0).trans rfl
           have hcz26_1 : wr.cell? ⟨gb203, 1, none⟩ = some (.int .i64 a1_1) := (blk_cell BK203.out 1).trans rfl
           have hfz26_0 := blk_frozen BK203.out 0
           have hfz26_1 := blk_frozen BK203.out 1
           have p212 : 0 ≤ (x7_1 : Int):=of_decide_eq_true (by first|(with_reducible assumption)|assumption)
           have q212 : x7_1 < (l0.length : Int):=of_decide_eq_true (by first|(with_reducible assumption)|assumption)
           obtain ⟨ad212, e212, hx212_0, hx212_1⟩ := at_T38 (Kd.V_reads' HO_0.out).2.2 x7_1 p212 q212
           obtain rfl : ad207 = ad212 := (by injection e212)
           replace p212 := eq_true p212
           replace q212 := eq_true q212
           have p220 : 0 ≤ (x7_1 : Int):=of_decide_eq_true (by first|(with_reducible assumption)|assumption)
           have q220 : x7_1 < (l0.length : Int):=of_decide_eq_true (by first|(with_reducible assumption)|assumption)
           obtain ⟨ad220, e220, hx220_0, hx220_1⟩ := at_T38 (Kd.V_reads' HO_0.out).2.2 x7_1 p220 q220
           obtain rfl : ad207 = ad220 := (by injection e220)
           replace p220 := eq_true p220
           replace q220 := eq_true q220
           have p221 : 0 ≤ (x7_1 : Int):=of_decide_eq_true (by first|(with_reducible assumption)|assumption)
           have q221 : x7_1 < (l0.length : Int):=of_decide_eq_true (by first|(with_reducible assumption)|assumption)
           obtain ⟨ad221, e221, hx221_0, hx221_1⟩ := at_T38 (Kd.V_reads' HO_0.out).2.2 x7_1 p221 q221
           obtain rfl : ad207 = ad221 := (by injection e221)
           replace p221 := eq_true p221
           replace q221 := eq_true q221
           have p229 : 0 ≤ (x7_1 : Int):=of_decide_eq_true (by first|(with_reducible assumption)|assumption)
           have q229 : x7_1 < (l0.length : Int):=of_decide_eq_true (by first|(with_reducible assumption)|assumption)
           obtain ⟨ad229, e229, hx229_0, hx229_1⟩ := at_T38 (Kd.V_reads' HO_0.out).2.2 x7_1 p229 q229
           obtain rfl : ad207 = ad229 := (by injection e229)
           replace p229 := eq_true p229
           replace q229 := eq_true q229
           go_wp2_with (first|((with_reducible refine gate_builtin (b:=.append) (xs:=#[.tmp 57, .tmp 62]) rfl ?_);at_builtin;refine Kd.R_append k38 (w0:=w) w.heap.size rfl (.tmp 57) (.tmp 62) 23 38 (.agg #[(.int .i64 0), (.int .i64 0)]) 16 rfl Try.underlying23 info38 rfl (by decide) (by omega) u5 x5_1 (⟨(rd_T38 l0 x7_1).f0, (rd_T38 l0 x7_1).f1⟩ : S38) [.int .i64 ((rd_T38 l0 x7_1).f0), .int .i64 ((rd_T38 l0 x7_1).f1)] (fun k_ => (w.heap.size ≤ k_) ∧ k_ ≠ gb203) (fun _ => False) rfl rfl ?aP (fun _ hk => hk.elim) ?aF ?aO ?aB ?aS ?aL ?_;(case aP => exact k38_mkM _ _ _ (⟨(rd_T38 l0 x7_1).f0, (rd_T38 l0 x7_1).f1⟩ : S38));(case aB => exact (by repeat (first|(with_reducible first|exact HB.out|apply below_alloc|apply pw_below_drewN|apply below_drew1|refine below_set ?_ GE203.out)|exact HB.out)));(case aF => exact (fun k_ hk => ⟨(Nat.le_trans (below_size (by repeat (first|(with_reducible first|exact HB.out|apply below_alloc|apply pw_below_drewN|apply below_drew1|refine below_set ?_ GE203.out)|exact HB.out))) hk), Kd.freshB (g:=gb203) (o:=.cells #[.int .i64 a1_0, .int .i64 a1_1] 38 (0, 0)) (by (with_reducible repeat (first|refine blk_drewN ?_ _|refine blk_drew ?_|refine blk_alloc ?_ _));exact BK203.out) k_ hk⟩));(case aO => exact (by (with_reducible repeat (first|apply Kd.R_alloc|apply Kd.R_drewN|apply Kd.R_drew));exact HO_5.out));(case aS => exact (below_size (by repeat (first|(with_reducible first|exact HB.out|apply below_alloc|apply pw_below_drewN|apply below_drew1|refine below_set ?_ GE203.out)|exact HB.out))));(case aL => have:=LMc25.out;omega);intro v231 w27 ho hb hg hat;rw [← Ny230.out] at ho;have n0_:=Aside0.mk (Kd.V_afterv (ok:=(fun k_ => (P0_ k_ ∨ w.heap.size ≤ k_) ∧ k_ ≠ gb203)) (by (with_reducible repeat (first|apply Kd.V_alloc|apply Kd.V_drewN|apply Kd.V_drew));exact Kd.V_mono HO_0.out (fun _ hk => ⟨⟨hk.1, hk.2.2⟩, hk.2.1⟩)) hg hat);have n1_:=Aside0.mk (blk_grown (g:=gb203) (o:=.cells #[.int .i64 a1_0, .int .i64 a1_1] 38 (0, 0)) (by (with_reducible repeat (first|refine blk_drewN ?_ _|refine blk_drew ?_|refine blk_alloc ?_ _));exact BK203.out) hg (Kd.R_away HO_5.out (fun _ hk => hk.2)));have n2_:=Aside0.mk (hb);have n3_:=Aside0.mk (ho);clear HO_0;clear BK203;clear HB;clear HO_5;have HO_0:=n0_;have BK203:=n1_;have HB:=n2_;have HO232:=n3_;clear n0_ n1_ n2_ n3_;clear ho hb hg hat))
           repeat (go_quiet (first|((with_reducible refine gate_builtin (b:=.append) (xs:=#[.tmp 57, .tmp 62]) rfl ?_);at_builtin;refine Kd.R_append k38 (w0:=w) w.heap.size rfl (.tmp 57) (.tmp 62) 23 38 (.agg #[(.int .i64 0), (.int .i64 0)]) 16 rfl Try.underlying23 info38 rfl (by decide) (by omega) u5 x5_1 (⟨(rd_T38 l0 x7_1).f0, (rd_T38 l0 x7_1).f1⟩ : S38) [.int .i64 ((rd_T38 l0 x7_1).f0), .int .i64 ((rd_T38 l0 x7_1).f1)] (fun k_ => (w.heap.size ≤ k_) ∧ k_ ≠ gb203) (fun _ => False) rfl rfl ?aP (fun _ hk => hk.elim) ?aF ?aO ?aB ?aS ?aL ?_;(case aP => exact k38_mkM _ _ _ (⟨(rd_T38 l0 x7_1).f0, (rd_T38 l0 x7_1).f1⟩ : S38));(case aB => exact (by repeat (first|(with_reducible first|exact HB.out|apply below_alloc|apply pw_below_drewN|apply below_drew1|refine below_set ?_ GE203.out)|exact HB.out)));(case aF => exact (fun k_ hk => ⟨(Nat.le_trans (below_size (by repeat (first|(with_reducible first|exact HB.out|apply below_alloc|apply pw_below_drewN|apply below_drew1|refine below_set ?_ GE203.out)|exact HB.out))) hk), Kd.freshB (g:=gb203) (o:=.cells #[.int .i64 a1_0, .int .i64 a1_1] 38 (0, 0)) (by (with_reducible repeat (first|refine blk_drewN ?_ _|refine blk_drew ?_|refine blk_alloc ?_ _));exact BK203.out) k_ hk⟩));(case aO => exact (by (with_reducible repeat (first|apply Kd.R_alloc|apply Kd.R_drewN|apply Kd.R_drew));exact HO_5.out));(case aS => exact (below_size (by repeat (first|(with_reducible first|exact HB.out|apply below_alloc|apply pw_below_drewN|apply below_drew1|refine below_set ?_ GE203.out)|exact HB.out))));(case aL => have:=LMc25.out;omega);intro v231 w27 ho hb hg hat;rw [← Ny230.out] at ho;have n0_:=Aside0.mk (Kd.V_afterv (ok:=(fun k_ => (P0_ k_ ∨ w.heap.size ≤ k_) ∧ k_ ≠ gb203)) (by (with_reducible repeat (first|apply Kd.V_alloc|apply Kd.V_drewN|apply Kd.V_drew));exact Kd.V_mono HO_0.out (fun _ hk => ⟨⟨hk.1, hk.2.2⟩, hk.2.1⟩)) hg hat);have n1_:=Aside0.mk (blk_grown (g:=gb203) (o:=.cells #[.int .i64 a1_0, .int .i64 a1_1] 38 (0, 0)) (by (with_reducible repeat (first|refine blk_drewN ?_ _|refine blk_drew ?_|refine blk_alloc ?_ _));exact BK203.out) hg (Kd.R_away HO_5.out (fun _ hk => hk.2)));have n2_:=Aside0.mk (hb);have n3_:=Aside0.mk (ho);clear HO_0;clear BK203;clear HB;clear HO_5;have HO_0:=n0_;have BK203:=n1_;have HB:=n2_;have HO232:=n3_;clear n0_ n1_ n2_ n3_;clear ho hb hg hat));try go_wp2_with (first|((with_reducible refine gate_builtin (b:=.append) (xs:=#[.tmp 57, .tmp 62]) rfl ?_);at_builtin;refine Kd.R_append k38 (w0:=w) w.heap.size rfl (.tmp 57) (.tmp 62) 23 38 (.agg #[(.int .i64 0), (.int .i64 0)]) 16 rfl Try.underlying23 info38 rfl (by decide) (by omega) u5 x5_1 (⟨(rd_T38 l0 x7_1).f0, (rd_T38 l0 x7_1).f1⟩ : S38) [.int .i64 ((rd_T38 l0 x7_1).f0), .int .i64 ((rd_T38 l0 x7_1).f1)] (fun k_ => (w.heap.size ≤ k_) ∧ k_ ≠ gb203) (fun _ => False) rfl rfl ?aP (fun _ hk => hk.elim) ?aF ?aO ?aB ?aS ?aL ?_;(case aP => exact k38_mkM _ _ _ (⟨(rd_T38 l0 x7_1).f0, (rd_T38 l0 x7_1).f1⟩ : S38));(case aB => exact (by repeat (first|(with_reducible first|exact HB.out|apply below_alloc|apply pw_below_drewN|apply below_drew1|refine below_set ?_ GE203.out)|exact HB.out)));(case aF => exact (fun k_ hk => ⟨(Nat.le_trans (below_size (by repeat (first|(with_reducible first|exact HB.out|apply below_alloc|apply pw_below_drewN|apply below_drew1|refine below_set ?_ GE203.out)|exact HB.out))) hk), Kd.freshB (g:=gb203) (o:=.cells #[.int .i64 a1_0, .int .i64 a1_1] 38 (0, 0)) (by (with_reducible repeat (first|refine blk_drewN ?_ _|refine blk_drew ?_|refine blk_alloc ?_ _));exact BK203.out) k_ hk⟩));(case aO => exact (by (with_reducible repeat (first|apply Kd.R_alloc|apply Kd.R_drewN|apply Kd.R_drew));exact HO_5.out));(case aS => exact (below_size (by repeat (first|(with_reducible first|exact HB.out|apply below_alloc|apply pw_below_drewN|apply below_drew1|refine below_set ?_ GE203.out)|exact HB.out))));(case aL => have:=LMc25.out;omega);intro v231 w27 ho hb hg hat;rw [← Ny230.out] at ho;have n0_:=Aside0.mk (Kd.V_afterv (ok:=(fun k_ => (P0_ k_ ∨ w.heap.size ≤ k_) ∧ k_ ≠ gb203)) (by (with_reducible repeat (first|apply Kd.V_alloc|apply Kd.V_drewN|apply Kd.V_drew));exact Kd.V_mono HO_0.out (fun _ hk => ⟨⟨hk.1, hk.2.2⟩, hk.2.1⟩)) hg hat);have n1_:=Aside0.mk (blk_grown (g:=gb203) (o:=.cells #[.int .i64 a1_0, .int .i64 a1_1] 38 (0, 0)) (by (with_reducible repeat (first|refine blk_drewN ?_ _|refine blk_drew ?_|refine blk_alloc ?_ _));exact BK203.out) hg (Kd.R_away HO_5.out (fun _ hk => hk.2)));have n2_:=Aside0.mk (hb);have n3_:=Aside0.mk (ho);clear HO_0;clear BK203;clear HB;clear HO_5;have HO_0:=n0_;have BK203:=n1_;have HB:=n2_;have HO232:=n3_;clear n0_ n1_ n2_ n3_;clear ho hb hg hat)))
           go_roundg k1
           case measure => have := HK1.out; omega
           case rel => exact ⟨(y230), (false), (wrap64 (x7_1 + 1)), (by first|rfl|(simp;done)|(simp [*];done)), (by first|rfl|(simp;done)|(simp [*];done)), H', ⟨by have:=HK1.out;omega⟩, ⟨by (with_reducible repeat (first|apply Kd.V_alloc|apply Kd.V_drewN|apply Kd.V_drew));exact Kd.V_mono HO_0.out (fun _ hk => ⟨hk.1.1, ⟨hk.2, hk.1.2⟩⟩)⟩, ⟨by (with_reducible repeat (first|apply Kd.R_alloc|apply Kd.R_drewN|apply Kd.R_drew));exact HO232.out⟩, ⟨by (with_reducible repeat (first|refine blk_drewN ?_ _|refine blk_drew ?_|refine blk_alloc ?_ _));exact BK203.out⟩, ⟨by repeat (first|(with_reducible first|exact HB.out|apply below_alloc|apply pw_below_drewN|apply below_drew1|refine below_set ?_ GE203.out)|exact HB.out)⟩⟩
          ·rw [if_neg c25] at H
           exact absurd H (by simp)
        ·rw [if_neg c18] at H
         have c18b0 : (((rd_T38 l0 x7_1).f1) == a1_1) = false := beq_eq_false_iff_ne.mpr c18
         have c18b1 : (((rd_T38 l0 x7_1).f1) != a1_1) = true := bne_iff_ne.mpr c18
         by_cases c28 : x5_1.length < 8796093022208
         ·rw [if_pos c28] at H
          have LMc28 := Aside0.mk c28
          clear c28
          obtain ⟨y234, hy234⟩ : ∃ y_ : List (S38), y_ = (x5_1 ++ [(⟨(rd_T38 l0 x7_1).f0, (rd_T38 l0 x7_1).f1⟩ : S38)]) := ⟨_, rfl⟩
          replace H : (chancelref04_site.l0 k1 l0 y234 false (wrap64 (x7_1 + 1)) a1_0 a1_1) = some r:=by first|(rw [hy234];with_reducible exact H)|(have H2_:=(Option.bind_some _ _).symm.trans H;rw [hy234];with_reducible exact H2_)|(have H2_:=(Option.bind_some _ _).symm.trans H;with_reducible exact H2_)|with_reducible exact H|(rw [hy234];exact H)|exact H
          have Ny234 := Aside0.mk hy234
          clear hy234
          have H' := Aside0.mk H
          clear H
          have p207 : 0 ≤ (x7_1 : Int):=of_decide_eq_true (by first|(with_reducible assumption)|assumption)
          have q207 : x7_1 < (l0.length : Int):=of_decide_eq_true (by first|(with_reducible assumption)|assumption)
          obtain ⟨ad207, e207, hx207_0, hx207_1⟩ := at_T38 (Kd.V_reads' HO_0.out).2.2 x7_1 p207 q207
          cases e207
          replace p207 := eq_true p207
          replace q207 := eq_true q207
          have hcz29_0 : wr.cell? ⟨gb203, 0, none⟩ = some (.int .i64 a1_0) := (blk_cell BK203.out 0).trans rfl
          have hcz29_1 : wr.cell? ⟨gb203, 1, none⟩ = some (.int .i64 a1_1) := (blk_cell BK203.out 1).trans rfl
          have hfz29_0 := blk_frozen BK203.out 0
          have hfz29_1 := blk_frozen BK203.out 1
          have p212 : 0 ≤ (x7_1 : Int):=of_decide_eq_true (by first|(with_reducible assumption)|assumption)
          have q212 : x7_1 < (l0.length : Int):=of_decide_eq_true (by first|(with_reducible assumption)|assumption)
          obtain ⟨ad212, e212, hx212_0, hx212_1⟩ := at_T38 (Kd.V_reads' HO_0.out).2.2 x7_1 p212 q212
          obtain rfl : ad207 = ad212 := (by injection e212)
          replace p212 := eq_true p212
          replace q212 := eq_true q212
          have p220 : 0 ≤ (x7_1 : Int):=of_decide_eq_true (by first|(with_reducible assumption)|assumption)
          have q220 : x7_1 < (l0.length : Int):=of_decide_eq_true (by first|(with_reducible assumption)|assumption)
          obtain ⟨ad220, e220, hx220_0, hx220_1⟩ := at_T38 (Kd.V_reads' HO_0.out).2.2 x7_1 p220 q220
          obtain rfl : ad207 = ad220 := (by injection e220)
          replace p220 := eq_true p220
          replace q220 := eq_true q220
          have p233 : 0 ≤ (x7_1 : Int):=of_decide_eq_true (by first|(with_reducible assumption)|assumption)
          have q233 : x7_1 < (l0.length : Int):=of_decide_eq_true (by first|(with_reducible assumption)|assumption)
          obtain ⟨ad233, e233, hx233_0, hx233_1⟩ := at_T38 (Kd.V_reads' HO_0.out).2.2 x7_1 p233 q233
          obtain rfl : ad207 = ad233 := (by injection e233)
          replace p233 := eq_true p233
          replace q233 := eq_true q233
          go_wp2_with (first|((with_reducible refine gate_builtin (b:=.append) (xs:=#[.tmp 57, .tmp 62]) rfl ?_);at_builtin;refine Kd.R_append k38 (w0:=w) w.heap.size rfl (.tmp 57) (.tmp 62) 23 38 (.agg #[(.int .i64 0), (.int .i64 0)]) 16 rfl Try.underlying23 info38 rfl (by decide) (by omega) u5 x5_1 (⟨(rd_T38 l0 x7_1).f0, (rd_T38 l0 x7_1).f1⟩ : S38) [.int .i64 ((rd_T38 l0 x7_1).f0), .int .i64 ((rd_T38 l0 x7_1).f1)] (fun k_ => (w.heap.size ≤ k_) ∧ k_ ≠ gb203) (fun _ => False) rfl rfl ?aP (fun _ hk => hk.elim) ?aF ?aO ?aB ?aS ?aL ?_;(case aP => exact k38_mkM _ _ _ (⟨(rd_T38 l0 x7_1).f0, (rd_T38 l0 x7_1).f1⟩ : S38));(case aB => exact (by repeat (first|(with_reducible first|exact HB.out|apply below_alloc|apply pw_below_drewN|apply below_drew1|refine below_set ?_ GE203.out)|exact HB.out)));(case aF => exact (fun k_ hk => ⟨(Nat.le_trans (below_size (by repeat (first|(with_reducible first|exact HB.out|apply below_alloc|apply pw_below_drewN|apply below_drew1|refine below_set ?_ GE203.out)|exact HB.out))) hk), Kd.freshB (g:=gb203) (o:=.cells #[.int .i64 a1_0, .int .i64 a1_1] 38 (0, 0)) (by (with_reducible repeat (first|refine blk_drewN ?_ _|refine blk_drew ?_|refine blk_alloc ?_ _));exact BK203.out) k_ hk⟩));(case aO => exact (by (with_reducible repeat (first|apply Kd.R_alloc|apply Kd.R_drewN|apply Kd.R_drew));exact HO_5.out));(case aS => exact (below_size (by repeat (first|(with_reducible first|exact HB.out|apply below_alloc|apply pw_below_drewN|apply below_drew1|refine below_set ?_ GE203.out)|exact HB.out))));(case aL => have:=LMc28.out;omega);intro v235 w30 ho hb hg hat;rw [← Ny234.out] at ho;have n0_:=Aside0.mk (Kd.V_afterv (ok:=(fun k_ => (P0_ k_ ∨ w.heap.size ≤ k_) ∧ k_ ≠ gb203)) (by (with_reducible repeat (first|apply Kd.V_alloc|apply Kd.V_drewN|apply Kd.V_drew));exact Kd.V_mono HO_0.out (fun _ hk => ⟨⟨hk.1, hk.2.2⟩, hk.2.1⟩)) hg hat);have n1_:=Aside0.mk (blk_grown (g:=gb203) (o:=.cells #[.int .i64 a1_0, .int .i64 a1_1] 38 (0, 0)) (by (with_reducible repeat (first|refine blk_drewN ?_ _|refine blk_drew ?_|refine blk_alloc ?_ _));exact BK203.out) hg (Kd.R_away HO_5.out (fun _ hk => hk.2)));have n2_:=Aside0.mk (hb);have n3_:=Aside0.mk (ho);clear HO_0;clear BK203;clear HB;clear HO_5;have HO_0:=n0_;have BK203:=n1_;have HB:=n2_;have HO236:=n3_;clear n0_ n1_ n2_ n3_;clear ho hb hg hat))
          repeat (go_quiet (first|((with_reducible refine gate_builtin (b:=.append) (xs:=#[.tmp 57, .tmp 62]) rfl ?_);at_builtin;refine Kd.R_append k38 (w0:=w) w.heap.size rfl (.tmp 57) (.tmp 62) 23 38 (.agg #[(.int .i64 0), (.int .i64 0)]) 16 rfl Try.underlying23 info38 rfl (by decide) (by omega) u5 x5_1 (⟨(rd_T38 l0 x7_1).f0, (rd_T38 l0 x7_1).f1⟩ : S38) [.int .i64 ((rd_T38 l0 x7_1).f0), .int .i64 ((rd_T38 l0 x7_1).f1)] (fun k_ => (w.heap.size ≤ k_) ∧ k_ ≠ gb203) (fun _ => False) rfl rfl ?aP (fun _ hk => hk.elim) ?aF ?aO ?aB ?aS ?aL ?_;(case aP => exact k38_mkM _ _ _ (⟨(rd_T38 l0 x7_1).f0, (rd_T38 l0 x7_1).f1⟩ : S38));(case aB => exact (by repeat (first|(with_reducible first|exact HB.out|apply below_alloc|apply pw_below_drewN|apply below_drew1|refine below_set ?_ GE203.out)|exact HB.out)));(case aF => exact (fun k_ hk => ⟨(Nat.le_trans (below_size (by repeat (first|(with_reducible first|exact HB.out|apply below_alloc|apply pw_below_drewN|apply below_drew1|refine below_set ?_ GE203.out)|exact HB.out))) hk), Kd.freshB (g:=gb203) (o:=.cells #[.int .i64 a1_0, .int .i64 a1_1] 38 (0, 0)) (by (with_reducible repeat (first|refine blk_drewN ?_ _|refine blk_drew ?_|refine blk_alloc ?_ _));exact BK203.out) k_ hk⟩));(case aO => exact (by (with_reducible repeat (first|apply Kd.R_alloc|apply Kd.R_drewN|apply Kd.R_drew));exact HO_5.out));(case aS => exact (below_size (by repeat (first|(with_reducible first|exact HB.out|apply below_alloc|apply pw_below_drewN|apply below_drew1|refine below_set ?_ GE203.out)|exact HB.out))));(case aL => have:=LMc28.out;omega);intro v235 w30 ho hb hg hat;rw [← Ny234.out] at ho;have n0_:=Aside0.mk (Kd.V_afterv (ok:=(fun k_ => (P0_ k_ ∨ w.heap.size ≤ k_) ∧ k_ ≠ gb203)) (by (with_reducible repeat (first|apply Kd.V_alloc|apply Kd.V_drewN|apply Kd.V_drew));exact Kd.V_mono HO_0.out (fun _ hk => ⟨⟨hk.1, hk.2.2⟩, hk.2.1⟩)) hg hat);have n1_:=Aside0.mk (blk_grown (g:=gb203) (o:=.cells #[.int .i64 a1_0, .int .i64 a1_1] 38 (0, 0)) (by (with_reducible repeat (first|refine blk_drewN ?_ _|refine blk_drew ?_|refine blk_alloc ?_ _));exact BK203.out) hg (Kd.R_away HO_5.out (fun _ hk => hk.2)));have n2_:=Aside0.mk (hb);have n3_:=Aside0.mk (ho);clear HO_0;clear BK203;clear HB;clear HO_5;have HO_0:=n0_;have BK203:=n1_;have HB:=n2_;have HO236:=n3_;clear n0_ n1_ n2_ n3_;clear ho hb hg hat));try go_wp2_with (first|((with_reducible refine gate_builtin (b:=.append) (xs:=#[.tmp 57, .tmp 62]) rfl ?_);at_builtin;refine Kd.R_append k38 (w0:=w) w.heap.size rfl (.tmp 57) (.tmp 62) 23 38 (.agg #[(.int .i64 0), (.int .i64 0)]) 16 rfl Try.underlying23 info38 rfl (by decide) (by omega) u5 x5_1 (⟨(rd_T38 l0 x7_1).f0, (rd_T38 l0 x7_1).f1⟩ : S38) [.int .i64 ((rd_T38 l0 x7_1).f0), .int .i64 ((rd_T38 l0 x7_1).f1)] (fun k_ => (w.heap.size ≤ k_) ∧ k_ ≠ gb203) (fun _ => False) rfl rfl ?aP (fun _ hk => hk.elim) ?aF ?aO ?aB ?aS ?aL ?_;(case aP => exact k38_mkM _ _ _ (⟨(rd_T38 l0 x7_1).f0, (rd_T38 l0 x7_1).f1⟩ : S38));(case aB => exact (by repeat (first|(with_reducible first|exact HB.out|apply below_alloc|apply pw_below_drewN|apply below_drew1|refine below_set ?_ GE203.out)|exact HB.out)));(case aF => exact (fun k_ hk => ⟨(Nat.le_trans (below_size (by repeat (first|(with_reducible first|exact HB.out|apply below_alloc|apply pw_below_drewN|apply below_drew1|refine below_set ?_ GE203.out)|exact HB.out))) hk), Kd.freshB (g:=gb203) (o:=.cells #[.int .i64 a1_0, .int .i64 a1_1] 38 (0, 0)) (by (with_reducible repeat (first|refine blk_drewN ?_ _|refine blk_drew ?_|refine blk_alloc ?_ _));exact BK203.out) k_ hk⟩));(case aO => exact (by (with_reducible repeat (first|apply Kd.R_alloc|apply Kd.R_drewN|apply Kd.R_drew));exact HO_5.out));(case aS => exact (below_size (by repeat (first|(with_reducible first|exact HB.out|apply below_alloc|apply pw_below_drewN|apply below_drew1|refine below_set ?_ GE203.out)|exact HB.out))));(case aL => have:=LMc28.out;omega);intro v235 w30 ho hb hg hat;rw [← Ny234.out] at ho;have n0_:=Aside0.mk (Kd.V_afterv (ok:=(fun k_ => (P0_ k_ ∨ w.heap.size ≤ k_) ∧ k_ ≠ gb203)) (by (with_reducible repeat (first|apply Kd.V_alloc|apply Kd.V_drewN|apply Kd.V_drew));exact Kd.V_mono HO_0.out (fun _ hk => ⟨⟨hk.1, hk.2.2⟩, hk.2.1⟩)) hg hat);have n1_:=Aside0.mk (blk_grown (g:=gb203) (o:=.cells #[.int .i64 a1_0, .int .i64 a1_1] 38 (0, 0)) (by (with_reducible repeat (first|refine blk_drewN ?_ _|refine blk_drew ?_|refine blk_alloc ?_ _));exact BK203.out) hg (Kd.R_away HO_5.out (fun _ hk => hk.2)));have n2_:=Aside0.mk (hb);have n3_:=Aside0.mk (ho);clear HO_0;clear BK203;clear HB;clear HO_5;have HO_0:=n0_;have BK203:=n1_;have HB:=n2_;have HO236:=n3_;clear n0_ n1_ n2_ n3_;clear ho hb hg hat)))
          go_roundg k1
          case measure => have := HK1.out; omega
          case rel => exact ⟨(y234), (false), (wrap64 (x7_1 + 1)), (by first|rfl|(simp;done)|(simp [*];done)), (by first|rfl|(simp;done)|(simp [*];done)), H', ⟨by have:=HK1.out;omega⟩, ⟨by (with_reducible repeat (first|apply Kd.V_alloc|apply Kd.V_drewN|apply Kd.V_drew));exact Kd.V_mono HO_0.out (fun _ hk => ⟨hk.1.1, ⟨hk.2, hk.1.2⟩⟩)⟩, ⟨by (with_reducible repeat (first|apply Kd.R_alloc|apply Kd.R_drewN|apply Kd.R_drew));exact HO236.out⟩, ⟨by (with_reducible repeat (first|refine blk_drewN ?_ _|refine blk_drew ?_|refine blk_alloc ?_ _));exact BK203.out⟩, ⟨by repeat (first|(with_reducible first|exact HB.out|apply below_alloc|apply pw_below_drewN|apply below_drew1|refine below_set ?_ GE203.out)|exact HB.out)⟩⟩
         ·rw [if_neg c28] at H
          exact absurd H (by simp)
    ·rw [if_neg c5] at H
     exact absurd H (by simp)
   ·rw [if_neg c4] at H
    have c4b0 : decide (x7_1 < (l0.length : Int)) = false := decide_eq_false c4
    clear c4
    by_cases c31 : x6_1 = true
    ·subst c31
     have H1 : (some x5_1) = some r := by rw [if_pos rfl] at H; exact H
     clear H
     have H := H1
     clear H1
     obtain rfl := Option.some.inj H
     go_wp2
     repeat (go_quiet (fail); try go_wp2)
     go_ret
     exact ⟨_, by first|rfl|(simp [errW_none, errW_some] <;> rfl)|(simp [*, errW_none, errW_some] <;> rfl), Kd.V_mono (Kd.R_V (by (with_reducible repeat (first|apply Kd.R_alloc|apply Kd.R_drewN|apply Kd.R_drew));exact Kd.R_mono HO_5.out (fun _ hk => hk.1))) (fun k_ hk => by first|exact ⟨(.inr (hk.1)), hk.2⟩|exact (.inr (hk))), by repeat (first|(with_reducible first|exact HB.out|apply below_alloc|apply pw_below_drewN|apply below_drew1|refine below_set ?_ GE203.out)|exact HB.out)⟩
    ·replace c31 := Bool.eq_false_iff.mpr c31
     subst c31
     have H1 : (if x5_1.length < 8796093022208 then (some (x5_1 ++ [(⟨a1_0, a1_1⟩ : S38)])) else (none)) = some r := by rw [if_neg (show ¬ (false = true) by decide)] at H; exact H
     clear H
     have H := H1
     clear H1
     by_cases c32 : x5_1.length < 8796093022208
     ·rw [if_pos c32] at H
      have LMc32 := Aside0.mk c32
      clear c32
      obtain ⟨y204, hy204⟩ : ∃ y_ : List (S38), y_ = (x5_1 ++ [(⟨a1_0, a1_1⟩ : S38)]) := ⟨_, rfl⟩
      replace H : (some y204) = some r:=by first|(rw [hy204];with_reducible exact H)|(have H2_:=(Option.bind_some _ _).symm.trans H;rw [hy204];with_reducible exact H2_)|(have H2_:=(Option.bind_some _ _).symm.trans H;with_reducible exact H2_)|with_reducible exact H|(rw [hy204];exact H)|exact H
      have Ny204 := Aside0.mk hy204
      clear hy204
      obtain rfl := Option.some.inj H
      have hcz33_0 : wr.cell? ⟨gb203, 0, none⟩ = some (.int .i64 a1_0) := (blk_cell BK203.out 0).trans rfl
      have hcz33_1 : wr.cell? ⟨gb203, 1, none⟩ = some (.int .i64 a1_1) := (blk_cell BK203.out 1).trans rfl
      have hfz33_0 := blk_frozen BK203.out 0
      have hfz33_1 := blk_frozen BK203.out 1
      go_wp2_with (first|((with_reducible refine gate_builtin (b:=.append) (xs:=#[.tmp 66, .tmp 68]) rfl ?_);at_builtin;refine Kd.R_append k38 (w0:=w) w.heap.size rfl (.tmp 66) (.tmp 68) 23 38 (.agg #[(.int .i64 0), (.int .i64 0)]) 16 rfl Try.underlying23 info38 rfl (by decide) (by omega) u5 x5_1 (⟨a1_0, a1_1⟩ : S38) [.int .i64 a1_0, .int .i64 a1_1] (fun k_ => (w.heap.size ≤ k_) ∧ k_ ≠ gb203) (fun _ => False) rfl rfl ?aP (fun _ hk => hk.elim) ?aF ?aO ?aB ?aS ?aL ?_;(case aP => exact k38_mkM _ _ _ (⟨a1_0, a1_1⟩ : S38));(case aB => exact (by repeat (first|(with_reducible first|exact HB.out|apply below_alloc|apply pw_below_drewN|apply below_drew1|refine below_set ?_ GE203.out)|exact HB.out)));(case aF => exact (fun k_ hk => ⟨(Nat.le_trans (below_size (by repeat (first|(with_reducible first|exact HB.out|apply below_alloc|apply pw_below_drewN|apply below_drew1|refine below_set ?_ GE203.out)|exact HB.out))) hk), Kd.freshB (g:=gb203) (o:=.cells #[.int .i64 a1_0, .int .i64 a1_1] 38 (0, 0)) (by (with_reducible repeat (first|refine blk_drewN ?_ _|refine blk_drew ?_|refine blk_alloc ?_ _));exact BK203.out) k_ hk⟩));(case aO => exact (by (with_reducible repeat (first|apply Kd.R_alloc|apply Kd.R_drewN|apply Kd.R_drew));exact HO_5.out));(case aS => exact (below_size (by repeat (first|(with_reducible first|exact HB.out|apply below_alloc|apply pw_below_drewN|apply below_drew1|refine below_set ?_ GE203.out)|exact HB.out))));(case aL => have:=LMc32.out;omega);intro v205 w34 ho hb hg hat;rw [← Ny204.out] at ho;have n0_:=Aside0.mk (Kd.V_afterv (ok:=(fun k_ => (P0_ k_ ∨ w.heap.size ≤ k_) ∧ k_ ≠ gb203)) (by (with_reducible repeat (first|apply Kd.V_alloc|apply Kd.V_drewN|apply Kd.V_drew));exact Kd.V_mono HO_0.out (fun _ hk => ⟨⟨hk.1, hk.2.2⟩, hk.2.1⟩)) hg hat);have n1_:=Aside0.mk (blk_grown (g:=gb203) (o:=.cells #[.int .i64 a1_0, .int .i64 a1_1] 38 (0, 0)) (by (with_reducible repeat (first|refine blk_drewN ?_ _|refine blk_drew ?_|refine blk_alloc ?_ _));exact BK203.out) hg (Kd.R_away HO_5.out (fun _ hk => hk.2)));have n2_:=Aside0.mk (hb);have n3_:=Aside0.mk (ho);clear HO_0;clear BK203;clear HB;clear HO_5;have HO_0:=n0_;have BK203:=n1_;have HB:=n2_;have HO206:=n3_;clear n0_ n1_ n2_ n3_;clear ho hb hg hat))
      repeat (go_quiet (first|((with_reducible refine gate_builtin (b:=.append) (xs:=#[.tmp 66, .tmp 68]) rfl ?_);at_builtin;refine Kd.R_append k38 (w0:=w) w.heap.size rfl (.tmp 66) (.tmp 68) 23 38 (.agg #[(.int .i64 0), (.int .i64 0)]) 16 rfl Try.underlying23 info38 rfl (by decide) (by omega) u5 x5_1 (⟨a1_0, a1_1⟩ : S38) [.int .i64 a1_0, .int .i64 a1_1] (fun k_ => (w.heap.size ≤ k_) ∧ k_ ≠ gb203) (fun _ => False) rfl rfl ?aP (fun _ hk => hk.elim) ?aF ?aO ?aB ?aS ?aL ?_;(case aP => exact k38_mkM _ _ _ (⟨a1_0, a1_1⟩ : S38));(case aB => exact (by repeat (first|(with_reducible first|exact HB.out|apply below_alloc|apply pw_below_drewN|apply below_drew1|refine below_set ?_ GE203.out)|exact HB.out)));(case aF => exact (fun k_ hk => ⟨(Nat.le_trans (below_size (by repeat (first|(with_reducible first|exact HB.out|apply below_alloc|apply pw_below_drewN|apply below_drew1|refine below_set ?_ GE203.out)|exact HB.out))) hk), Kd.freshB (g:=gb203) (o:=.cells #[.int .i64 a1_0, .int .i64 a1_1] 38 (0, 0)) (by (with_reducible repeat (first|refine blk_drewN ?_ _|refine blk_drew ?_|refine blk_alloc ?_ _));exact BK203.out) k_ hk⟩));(case aO => exact (by (with_reducible repeat (first|apply Kd.R_alloc|apply Kd.R_drewN|apply Kd.R_drew));exact HO_5.out));(case aS => exact (below_size (by repeat (first|(with_reducible first|exact HB.out|apply below_alloc|apply pw_below_drewN|apply below_drew1|refine below_set ?_ GE203.out)|exact HB.out))));(case aL => have:=LMc32.out;omega);intro v205 w34 ho hb hg hat;rw [← Ny204.out] at ho;have n0_:=Aside0.mk (Kd.V_afterv (ok:=(fun k_ => (P0_ k_ ∨ w.heap.size ≤ k_) ∧ k_ ≠ gb203)) (by (with_reducible repeat (first|apply Kd.V_alloc|apply Kd.V_drewN|apply Kd.V_drew));exact Kd.V_mono HO_0.out (fun _ hk => ⟨⟨hk.1, hk.2.2⟩, hk.2.1⟩)) hg hat);have n1_:=Aside0.mk (blk_grown (g:=gb203) (o:=.cells #[.int .i64 a1_0, .int .i64 a1_1] 38 (0, 0)) (by (with_reducible repeat (first|refine blk_drewN ?_ _|refine blk_drew ?_|refine blk_alloc ?_ _));exact BK203.out) hg (Kd.R_away HO_5.out (fun _ hk => hk.2)));have n2_:=Aside0.mk (hb);have n3_:=Aside0.mk (ho);clear HO_0;clear BK203;clear HB;clear HO_5;have HO_0:=n0_;have BK203:=n1_;have HB:=n2_;have HO206:=n3_;clear n0_ n1_ n2_ n3_;clear ho hb hg hat));try go_wp2_with (first|((with_reducible refine gate_builtin (b:=.append) (xs:=#[.tmp 66, .tmp 68]) rfl ?_);at_builtin;refine Kd.R_append k38 (w0:=w) w.heap.size rfl (.tmp 66) (.tmp 68) 23 38 (.agg #[(.int .i64 0), (.int .i64 0)]) 16 rfl Try.underlying23 info38 rfl (by decide) (by omega) u5 x5_1 (⟨a1_0, a1_1⟩ : S38) [.int .i64 a1_0, .int .i64 a1_1] (fun k_ => (w.heap.size ≤ k_) ∧ k_ ≠ gb203) (fun _ => False) rfl rfl ?aP (fun _ hk => hk.elim) ?aF ?aO ?aB ?aS ?aL ?_;(case aP => exact k38_mkM _ _ _ (⟨a1_0, a1_1⟩ : S38));(case aB => exact (by repeat (first|(with_reducible first|exact HB.out|apply below_alloc|apply pw_below_drewN|apply below_drew1|refine below_set ?_ GE203.out)|exact HB.out)));(case aF => exact (fun k_ hk => ⟨(Nat.le_trans (below_size (by repeat (first|(with_reducible first|exact HB.out|apply below_alloc|apply pw_below_drewN|apply below_drew1|refine below_set ?_ GE203.out)|exact HB.out))) hk), Kd.freshB (g:=gb203) (o:=.cells #[.int .i64 a1_0, .int .i64 a1_1] 38 (0, 0)) (by (with_reducible repeat (first|refine blk_drewN ?_ _|refine blk_drew ?_|refine blk_alloc ?_ _));exact BK203.out) k_ hk⟩));(case aO => exact (by (with_reducible repeat (first|apply Kd.R_alloc|apply Kd.R_drewN|apply Kd.R_drew));exact HO_5.out));(case aS => exact (below_size (by repeat (first|(with_reducible first|exact HB.out|apply below_alloc|apply pw_below_drewN|apply below_drew1|refine below_set ?_ GE203.out)|exact HB.out))));(case aL => have:=LMc32.out;omega);intro v205 w34 ho hb hg hat;rw [← Ny204.out] at ho;have n0_:=Aside0.mk (Kd.V_afterv (ok:=(fun k_ => (P0_ k_ ∨ w.heap.size ≤ k_) ∧ k_ ≠ gb203)) (by (with_reducible repeat (first|apply Kd.V_alloc|apply Kd.V_drewN|apply Kd.V_drew));exact Kd.V_mono HO_0.out (fun _ hk => ⟨⟨hk.1, hk.2.2⟩, hk.2.1⟩)) hg hat);have n1_:=Aside0.mk (blk_grown (g:=gb203) (o:=.cells #[.int .i64 a1_0, .int .i64 a1_1] 38 (0, 0)) (by (with_reducible repeat (first|refine blk_drewN ?_ _|refine blk_drew ?_|refine blk_alloc ?_ _));exact BK203.out) hg (Kd.R_away HO_5.out (fun _ hk => hk.2)));have n2_:=Aside0.mk (hb);have n3_:=Aside0.mk (ho);clear HO_0;clear BK203;clear HB;clear HO_5;have HO_0:=n0_;have BK203:=n1_;have HB:=n2_;have HO206:=n3_;clear n0_ n1_ n2_ n3_;clear ho hb hg hat)))
      go_ret
      exact ⟨_, by first|rfl|(simp [errW_none, errW_some] <;> rfl)|(simp [*, errW_none, errW_some] <;> rfl), Kd.V_mono (Kd.R_V (by (with_reducible repeat (first|apply Kd.R_alloc|apply Kd.R_drewN|apply Kd.R_drew));exact Kd.R_mono HO206.out (fun _ hk => hk.1))) (fun k_ hk => by first|exact ⟨(.inr (hk.1)), hk.2⟩|exact (.inr (hk))), by repeat (first|(with_reducible first|exact HB.out|apply below_alloc|apply pw_below_drewN|apply below_drew1|refine below_set ?_ GE203.out)|exact HB.out)⟩
     ·rw [if_neg c32] at H
      exact absurd H (by simp)

end Go.Proofs.Ytdgjjdpeaohebaa.PMarksPart
