/- Marks: the walk of compare (with all that it lays), and the library's sort of sites by it. Conditions: fewer than 2^62 sites. -/
import Derived.Test.YtdgjjdpeaohebaaGMarksK1
import Derived.Test.YtdgjjdpeaohebaaGMk1
namespace Go.Proofs.Ytdgjjdpeaohebaa.Mk
open Go.RowKit Go.Proofs.YtdgjjdpeaohebaaW.PrintWords Go.Proofs.YtdgjjdpeaohebaaW.PrintLast Go.Proofs.YtdgjjdpeaohebaaW.PrintMore Go.Proofs.Ytdgjjdpeaohebaa.PMarksTake Go.Proofs.Ytdgjjdpeaohebaa.Pure
set_option linter.unusedVariables false
set_option linter.unusedSimpArgs false
/-- Only draws, and new blocks. -/
def GF (w w' : World) : Prop := ∃ q os, w' = Go.Sort.grow (w.drewN q) os
theorem GF.refl (w : World) : GF w w := ⟨0, #[], by rw [Go.Sort.grow_empty]; rfl⟩
theorem GF.drewN {w W : World} (h : GF w W) (n : Nat) : GF w (W.drewN n) := by
 obtain ⟨q, os, rfl⟩ := h
 exact ⟨q + n, os, by unfold Go.Sort.grow World.drewN; simp [Nat.add_assoc]⟩
theorem GF.drew {w W : World} (h : GF w W) : GF w W.drew := h.drewN 1
theorem GF.alloc {w W : World} (h : GF w W) (o : Obj) : GF w (W.alloc o) := by
 obtain ⟨q, os, rfl⟩ := h
 exact ⟨q, os ++ #[o], by rw [Go.Sort.alloc_eq_grow, Go.Sort.grow_grow]⟩
theorem GF.below {w W : World} (h : GF w W) : Below w.heap.size w W := by
 obtain ⟨q, os, rfl⟩ := h
 refine ⟨rfl, rfl, rfl, ?_, fun k hk => ?_⟩
 ·unfold Go.Sort.grow World.drewN
  simp
 ·unfold Go.Sort.grow World.drewN
  dsimp only
  rw [Array.getElem?_append_left hk]
theorem GF.drawn {w W W' : World} (h : GF w W) (hd : Drawn0 W W') : GF w W' := by
 obtain ⟨m, rfl⟩ := hd.out
 exact h.drewN m
instance (x y : SY) : Decidable (siteLt x y) := by unfold siteLt; infer_instance
theorem gen2 {φ P : World → Prop} {w : World} (h : P w) (k : ∀ W, P W → φ W) : φ w := k w h
theorem below_drawnM {w w' : World} (h : Drawn0 w w') : Below w.heap.size w w' := by obtain ⟨m, rfl⟩ := h.out; exact pw_below_drewN (Below.refl _ _) m
/-- How two sites compare. -/
def cfY (x y : SY) : Int := if mrCmp x.f1 y.f1 = 0 then mrCmp x.f0 y.f0 else mrCmp x.f1 y.f1
theorem ltY (x y : SY) : ltOf cfY x y = decide (siteLt x y) := by
 unfold ltOf cfY siteLt mrCmp
 by_cases h1 : x.f1 < y.f1
 ·simp [h1]
 ·by_cases h2 : x.f1 > y.f1
  ·have : ¬ (x.f1 = y.f1) := by omega
   simp [h1, h2, this]
  ·have e : x.f1 = y.f1 := by omega
   by_cases h3 : x.f0 < y.f0
   ·simp [e, h3]
   ·by_cases h4 : x.f0 > y.f0
    ·simp [e, h3, h4]
    ·simp [e, h3, h4]
theorem swoY : Go.Sort.SWO (ltOf cfY) where
 irrefl x := by rw [ltY]; simpa using siteLt_irr x
 trans x y z h1 h2 := by rw [ltY] at *; simp at *; exact siteLt_trans h1 h2
 ntrans x y z h1 h2 := by rw [ltY] at *; simp at *; unfold siteLt at *; omega
abbrev P4 (w0 : World) (g2 g3 : Nat) (a b c d : Value) (w' : World) : Prop := w'.cell? ⟨g2, 0, none⟩ = some a ∧ w'.cell? ⟨g2, 1, none⟩ = some b ∧ w'.cell? ⟨g3, 0, none⟩ = some c ∧ w'.cell? ⟨g3, 1, none⟩ = some d
theorem P4.next {w0 W W' : World} {g2 g3 : Nat} {a b c d : Value} (h : P4 w0 g2 g3 a b c d W) (hb : Below W.heap.size W W') : P4 w0 g2 g3 a b c d W' := ⟨pw_cell_below hb h.1, pw_cell_below hb h.2.1, pw_cell_below hb h.2.2.1, pw_cell_below hb h.2.2.2⟩
theorem blk_newM {w : World} {o : Obj} {g : Nat} (h : g = w.heap.size) : (w.alloc o).heap[g]? = some o := by rw [h]; exact blk_new w o
theorem C_two {W : World} {g : Nat} {a b : Int} (h : W.heap[g]? = some (.cells #[.int .i64 a, .int .i64 b] 3 (0, 0))) : Kd.C (Kd.int .i64) W (some ⟨g, 0, none⟩) [a, b].length [a, b] := by
 refine ⟨rfl, by (show (2 : Nat) ≤ 9223372036854775807); decide, fun _ => ⟨_, rfl, fun j p hj => ?_⟩⟩
 refine ⟨[.int .i64 p], rfl, rfl, fun i u hu => ?_⟩
 rw [add_plain]
 cases i with
 | succ i => simp at hu
 | zero =>
  simp only [List.getElem?_cons_zero, Option.some.injEq] at hu
  subst hu
  rw [blk_cell h]
  have e2 : j * (Kd.int .i64).sz = j := Nat.mul_one j
  simp only [Nat.zero_add, Nat.add_zero, e2]
  rcases j with _ | _ | j
  ·simpa using hj
  ·simpa using hj
  ·simp at hj
set_option maxRecDepth 1000000 in
set_option maxHeartbeats 4000000 in
theorem compare_calls (x y : SY) (w : World) : Calls Try.prog 25 #[.agg #[.int .i64 x.f0, .int .i64 x.f1], .agg #[.int .i64 y.f0, .int .i64 y.f1]] w fun e w' => e = .returned (.int .i64 (cfY x y)) ∧ GF w w' := by
 obtain ⟨ko, hko⟩ := Go.Proofs.YtdgjjdpeaohebaaW.PrintWords.Ev.rounds (mr_or (mrCmp x.f1 y.f1) (mrCmp x.f0 y.f0))
 have KO := Lib.hid hko
 have ecf : (if mrCmp x.f1 y.f1 = 0 then mrCmp x.f0 y.f0 else mrCmp x.f1 y.f1) = cfY x y := rfl
 rw [ecf] at KO
 clear hko ecf
 have C1 := Lib.hid (mr_compare1 x.f1 y.f1)
 have C2 := Lib.hid (mr_compare1 x.f0 y.f0)
 generalize mrCmp x.f1 y.f1 = m1 at KO C1
 generalize mrCmp x.f0 y.f0 = m2 at KO C2
 generalize cfY x y = r at KO ⊢
 go_enter Try.func25, Try.ntmps25
 go_upto_region 1 with fail
 refine gen2 (φ := fun W => Code.wp _ _ _ _ W) (P := fun W => GF w W ∧ P4 w w.heap.size (w.heap.size + 1) (.int .i64 x.f0) (.int .i64 x.f1) (.int .i64 y.f0) (.int .i64 y.f1) W) ⟨((GF.refl w).alloc _).alloc _, by simp, by simp, by simp, by simp⟩ ?_
 rintro V ⟨hg, hp⟩
 have GV := Lib.hid hg
 have PV := Lib.hid hp
 clear hg hp
 refine wp_region_noPanic ?_
 refine wp_region_held_drew (S := fun w' => P4 w w.heap.size (w.heap.size + 1) (.int .i64 x.f0) (.int .i64 x.f1) (.int .i64 y.f0) (.int .i64 y.f1) w') ?hm_r ?hS_r (fun hHeld => ?_)
 case hm_r => kernel_rfl
 case hS_r => exact P4.next PV.out (by with_reducible repeat (first | exact Below.refl _ _ | apply pw_below_drewN | apply Below.drew | apply below_alloc))
 refine wpAnyH_take (i := 0) (oi := ?or0) (v := ?vr0) ?hi_r0 ?k1_r0 ?k2_r0 ?k3_r0 (fun _ _ _ h => h) (Or.inl ⟨?g_r0, ?y_r0⟩) (by assumption) ?r_r0
 case hi_r0 => (simp only [List.getElem?_toArray, List.getElem?_cons_succ, List.getElem?_cons_zero]; rfl)
 case k1_r0 => kernel_rfl
 case k2_r0 => kernel_rfl
 case k3_r0 => kernel_rfl
 case g_r0 => rfl
 case y_r0 => (intro w hSw; (try dsimp only at hSw); first | (go_simp; done) | (go_simp; with_reducible rfl))
 (try simp only [Act.put, List.setIfInBounds_toArray, List.set_cons_zero, List.set_cons_succ])
 refine wpAnyH_take (i := 1) (oi := ?or1) (v := ?vr1) ?hi_r1 ?k1_r1 ?k2_r1 ?k3_r1 (fun _ _ _ h => h) (Or.inl ⟨?g_r1, ?y_r1⟩) (by assumption) ?r_r1
 case hi_r1 => (simp only [List.getElem?_toArray, List.getElem?_cons_succ, List.getElem?_cons_zero]; rfl)
 case k1_r1 => kernel_rfl
 case k2_r1 => kernel_rfl
 case k3_r1 => kernel_rfl
 case g_r1 => rfl
 case y_r1 => (intro w hSw; (try dsimp only at hSw); first | (go_simp; done) | (go_simp; with_reducible rfl))
 (try simp only [Act.put, List.setIfInBounds_toArray, List.set_cons_zero, List.set_cons_succ])
 refine wpAnyH_take (i := 2) (oi := ?or2) (v := ?vr2) ?hi_r2 ?k1_r2 ?k2_r2 ?k3_r2 (fun _ _ _ h => h) (Or.inl ⟨?g_r2, ?y_r2⟩) (by assumption) ?r_r2
 case hi_r2 => (simp only [List.getElem?_toArray, List.getElem?_cons_succ, List.getElem?_cons_zero]; rfl)
 case k1_r2 => kernel_rfl
 case k2_r2 => kernel_rfl
 case k3_r2 => kernel_rfl
 case g_r2 => rfl
 case y_r2 => (intro w hSw; (try dsimp only at hSw); first | (go_simp; done) | (go_simp; with_reducible rfl))
 (try simp only [Act.put, List.setIfInBounds_toArray, List.set_cons_zero, List.set_cons_succ])
 refine wpAnyH_take (i := 3) (oi := ?or3) (v := ?vr3) ?hi_r3 ?k1_r3 ?k2_r3 ?k3_r3 (fun _ _ _ h => h) (Or.inl ⟨?g_r3, ?y_r3⟩) (by assumption) ?r_r3
 case hi_r3 => (simp only [List.getElem?_toArray, List.getElem?_cons_succ, List.getElem?_cons_zero]; rfl)
 case k1_r3 => kernel_rfl
 case k2_r3 => kernel_rfl
 case k3_r3 => kernel_rfl
 case g_r3 => rfl
 case y_r3 => (intro w hSw; (try dsimp only at hSw); first | (go_simp; done) | (go_simp; with_reducible rfl))
 (try simp only [Act.put, List.setIfInBounds_toArray, List.set_cons_zero, List.set_cons_succ])
 refine wpAnyH_take (i := 5) (oi := ?or5) (v := ?vr5) ?hi_r5 ?k1_r5 ?k2_r5 ?k3_r5 (fun _ _ _ h => h) (Or.inl ⟨?g_r5, ?y_r5⟩) (by assumption) ?r_r5
 case hi_r5 => (simp only [List.getElem?_toArray, List.getElem?_cons_succ, List.getElem?_cons_zero]; rfl)
 case k1_r5 => kernel_rfl
 case k2_r5 => kernel_rfl
 case k3_r5 => kernel_rfl
 case g_r5 => rfl
 case y_r5 => (intro w hSw; (try dsimp only at hSw); first | (go_simp; done) | (go_simp; with_reducible rfl))
 (try simp only [Act.put, List.setIfInBounds_toArray, List.set_cons_zero, List.set_cons_succ])
 refine wpAnyH_take (i := 6) (oi := ?or6) (v := ?vr6) ?hi_r6 ?k1_r6 ?k2_r6 ?k3_r6 (fun _ _ _ h => h) (Or.inl ⟨?g_r6, ?y_r6⟩) (by assumption) ?r_r6
 case hi_r6 => (simp only [List.getElem?_toArray, List.getElem?_cons_succ, List.getElem?_cons_zero]; rfl)
 case k1_r6 => kernel_rfl
 case k2_r6 => kernel_rfl
 case k3_r6 => kernel_rfl
 case g_r6 => rfl
 case y_r6 => (intro w hSw; (try dsimp only at hSw); first | (go_simp; done) | (go_simp; with_reducible rfl))
 (try simp only [Act.put, List.setIfInBounds_toArray, List.set_cons_zero, List.set_cons_succ])
 refine wpAnyH_take (i := 7) (oi := ?or7) (v := ?vr7) ?hi_r7 ?k1_r7 ?k2_r7 ?k3_r7 (fun _ _ _ h => h) (Or.inl ⟨?g_r7, ?y_r7⟩) (by assumption) ?r_r7
 case hi_r7 => (simp only [List.getElem?_toArray, List.getElem?_cons_succ, List.getElem?_cons_zero]; rfl)
 case k1_r7 => kernel_rfl
 case k2_r7 => kernel_rfl
 case k3_r7 => kernel_rfl
 case g_r7 => rfl
 case y_r7 => (intro w hSw; (try dsimp only at hSw); first | (go_simp; done) | (go_simp; with_reducible rfl))
 (try simp only [Act.put, List.setIfInBounds_toArray, List.set_cons_zero, List.set_cons_succ])
 refine wpAnyH_take (i := 8) (oi := ?or8) (v := ?vr8) ?hi_r8 ?k1_r8 ?k2_r8 ?k3_r8 (fun _ _ _ h => h) (Or.inl ⟨?g_r8, ?y_r8⟩) (by assumption) ?r_r8
 case hi_r8 => (simp only [List.getElem?_toArray, List.getElem?_cons_succ, List.getElem?_cons_zero]; rfl)
 case k1_r8 => kernel_rfl
 case k2_r8 => kernel_rfl
 case k3_r8 => kernel_rfl
 case g_r8 => rfl
 case y_r8 => (intro w hSw; (try dsimp only at hSw); first | (go_simp; done) | (go_simp; with_reducible rfl))
 (try simp only [Act.put, List.setIfInBounds_toArray, List.set_cons_zero, List.set_cons_succ])
 refine wpAnyH_ready (rs := [4]) ?k1_r4 (by simp) ?r_r4
 case k1_r4 => kernel_rfl
 refine AllReadyH.cons (o := ?or4) ?hi_r4 (fun K hK => ?s_r4) ?m_r4
 case hi_r4 => (simp only [List.getElem?_toArray, List.getElem?_cons_succ, List.getElem?_cons_zero]; rfl)
 case m_r4 => exact AllReadyH.nil
 go_simp
 (go_at_call 42; refine (cmp_Compare_int.calls _ _ m1 _ C1.out).mono ?_; rintro e w1 ⟨rfl, hd⟩)
 have GV2 := Lib.hid (GF.drawn (w := w) (W := _) (by with_reducible repeat (first | exact GV.out | apply GF.drewN | apply GF.drew)) hd)
 replace PV := Lib.hid (P4.next PV.out (by first | exact below_drawnM hd | exact below_step (Below.drew (Below.refl _ _)) (below_drawnM hd)))
 clear hd GV
 refine hK.out _ _ PV.out (fun hHeld => ?_)
 clear hK K
 (try simp only [Act.put, List.setIfInBounds_toArray, List.set_cons_zero, List.set_cons_succ])
 refine wpAnyH_ready (rs := [9]) ?k1_r9 (by simp) ?r_r9
 case k1_r9 => kernel_rfl
 refine AllReadyH.cons (o := ?or9) ?hi_r9 (fun K hK => ?s_r9) ?m_r9
 case hi_r9 => (simp only [List.getElem?_toArray, List.getElem?_cons_succ, List.getElem?_cons_zero]; rfl)
 case m_r9 => exact AllReadyH.nil
 go_simp
 (go_at_call 42; refine (cmp_Compare_int.calls _ _ m2 _ C2.out).mono ?_; rintro e w2 ⟨rfl, hd⟩)
 have GV3 := Lib.hid (GV2.out.drawn hd)
 replace PV := Lib.hid (P4.next PV.out (below_drawnM hd))
 clear hd GV2
 refine hK.out _ _ PV.out (fun hHeld => ?_)
 clear hK K
 (try simp only [Act.put, List.setIfInBounds_toArray, List.set_cons_zero, List.set_cons_succ])
 refine wpAnyH_ready (rs := [10]) ?k1_r10 (by simp) ?r_r10
 case k1_r10 => kernel_rfl
 refine AllReadyH.cons (o := ?or10) ?hi_r10 (fun K hK => ?s_r10) ?m_r10
 case hi_r10 => (simp only [List.getElem?_toArray, List.getElem?_cons_succ, List.getElem?_cons_zero]; rfl)
 case m_r10 => exact AllReadyH.nil
 go_simp
 have HC := Lib.hid (C_two (blk_newM (w := w2) (o := .cells #[.int .i64 m1, .int .i64 m2] 3) rfl))
 have GV4 := Lib.hid (GV3.out.alloc (.cells #[.int .i64 m1, .int .i64 m2] 3))
 replace PV := Lib.hid (P4.next PV.out (below_alloc (Below.refl _ _) (.cells #[.int .i64 m1, .int .i64 m2] 3)))
 refine hK.out _ _ PV.out (fun hHeld => ?_)
 clear hK K GV3
 (try simp only [Act.put, List.setIfInBounds_toArray, List.set_cons_zero, List.set_cons_succ])
 refine wpAnyH_ready (rs := [11]) ?k1_r11 (by simp) ?r_r11
 case k1_r11 => kernel_rfl
 refine AllReadyH.cons (o := ?or11) ?hi_r11 (fun K hK => ?s_r11) ?m_r11
 case hi_r11 => (simp only [List.getElem?_toArray, List.getElem?_cons_succ, List.getElem?_cons_zero]; rfl)
 case m_r11 => exact AllReadyH.nil
 go_simp
 (go_at_call 41; refine (cmp_Or_int.calls ko _ 2 [m1, m2] r _ HC.out (Nat.le_refl 2) KO.out).mono ?_; rintro e w3 ⟨rfl, hd⟩)
 have GV5 := Lib.hid (GV4.out.drawn hd)
 replace PV := Lib.hid (P4.next PV.out (below_drawnM hd))
 clear hd GV4
 refine hK.out _ _ PV.out (fun hHeld => ?_)
 clear hK K
 (try simp only [Act.put, List.setIfInBounds_toArray, List.set_cons_zero, List.set_cons_succ])
 refine wpAnyH_take (i := 12) (oi := ?or12) (v := ?vr12) ?hi_r12 ?k1_r12 ?k2_r12 ?k3_r12 (fun _ _ _ h => h) (Or.inl ⟨?g_r12, ?y_r12⟩) (by assumption) ?r_r12
 case hi_r12 => (simp only [List.getElem?_toArray, List.getElem?_cons_succ, List.getElem?_cons_zero]; rfl)
 case k1_r12 => kernel_rfl
 case k2_r12 => kernel_rfl
 case k3_r12 => kernel_rfl
 case g_r12 => rfl
 case y_r12 => (intro w hSw; (try dsimp only at hSw); first | (go_simp; done) | (go_simp; with_reducible rfl))
 (try simp only [Act.put, List.setIfInBounds_toArray, List.set_cons_zero, List.set_cons_succ])
 refine wpAnyH_done (by kernel_rfl) ?_ _
 refine NoPanic.normal ?_
 go_wp2
 go_ret
 exact ⟨rfl, GV5.out⟩
end Go.Proofs.Ytdgjjdpeaohebaa.Mk
