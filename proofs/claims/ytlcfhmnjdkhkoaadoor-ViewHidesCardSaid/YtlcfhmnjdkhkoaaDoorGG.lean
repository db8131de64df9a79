/- The walk of the law ViewRuns: it answers true. Conditions: the sizes that every row has; Go's two tables of utf8 as they are laid. -/
import Derived.Test.YtlcfhmnjdkhkoaaDoorGF
namespace Go.Proofs.YtlcfhmnjdkhkoaaDoor.Seg
open Go.RowKit Go.Proofs.YtlcfhmnjdkhkoaaDoorPl Go.Maps Go.Proofs.YtlcfhmnjdkhkoaaDoorW.PrintWords Go.Proofs.YtlcfhmnjdkhkoaaDoorW.PrintLast Go.Proofs.YtlcfhmnjdkhkoaaDoorW.PrintMore Go.Proofs.YtlcfhmnjdkhkoaaDoor.Rope Go.Proofs.YtlcfhmnjdkhkoaaDoor.PViewRuns Go.Proofs.YtlcfhmnjdkhkoaaDoor.Pure
set_option linter.unusedVariables false
set_option linter.unusedSimpArgs false
theorem rd_R {rs : List Run} {j : Nat} {r : Run} (h : rs[j]? = some r) : rd_T51 rs (j : Int) = r := by
 unfold rd_T51
 rw [Int.toNat_natCast, List.getD_eq_getElem?_getD, h]
 rfl
theorem same8_l0 (rs : List Run) (hn : rs.length ≤ 1099511627776) : ∀ (e i : Nat), rs.length - i = e → i ≤ rs.length → Ev (fun k => chancelref08_Same.l0 k rs rs (i : Int)) true
 | 0, i, he, hi => ev_next (f := fun _ => some true) (fun k => by simp only [chancelref08_Same.l0]; rw [if_neg (by omega)]) (Ev.now _)
 | e + 1, i, he, hi => by
  obtain ⟨r, hr⟩ : ∃ r, rs[i]? = some r := ⟨_, List.getElem?_eq_getElem (by omega)⟩
  have W1 := wrap_succ (i := i) (by omega)
  refine ev_next (fun k => ?_) (same8_l0 rs hn e (i + 1) (by omega) (by omega))
  simp only [chancelref08_Same.l0, rd_R hr]
  rw [if_pos (by omega), if_pos (by omega), if_pos (by omega), W1]
  simp
theorem same8_ev (rs : List Run) (hn : rs.length ≤ 1099511627776) : Ev (fun k => chancelref08_Same.f k rs rs) true :=
 Ev.congr (fun k => by unfold chancelref08_Same.f; rw [if_pos rfl]; rfl) (same8_l0 rs hn _ 0 rfl (by omega))
/-- What the law keeps: the box of the bools, another box, a sheet. -/
structure VL (w : World) (g4 g5 g9 : Nat) (B : Option Addr) (d : Nat) (os : List Bool) (c5 : Array Value) (t5 : TypeId) (A : Option Addr) (c : Nat) (xss : List (List Value)) (xs : List G) (W : World) : Prop where
 b : Below w.heap.size w W
 h4 : W.heap[g4]? = some (.cells #[.slice B os.length d] 23 (0, 0))
 h5 : W.heap[g5]? = some (.cells c5 t5 (0, 0))
 h9 : W.heap[g9]? = some (.cells #[.bool false, .slice A xss.length c] 27 (0, 0))
 s : Sh W A c xss xs
theorem VL.next {w W W' : World} {g4 g5 g9 : Nat} {B : Option Addr} {d : Nat} {os : List Bool} {c5 : Array Value} {t5 : TypeId} {A : Option Addr} {c : Nat} {xss : List (List Value)} {xs : List G} (h : VL w g4 g5 g9 B d os c5 t5 A c xss xs W) (hb : Below W.heap.size W W') : VL w g4 g5 g9 B d os c5 t5 A c xss xs W' :=
 ⟨below_step h.b hb, blk_below h.h4 hb, blk_below h.h5 hb, blk_below h.h9 hb, h.s.below hb⟩
theorem VL.x4 {w W : World} {g4 g5 g9 : Nat} {B : Option Addr} {d : Nat} {os : List Bool} {c5 : Array Value} {t5 : TypeId} {A : Option Addr} {c : Nat} {xss : List (List Value)} {xs : List G} (h : VL w g4 g5 g9 B d os c5 t5 A c xss xs W) : W.cell? ⟨g4, 0, none⟩ = some (.slice B os.length d) := (blk_cell h.h4 0).trans rfl
abbrev PV8 (g4 g5 g9 : Nat) (v4 v50 v51 v90 v91 : Value) (W : World) : Prop := W.cell? ⟨g4, 0, none⟩ = some v4 ∧ W.cell? ⟨g5, 0, none⟩ = some v50 ∧ W.cell? ⟨g5, 1, none⟩ = some v51 ∧ W.cell? ⟨g9, 0, none⟩ = some v90 ∧ W.cell? ⟨g9, 1, none⟩ = some v91
theorem PV8.of {w W : World} {g4 g5 g9 : Nat} {B : Option Addr} {d : Nat} {os : List Bool} {v50 v51 : Value} {t5 : TypeId} {A : Option Addr} {c : Nat} {xss : List (List Value)} {xs : List G} (h : VL w g4 g5 g9 B d os #[v50, v51] t5 A c xss xs W) : PV8 g4 g5 g9 (.slice B os.length d) v50 v51 (.bool false) (.slice A xss.length c) W :=
 ⟨h.x4, (blk_cell h.h5 0).trans rfl, (blk_cell h.h5 1).trans rfl, (blk_cell h.h9 0).trans rfl, (blk_cell h.h9 1).trans rfl⟩
set_option maxRecDepth 1000000 in
set_option maxHeartbeats 8000000 in
theorem viewRuns_walk (A : Option Addr) (c : Nat) (xs : List G) (B : Option Addr) (d : Nat) (os : List Bool) (i0 i1 : Int) (w : World) (hT : Tabs w) (hr : Kd.C kG w A xs.length xs) (hc : xs.length ≤ c) (ho : Kd.C Kd.bool w B os.length os) (hd : os.length ≤ d) (hn : xs.length ≤ 2932031007402) (hz : ∀ x ∈ xs, x.f2.size ≤ 140737488355328 ∧ x.f3.length ≤ 140737488355328 ∧ x.f4.length ≤ 140737488355328) (hwf : ∀ x ∈ xs, (Lit.int .i64 x.f0).wf = true) (h0 : i0 ≤ 9223372036854775807) (h1 : -9223372036854775808 ≤ i1) :
  Calls Tryd.prog 3 #[.slice A xs.length c, .slice B os.length d, .agg #[.int .i64 i0, .int .i64 i1]] w fun e w' => e = .returned (.bool true) ∧ Below w.heap.size w w' := by
 obtain ⟨bs, hbs, hsm⟩ := smallS_ev xs hn hz
 obtain ⟨k1, hk1⟩ := Go.Proofs.YtlcfhmnjdkhkoaaDoorW.PrintWords.Ev.rounds hbs
 have HT := Lib.hid hT
 have HR := Lib.hid hr
 have HO := Lib.hid ho
 have K1 := Lib.hid hk1
 have SM := Lib.hid hsm
 have WF := Lib.hid hwf
 have I0 := Lib.hid h0
 have I1 := Lib.hid h1
 clear hT hr ho hz hbs hk1 hsm hwf h0 h1
 go_enter Tryd.func3, Tryd.ntmps3
 go_upto_region 1 with fail
 have B00 := Lib.hid (below_alloc (Below.refl w.heap.size w) (.cells #[.slice B os.length d] 23))
 have B01 := Lib.hid (below_alloc B00.out (.cells #[.int .i64 i0, .int .i64 i1] 24))
 have X4 := Lib.hid (blk_alloc (blk_new w (.cells #[.slice B os.length d] 23)) (.cells #[.int .i64 i0, .int .i64 i1] 24))
 have X5 := Lib.hid (blk_new (w.alloc (.cells #[.slice B os.length d] 23)) (.cells #[.int .i64 i0, .int .i64 i1] 24))
 refine gen2 (φ := fun W => Code.wp _ _ _ _ W) (P := fun W => Below w.heap.size w W ∧ W.heap[w.heap.size]? = some (.cells #[.slice B os.length d] 23 (0, 0)) ∧ W.heap[w.heap.size + 1]? = some (.cells #[.int .i64 i0, .int .i64 i1] 24 (0, 0))) ⟨B01.out, X4.out, by simpa using X5.out⟩ ?_
 clear B00 B01 X4 X5
 rintro W0 ⟨hb0, h40, h50⟩
 have B0 := Lib.hid hb0
 have X4 := Lib.hid h40
 have X5 := Lib.hid h50
 clear hb0 h40 h50
 go_wp2_with fail
 have BS := Lib.hid (below_alloc (Below.refl W0.heap.size W0) (.cells #[.int .i64 1, .int .i64 0, .string ⟨#[97, 98]⟩, .slice none 0 0, .slice none 0 0] 33))
 (go_at_call 6; refine (shLoad_good false _ 1 [tab] _ (HT.out.below (below_step B0.out BS.out)) (C_oneG (blk_newS rfl)) tabs_sz (by decide) tabs_wf tabs_ok).mono ?_; rintro e w1 ⟨A1, c1, xss1, rfl, hs1, hb1⟩)
 have S1 := Lib.hid hs1
 have L1 := Lib.hid hs1.len
 have B1 := Lib.hid (below_step BS.out hb1)
 clear hs1 hb1 BS
 go_upto_region 2 with (first | ((with_reducible refine gate_dst (N := 7) rfl ?_); refine box_event ?hg (N := 7) ?hd (cs := #[.bool false, .slice none 0 0]) (t := 27) ?hr ?_; (case hd => rfl); (case hg => rfl); (case hr => first | (go_simp; done) | (go_simp; rfl)); intro gA hgA wA hxA hbA; have GX := Lib.hid (show TB 27 w1 gA #[.bool false, .slice none 0 0] wA from ⟨hbA, by rw [hgA]; exact Nat.le_refl _, hxA⟩); have q0 := (blk_cell hxA 0).trans rfl; have q1 := (blk_cell hxA 1).trans rfl; have z0 := blk_frozen hxA 0; have z1 := blk_frozen hxA 1; clear hgA hxA hbA))
 refine gen2 (φ := fun W => Code.wp _ _ _ _ W) (P := fun W => TB 27 w1 gA #[.bool false, .slice A1 xss1.length c1] W) ((GX.out.set 0 (.bool false)).set 1 (.slice A1 xss1.length c1)) ?_
 clear q0 q1 z0 z1 GX
 rintro V hV
 have B2 := Lib.hid (below_step B1.out hV.b)
 have S2 := Lib.hid (S1.out.below hV.b)
 have y0 := (blk_cell hV.hx 0).trans rfl
 have y1 := (blk_cell hV.hx 1).trans rfl
 clear hV S1 B1
 go_wp2_with fail
 (go_at_call 7; refine (runs_calls false A1 c1 xss1 [tab] 8 #[] (fun _ => true) 1 1 _ eg1_ViewRuns (pconst_ViewRuns _) S2.out (by rw [← L1.out]; decide) tabs_sz (fun x hx => tabs_ok.1 x hx) (by decide) (by decide)).mono ?_; rintro e w2 ⟨v2, rfl, hr2, hb2⟩)
 have er : runsG (fun _ => true) (max 1 0) (min 1 200) 0 [tab] = [⟨1, 0, true, ⟨#[98]⟩⟩] := tab_runs
 rw [er] at hr2
 obtain ⟨A2, c2, e2⟩ := Kd.R_slice hr2
 have e2' : v2 = .slice A2 1 c2 := e2
 subst e2'
 have B3 := Lib.hid (below_step B2.out hb2)
 clear er hr2 hb2 e2 y0 y1 S2 B2 L1
 go_wp2_with fail
 (go_at_call 9; refine (chancellaw06_Small.calls k1 A c xs bs _ (Kd.C_below HR.out (below_step B0.out B3.out)) hc K1.out).mono ?_; rintro e w3 ⟨rfl, hb3⟩)
 have B4 := Lib.hid (below_step B3.out hb3)
 clear hb3 B3 K1
 cases bs with
 | false =>
  go_wp2
  go_ret
  exact ⟨rfl, below_step B0.out B4.out⟩
 | true =>
  obtain ⟨hl40, hz2⟩ := SM.out rfl
  have HZ := Lib.hid hz2
  clear hz2 SM
  go_wp2_with fail
  (go_at_call 10; refine (right6_calls A c xs _ (Kd.C_below HR.out (below_step B0.out B4.out)) hc HZ.out (by omega)).mono ?_; rintro e w4 ⟨b9, rfl, hi9, hb4⟩)
  have B5 := Lib.hid (below_step B4.out hb4)
  clear hb4 B4
  cases b9 with
  | false =>
   clear hi9
   go_wp2
   go_ret
   exact ⟨rfl, below_step B0.out B5.out⟩
  | true =>
   have OK := Lib.hid (hi9.1 rfl)
   clear hi9
   have x4 := (blk_cell (blk_below X4.out B5.out) 0).trans rfl
   by_cases h20 : 20 < os.length
   ·have d20 : decide ((20 : Int) < (os.length : Int)) = true := by simp; omega
    clear h20
    go_wp2
    go_ret
    exact ⟨rfl, below_step B0.out B5.out⟩
   ·have d20 : decide ((20 : Int) < (os.length : Int)) = false := by simp; omega
    go_wp2_with fail
    (go_at_call 6; refine (shLoad_good false A c xs _ (HT.out.below (below_step B0.out B5.out)) (Kd.C_below HR.out (below_step B0.out B5.out)) HZ.out (by omega) WF.out OK.out).mono ?_; rintro e w8 ⟨A8, c8, xss8, rfl, hs8, hb8⟩)
    have S8 := Lib.hid hs8
    have L8 := Lib.hid hs8.len
    have B8 := Lib.hid (below_step B5.out hb8)
    clear hs8 hb8 B5 x4
    go_upto_region 7 with (first | ((with_reducible refine gate_dst (N := 9) rfl ?_); refine box_event ?hg (N := 9) ?hd (cs := #[.bool false, .slice none 0 0]) (t := 27) ?hr ?_; (case hd => rfl); (case hg => rfl); (case hr => first | (go_simp; done) | (go_simp; rfl)); intro gB hgB wB hxB hbB; have GX := Lib.hid (show TB 27 w8 gB #[.bool false, .slice none 0 0] wB from ⟨hbB, by rw [hgB]; exact Nat.le_refl _, hxB⟩); have q0 := (blk_cell hxB 0).trans rfl; have q1 := (blk_cell hxB 1).trans rfl; have z0 := blk_frozen hxB 0; have z1 := blk_frozen hxB 1; clear hgB hxB hbB))
    have GY := Lib.hid ((GX.out.set 0 (.bool false)).set 1 (.slice A8 xss8.length c8))
    refine gen2 (φ := fun W => Code.wp _ _ _ _ W) (P := fun W => VL w w.heap.size (w.heap.size + 1) gB B d os #[.int .i64 i0, .int .i64 i1] 24 A8 c8 xss8 xs W) ⟨below_step B0.out (below_step B8.out GY.out.b), blk_below X4.out (below_step B8.out GY.out.b), blk_below X5.out (below_step B8.out GY.out.b), GY.out.hx, S8.out.below GY.out.b⟩ ?_
    clear q0 q1 z0 z1 GX GY S8 B8 X4 X5 B0
    rintro U hU
    have LU := Lib.hid hU
    clear hU
    have HL : xss8.length ≤ 1000 := by rw [← L8.out]; omega
    have HLO : os.length ≤ 1099511627776 := by omega
    have HLX : xs.length ≤ 1000 := by omega
    go_upto_region 8 with fail
    refine wp_region_noPanic ?_
    refine wp_region_held_drew (S := fun w' => PV8 w.heap.size (w.heap.size + 1) gB (.slice B os.length d) (.int .i64 i0) (.int .i64 i1) (.bool false) (.slice A8 xss8.length c8) w') ?hm_r ?hS_r (fun hHeld => ?_)
    case hm_r => kernel_rfl
    case hS_r => exact PV8.of (LU.out.next (by with_reducible repeat (first | exact Below.refl _ _ | assumption | apply pw_below_drewN | apply Below.drew | apply below_alloc)))
    refine wpAnyH_take (i := 0) (oi := ?or0) (v := ?vr0) ?hi_r0 ?k1_r0 ?k2_r0 ?k3_r0 (fun _ _ _ h => h) (Or.inl ⟨?g_r0, ?y_r0⟩) (by assumption) ?r_r0
    case hi_r0 => (simp only [List.getElem?_toArray, List.getElem?_cons_succ, List.getElem?_cons_zero]; rfl)
    case k1_r0 => kernel_rfl
    case k2_r0 => kernel_rfl
    case k3_r0 => kernel_rfl
    case g_r0 => rfl
    case y_r0 => (intro w hSw; (try dsimp only at hSw); first | (go_simp; done) | (go_simp; with_reducible rfl))
    (try simp only [Act.put, List.setIfInBounds_toArray, List.set_cons_zero, List.set_cons_succ])
    refine wpAnyH_take (i := 1) (oi := ?or1) (v := ?vr1) ?hi_r1 ?k1_r1 ?k2_r1 ?k3_r1 (fun _ _ _ h => h) (Or.inl ⟨?g_r1, ?y_r1⟩) (by assumption) ?r_r1
    case hi_r1 => (simp only [List.getElem?_toArray, List.getElem?_cons_succ, List.getElem?_cons_zero]; rfl)
    case k1_r1 => kernel_rfl
    case k2_r1 => kernel_rfl
    case k3_r1 => kernel_rfl
    case g_r1 => rfl
    case y_r1 => (intro w hSw; (try dsimp only at hSw); first | (go_simp; done) | (go_simp; with_reducible rfl))
    (try simp only [Act.put, List.setIfInBounds_toArray, List.set_cons_zero, List.set_cons_succ])
    refine wpAnyH_take (i := 3) (oi := ?or3) (v := ?vr3) ?hi_r3 ?k1_r3 ?k2_r3 ?k3_r3 (fun _ _ _ h => h) (Or.inl ⟨?g_r3, ?y_r3⟩) (by assumption) ?r_r3
    case hi_r3 => (simp only [List.getElem?_toArray, List.getElem?_cons_succ, List.getElem?_cons_zero]; rfl)
    case k1_r3 => kernel_rfl
    case k2_r3 => kernel_rfl
    case k3_r3 => kernel_rfl
    case g_r3 => rfl
    case y_r3 => (intro w hSw; (try dsimp only at hSw); first | (go_simp; done) | (go_simp; with_reducible rfl))
    (try simp only [Act.put, List.setIfInBounds_toArray, List.set_cons_zero, List.set_cons_succ])
    refine wpAnyH_take (i := 4) (oi := ?or4) (v := ?vr4) ?hi_r4 ?k1_r4 ?k2_r4 ?k3_r4 (fun _ _ _ h => h) (Or.inl ⟨?g_r4, ?y_r4⟩) (by assumption) ?r_r4
    case hi_r4 => (simp only [List.getElem?_toArray, List.getElem?_cons_succ, List.getElem?_cons_zero]; rfl)
    case k1_r4 => kernel_rfl
    case k2_r4 => kernel_rfl
    case k3_r4 => kernel_rfl
    case g_r4 => rfl
    case y_r4 => (intro w hSw; (try dsimp only at hSw); first | (go_simp; done) | (go_simp; with_reducible rfl))
    (try simp only [Act.put, List.setIfInBounds_toArray, List.set_cons_zero, List.set_cons_succ])
    refine wpAnyH_ready (rs := [2]) ?k1_r2 (by simp) ?r_r2
    case k1_r2 => kernel_rfl
    refine AllReadyH.cons (o := ?or2) ?hi_r2 (fun K hK => ?s_r2) ?m_r2
    case hi_r2 => (simp only [List.getElem?_toArray, List.getElem?_cons_succ, List.getElem?_cons_zero]; rfl)
    case m_r2 => exact AllReadyH.nil
    go_simp
    (go_at_call 12; refine (look_calls false A8 c8 xss8 xs 11 #[.pointer (some ⟨w.heap.size, 0, none⟩)] (qO os) _ eg2_ViewRuns (popen_ViewRuns (LU.out.next (by with_reducible repeat (first | exact Below.refl _ _ | assumption | apply pw_below_drewN | apply Below.drew | apply below_alloc))).x4 (Kd.C_below HO.out (LU.out.next (by with_reducible repeat (first | exact Below.refl _ _ | assumption | apply pw_below_drewN | apply Below.drew | apply below_alloc))).b)) (LU.out.next (by with_reducible repeat (first | exact Below.refl _ _ | assumption | apply pw_below_drewN | apply Below.drew | apply below_alloc))).s (by omega) HZ.out).mono ?_; rintro e wp ⟨vp, rfl, hrp, hbX⟩)
    have LC := Lib.hid (LU.out.next (by first | (with_reducible exact hbX) | exact below_step (Below.drew (Below.refl _ _)) hbX))
    obtain ⟨AP, cP, eP, hcP, hCP⟩ := Kd.R_reads hrp
    subst eP
    have CP := Lib.hid hCP
    clear hrp hCP hbX
    (try go_wp2_with fail)
    refine hK.out _ _ (PV8.of LC.out) (fun hHeld => ?_)
    clear hK K
    (try simp only [Act.put, List.setIfInBounds_toArray, List.set_cons_zero, List.set_cons_succ])
    refine wpAnyH_ready (rs := [5]) ?k1_r5 (by simp) ?r_r5
    case k1_r5 => kernel_rfl
    refine AllReadyH.cons (o := ?or5) ?hi_r5 (fun K hK => ?s_r5) ?m_r5
    case hi_r5 => (simp only [List.getElem?_toArray, List.getElem?_cons_succ, List.getElem?_cons_zero]; rfl)
    case m_r5 => exact AllReadyH.nil
    go_simp
    (go_at_call 13; refine (look8_calls A c xs B d os _ (Kd.C_below HR.out LC.out.b) hc (Kd.C_below HO.out LC.out.b) hd HLX HLO HZ.out OK.out.1).mono ?_; rintro e wq ⟨vq, rfl, hrq, hbq⟩)
    replace LC := Lib.hid (LC.out.next hbq)
    replace CP := Lib.hid (Kd.C_below CP.out hbq)
    obtain ⟨AQ, cQ, eQ, hcQ, hCQ⟩ := Kd.R_reads hrq
    subst eQ
    have CQ := Lib.hid hCQ
    clear hrq hCQ hbq
    (try go_wp2_with fail)
    refine hK.out _ _ (PV8.of LC.out) (fun hHeld => ?_)
    clear hK K
    (try simp only [Act.put, List.setIfInBounds_toArray, List.set_cons_zero, List.set_cons_succ])
    refine wpAnyH_take (i := 6) (oi := ?or6) (v := ?vr6) ?hi_r6 ?k1_r6 ?k2_r6 ?k3_r6 (fun _ _ _ h => h) (Or.inl ⟨?g_r6, ?y_r6⟩) (by assumption) ?r_r6
    case hi_r6 => (simp only [List.getElem?_toArray, List.getElem?_cons_succ, List.getElem?_cons_zero]; rfl)
    case k1_r6 => kernel_rfl
    case k2_r6 => kernel_rfl
    case k3_r6 => kernel_rfl
    case g_r6 => rfl
    case y_r6 => (intro w hSw; (try dsimp only at hSw); first | (go_simp; done) | (go_simp; with_reducible rfl))
    (try simp only [Act.put, List.setIfInBounds_toArray, List.set_cons_zero, List.set_cons_succ])
    refine wpAnyH_take (i := 7) (oi := ?or7) (v := ?vr7) ?hi_r7 ?k1_r7 ?k2_r7 ?k3_r7 (fun _ _ _ h => h) (Or.inl ⟨?g_r7, ?y_r7⟩) (by assumption) ?r_r7
    case hi_r7 => (simp only [List.getElem?_toArray, List.getElem?_cons_succ, List.getElem?_cons_zero]; rfl)
    case k1_r7 => kernel_rfl
    case k2_r7 => kernel_rfl
    case k3_r7 => kernel_rfl
    case g_r7 => rfl
    case y_r7 => (intro w hSw; (try dsimp only at hSw); first | (go_simp; done) | (go_simp; with_reducible rfl))
    (try simp only [Act.put, List.setIfInBounds_toArray, List.set_cons_zero, List.set_cons_succ])
    refine wpAnyH_done (by kernel_rfl) ?_ _
    refine NoPanic.normal ?_
    have LP : (xs.map (pieceG (qO os))).length = xs.length := by rw [List.length_map]
    rw [LP] at CP CQ
    have HCP := Lib.hid CP.out
    have HCQ := Lib.hid CQ.out
    clear CP CQ LP hcP hcQ hHeld
    go_wp2
    go_loopw [57] (fun s57 wr => ∃ kk : Nat, kk ≤ xs.length ∧ s57 = .int .i64 (kk : Int) ∧ Hid (Below wq.heap.size wq wr)) (fun s57 _ => xs.length - cntV s57)
    case atStart => exact ⟨0, Nat.zero_le _, rfl, Lib.hid (Below.refl _ _)⟩
    case round =>
     obtain ⟨kk, hkk, rfl, BW⟩ := hrel
     by_cases hlt : kk < xs.length
     ·have d1 : decide ((kk : Int) < (xs.length : Int)) = true := by simp; omega
      have b1 : (0 : Int) ≤ (kk : Int) := by omega
      have b2 : (kk : Int) < (xs.length : Int) := by omega
      obtain ⟨P, hP⟩ : ∃ P, (xs.map (pieceG (qO os)))[kk]? = some P := ⟨_, List.getElem?_eq_getElem (by rw [List.length_map]; exact hlt)⟩
      obtain ⟨ad1, e1, p0, p1, p2, p3⟩ := at_P (Kd.C_below HCP.out BW.out) hP hlt
      subst e1
      obtain ⟨ad2, e2, s0, s1, s2, s3⟩ := at_P (Kd.C_below HCQ.out BW.out) hP hlt
      subst e2
      clear hP
      go_upto_region 14 with (fail)
      go_quiet (fail)
      refine gen2 (φ := fun W => Exit.then _ _ Exit.normal _ W) (P := fun W => Below wr.heap.size wr W) (pw_below_drewN (Below.refl _ _) _) ?_
      rintro W9 hb9
      have B9 := Lib.hid (below_step BW.out hb9)
      clear hb9 BW p0 p1 p2 p3 s0 s1 s2 s3
      go_wp2
      go_roundw
      case rel => exact ⟨kk + 1, by omega, by go_num, B9⟩
      case measure =>
       simp only [cntV]
       omega
     ·have d1 : decide ((kk : Int) < (xs.length : Int)) = false := by simp; omega
      have LD := Lib.hid (LC.out.next BW.out)
      clear BW LC HCP HCQ
      obtain ⟨rs, hrs⟩ : ∃ rs, rs = runsG (qO os) (max i0 0) (min i1 200) 0 xs := ⟨_, rfl⟩
      have hrl : rs.length ≤ 1099511627776 := by rw [hrs]; have := runsG_len (qO os) (max i0 0) (min i1 200) xs 0; omega
      obtain ⟨ks, hks⟩ := Go.Proofs.YtlcfhmnjdkhkoaaDoorW.PrintWords.Ev.rounds (same8_ev rs hrl)
      have KS := Lib.hid hks
      have RS := Lib.hid hrs
      clear hks hrs hrl
      go_upto_region 17 with (fail)
      refine wp_region_noPanic ?_
      refine wp_region_held_drew (S := fun w' => PV8 w.heap.size (w.heap.size + 1) gB (.slice B os.length d) (.int .i64 i0) (.int .i64 i1) (.bool false) (.slice A8 xss8.length c8) w') ?hm_z ?hS_z (fun hHeld => ?_)
      case hm_z => kernel_rfl
      case hS_z => exact PV8.of (LD.out.next (by with_reducible repeat (first | exact Below.refl _ _ | assumption | apply pw_below_drewN | apply Below.drew | apply below_alloc)))
      refine wpAnyH_take (i := 0) (oi := ?oz0) (v := ?vz0) ?hi_z0 ?k1_z0 ?k2_z0 ?k3_z0 (fun _ _ _ h => h) (Or.inl ⟨?g_z0, ?y_z0⟩) (by assumption) ?r_z0
      case hi_z0 => (simp only [List.getElem?_toArray, List.getElem?_cons_succ, List.getElem?_cons_zero]; rfl)
      case k1_z0 => kernel_rfl
      case k2_z0 => kernel_rfl
      case k3_z0 => kernel_rfl
      case g_z0 => rfl
      case y_z0 => (intro w hSw; (try dsimp only at hSw); first | (go_simp; done) | (go_simp; with_reducible rfl))
      (try simp only [Act.put, List.setIfInBounds_toArray, List.set_cons_zero, List.set_cons_succ])
      refine wpAnyH_take (i := 1) (oi := ?oz1) (v := ?vz1) ?hi_z1 ?k1_z1 ?k2_z1 ?k3_z1 (fun _ _ _ h => h) (Or.inl ⟨?g_z1, ?y_z1⟩) (by assumption) ?r_z1
      case hi_z1 => (simp only [List.getElem?_toArray, List.getElem?_cons_succ, List.getElem?_cons_zero]; rfl)
      case k1_z1 => kernel_rfl
      case k2_z1 => kernel_rfl
      case k3_z1 => kernel_rfl
      case g_z1 => rfl
      case y_z1 => (intro w hSw; (try dsimp only at hSw); first | (go_simp; done) | (go_simp; with_reducible rfl))
      (try simp only [Act.put, List.setIfInBounds_toArray, List.set_cons_zero, List.set_cons_succ])
      refine wpAnyH_take (i := 2) (oi := ?oz2) (v := ?vz2) ?hi_z2 ?k1_z2 ?k2_z2 ?k3_z2 (fun _ _ _ h => h) (Or.inl ⟨?g_z2, ?y_z2⟩) (by assumption) ?r_z2
      case hi_z2 => (simp only [List.getElem?_toArray, List.getElem?_cons_succ, List.getElem?_cons_zero]; rfl)
      case k1_z2 => kernel_rfl
      case k2_z2 => kernel_rfl
      case k3_z2 => kernel_rfl
      case g_z2 => rfl
      case y_z2 => (intro w hSw; (try dsimp only at hSw); first | (go_simp; done) | (go_simp; with_reducible rfl))
      (try simp only [Act.put, List.setIfInBounds_toArray, List.set_cons_zero, List.set_cons_succ])
      refine wpAnyH_take (i := 3) (oi := ?oz3) (v := ?vz3) ?hi_z3 ?k1_z3 ?k2_z3 ?k3_z3 (fun _ _ _ h => h) (Or.inl ⟨?g_z3, ?y_z3⟩) (by assumption) ?r_z3
      case hi_z3 => (simp only [List.getElem?_toArray, List.getElem?_cons_succ, List.getElem?_cons_zero]; rfl)
      case k1_z3 => kernel_rfl
      case k2_z3 => kernel_rfl
      case k3_z3 => kernel_rfl
      case g_z3 => rfl
      case y_z3 => (intro w hSw; (try dsimp only at hSw); first | (go_simp; done) | (go_simp; with_reducible rfl))
      (try simp only [Act.put, List.setIfInBounds_toArray, List.set_cons_zero, List.set_cons_succ])
      refine wpAnyH_take (i := 4) (oi := ?oz4) (v := ?vz4) ?hi_z4 ?k1_z4 ?k2_z4 ?k3_z4 (fun _ _ _ h => h) (Or.inl ⟨?g_z4, ?y_z4⟩) (by assumption) ?r_z4
      case hi_z4 => (simp only [List.getElem?_toArray, List.getElem?_cons_succ, List.getElem?_cons_zero]; rfl)
      case k1_z4 => kernel_rfl
      case k2_z4 => kernel_rfl
      case k3_z4 => kernel_rfl
      case g_z4 => rfl
      case y_z4 => (intro w hSw; (try dsimp only at hSw); first | (go_simp; done) | (go_simp; with_reducible rfl))
      (try simp only [Act.put, List.setIfInBounds_toArray, List.set_cons_zero, List.set_cons_succ])
      refine wpAnyH_take (i := 5) (oi := ?oz5) (v := ?vz5) ?hi_z5 ?k1_z5 ?k2_z5 ?k3_z5 (fun _ _ _ h => h) (Or.inl ⟨?g_z5, ?y_z5⟩) (by assumption) ?r_z5
      case hi_z5 => (simp only [List.getElem?_toArray, List.getElem?_cons_succ, List.getElem?_cons_zero]; rfl)
      case k1_z5 => kernel_rfl
      case k2_z5 => kernel_rfl
      case k3_z5 => kernel_rfl
      case g_z5 => rfl
      case y_z5 => (intro w hSw; (try dsimp only at hSw); first | (go_simp; done) | (go_simp; with_reducible rfl))
      (try simp only [Act.put, List.setIfInBounds_toArray, List.set_cons_zero, List.set_cons_succ])
      refine wpAnyH_take (i := 7) (oi := ?oz7) (v := ?vz7) ?hi_z7 ?k1_z7 ?k2_z7 ?k3_z7 (fun _ _ _ h => h) (Or.inl ⟨?g_z7, ?y_z7⟩) (by assumption) ?r_z7
      case hi_z7 => (simp only [List.getElem?_toArray, List.getElem?_cons_succ, List.getElem?_cons_zero]; rfl)
      case k1_z7 => kernel_rfl
      case k2_z7 => kernel_rfl
      case k3_z7 => kernel_rfl
      case g_z7 => rfl
      case y_z7 => (intro w hSw; (try dsimp only at hSw); first | (go_simp; done) | (go_simp; with_reducible rfl))
      (try simp only [Act.put, List.setIfInBounds_toArray, List.set_cons_zero, List.set_cons_succ])
      refine wpAnyH_take (i := 8) (oi := ?oz8) (v := ?vz8) ?hi_z8 ?k1_z8 ?k2_z8 ?k3_z8 (fun _ _ _ h => h) (Or.inl ⟨?g_z8, ?y_z8⟩) (by assumption) ?r_z8
      case hi_z8 => (simp only [List.getElem?_toArray, List.getElem?_cons_succ, List.getElem?_cons_zero]; rfl)
      case k1_z8 => kernel_rfl
      case k2_z8 => kernel_rfl
      case k3_z8 => kernel_rfl
      case g_z8 => rfl
      case y_z8 => (intro w hSw; (try dsimp only at hSw); first | (go_simp; done) | (go_simp; with_reducible rfl))
      (try simp only [Act.put, List.setIfInBounds_toArray, List.set_cons_zero, List.set_cons_succ])
      refine wpAnyH_take (i := 9) (oi := ?oz9) (v := ?vz9) ?hi_z9 ?k1_z9 ?k2_z9 ?k3_z9 (fun _ _ _ h => h) (Or.inl ⟨?g_z9, ?y_z9⟩) (by assumption) ?r_z9
      case hi_z9 => (simp only [List.getElem?_toArray, List.getElem?_cons_succ, List.getElem?_cons_zero]; rfl)
      case k1_z9 => kernel_rfl
      case k2_z9 => kernel_rfl
      case k3_z9 => kernel_rfl
      case g_z9 => rfl
      case y_z9 => (intro w hSw; (try dsimp only at hSw); first | (go_simp; done) | (go_simp; with_reducible rfl))
      (try simp only [Act.put, List.setIfInBounds_toArray, List.set_cons_zero, List.set_cons_succ])
      refine wpAnyH_take (i := 10) (oi := ?oz10) (v := ?vz10) ?hi_z10 ?k1_z10 ?k2_z10 ?k3_z10 (fun _ _ _ h => h) (Or.inl ⟨?g_z10, ?y_z10⟩) (by assumption) ?r_z10
      case hi_z10 => (simp only [List.getElem?_toArray, List.getElem?_cons_succ, List.getElem?_cons_zero]; rfl)
      case k1_z10 => kernel_rfl
      case k2_z10 => kernel_rfl
      case k3_z10 => kernel_rfl
      case g_z10 => rfl
      case y_z10 => (intro w hSw; (try dsimp only at hSw); first | (go_simp; done) | (go_simp; with_reducible rfl))
      (try simp only [Act.put, List.setIfInBounds_toArray, List.set_cons_zero, List.set_cons_succ])
      refine wpAnyH_take (i := 11) (oi := ?oz11) (v := ?vz11) ?hi_z11 ?k1_z11 ?k2_z11 ?k3_z11 (fun _ _ _ h => h) (Or.inl ⟨?g_z11, ?y_z11⟩) (by assumption) ?r_z11
      case hi_z11 => (simp only [List.getElem?_toArray, List.getElem?_cons_succ, List.getElem?_cons_zero]; rfl)
      case k1_z11 => kernel_rfl
      case k2_z11 => kernel_rfl
      case k3_z11 => kernel_rfl
      case g_z11 => rfl
      case y_z11 => (intro w hSw; (try dsimp only at hSw); first | (go_simp; done) | (go_simp; with_reducible rfl))
      (try simp only [Act.put, List.setIfInBounds_toArray, List.set_cons_zero, List.set_cons_succ])
      refine wpAnyH_take (i := 12) (oi := ?oz12) (v := ?vz12) ?hi_z12 ?k1_z12 ?k2_z12 ?k3_z12 (fun _ _ _ h => h) (Or.inl ⟨?g_z12, ?y_z12⟩) (by assumption) ?r_z12
      case hi_z12 => (simp only [List.getElem?_toArray, List.getElem?_cons_succ, List.getElem?_cons_zero]; rfl)
      case k1_z12 => kernel_rfl
      case k2_z12 => kernel_rfl
      case k3_z12 => kernel_rfl
      case g_z12 => rfl
      case y_z12 => (intro w hSw; (try dsimp only at hSw); first | (go_simp; done) | (go_simp; with_reducible rfl))
      (try simp only [Act.put, List.setIfInBounds_toArray, List.set_cons_zero, List.set_cons_succ])
      refine wpAnyH_ready (rs := [6]) ?k1_z6 (by simp) ?r_z6
      case k1_z6 => kernel_rfl
      refine AllReadyH.cons (o := ?oz6) ?hi_z6 (fun K hK => ?s_z6) ?m_z6
      case hi_z6 => (simp only [List.getElem?_toArray, List.getElem?_cons_succ, List.getElem?_cons_zero]; rfl)
      case m_z6 => exact AllReadyH.nil
      go_simp
      (go_at_call 7; refine (runs_calls false A8 c8 xss8 xs 11 #[.pointer (some ⟨w.heap.size, 0, none⟩)] (qO os) i0 i1 _ eg2_ViewRuns (popen_ViewRuns (LD.out.next (by with_reducible repeat (first | exact Below.refl _ _ | assumption | apply pw_below_drewN | apply Below.drew | apply below_alloc))).x4 (Kd.C_below HO.out (LD.out.next (by with_reducible repeat (first | exact Below.refl _ _ | assumption | apply pw_below_drewN | apply Below.drew | apply below_alloc))).b)) (LD.out.next (by with_reducible repeat (first | exact Below.refl _ _ | assumption | apply pw_below_drewN | apply Below.drew | apply below_alloc))).s HL HZ.out OK.out.1 I0.out I1.out).mono ?_; rintro e wp ⟨vp, rfl, hrp, hbX⟩)
      have LC := Lib.hid (LD.out.next (by first | (with_reducible exact hbX) | exact below_step (Below.drew (Below.refl _ _)) hbX))
      rw [← RS.out] at hrp
      obtain ⟨AP, cP, eP, hcP, hCP⟩ := Kd.R_reads hrp
      subst eP
      have CP := Lib.hid hCP
      clear hrp hCP hbX
      (try go_wp2_with fail)
      refine hK.out _ _ (PV8.of LC.out) (fun hHeld => ?_)
      clear hK K
      (try simp only [Act.put, List.setIfInBounds_toArray, List.set_cons_zero, List.set_cons_succ])
      refine wpAnyH_ready (rs := [13]) ?k1_z13 (by simp) ?r_z13
      case k1_z13 => kernel_rfl
      refine AllReadyH.cons (o := ?oz13) ?hi_z13 (fun K hK => ?s_z13) ?m_z13
      case hi_z13 => (simp only [List.getElem?_toArray, List.getElem?_cons_succ, List.getElem?_cons_zero]; rfl)
      case m_z13 => exact AllReadyH.nil
      go_simp
      (go_at_call 15; refine (runs8_calls A c xs B d os i0 i1 _ (Kd.C_below HR.out LC.out.b) hc (Kd.C_below HO.out LC.out.b) hd HLX HLO HZ.out OK.out.1 I0.out I1.out).mono ?_; rintro e wq ⟨vq, rfl, hrq, hbq⟩)
      replace LC := Lib.hid (LC.out.next hbq)
      replace CP := Lib.hid (Kd.C_below CP.out hbq)
      rw [← RS.out] at hrq
      obtain ⟨AQ, cQ, eQ, hcQ, hCQ⟩ := Kd.R_reads hrq
      subst eQ
      have CQ := Lib.hid hCQ
      clear hrq hCQ hbq
      (try go_wp2_with fail)
      refine hK.out _ _ (PV8.of LC.out) (fun hHeld => ?_)
      clear hK K
      (try simp only [Act.put, List.setIfInBounds_toArray, List.set_cons_zero, List.set_cons_succ])
      refine wpAnyH_ready (rs := [14]) ?k1_z14 (by simp) ?r_z14
      case k1_z14 => kernel_rfl
      refine AllReadyH.cons (o := ?oz14) ?hi_z14 (fun K hK => ?s_z14) ?m_z14
      case hi_z14 => (simp only [List.getElem?_toArray, List.getElem?_cons_succ, List.getElem?_cons_zero]; rfl)
      case m_z14 => exact AllReadyH.nil
      go_simp
      (go_at_call 14; refine (chancelref08_Same.calls ks AP cP rs AQ cQ rs true _ CP.out hcP CQ.out hcQ KS.out).mono ?_; rintro e wt ⟨rfl, hbt⟩)
      replace LC := Lib.hid (LC.out.next (below_drawn hbt))
      clear hbt
      (try go_wp2_with fail)
      refine hK.out _ _ (PV8.of LC.out) (fun hHeld => ?_)
      clear hK K
      (try simp only [Act.put, List.setIfInBounds_toArray, List.set_cons_zero, List.set_cons_succ])
      refine wpAnyH_take (i := 15) (oi := ?oz15) (v := ?vz15) ?hi_z15 ?k1_z15 ?k2_z15 ?k3_z15 (fun _ _ _ h => h) (Or.inl ⟨?g_z15, ?y_z15⟩) (by assumption) ?r_z15
      case hi_z15 => (simp only [List.getElem?_toArray, List.getElem?_cons_succ, List.getElem?_cons_zero]; rfl)
      case k1_z15 => kernel_rfl
      case k2_z15 => kernel_rfl
      case k3_z15 => kernel_rfl
      case g_z15 => rfl
      case y_z15 => (intro w hSw; (try dsimp only at hSw); first | (go_simp; done) | (go_simp; with_reducible rfl))
      (try simp only [Act.put, List.setIfInBounds_toArray, List.set_cons_zero, List.set_cons_succ])
      refine wpAnyH_done (by kernel_rfl) ?_ _
      refine NoPanic.normal ?_
      go_wp2
      go_ret
      exact ⟨rfl, LC.out.b⟩
end Go.Proofs.YtlcfhmnjdkhkoaaDoor.Seg
/- Views: the walk of Width; elements of rows of runs and texts. Conditions: at most 1000 segments, of at most 2^40 bytes. -/
namespace Go.Proofs.YtlcfhmnjdkhkoaaDoor.Seg
open Go.RowKit Go.Proofs.YtlcfhmnjdkhkoaaDoorPl Go.Maps Go.Proofs.YtlcfhmnjdkhkoaaDoorW.PrintWords Go.Proofs.YtlcfhmnjdkhkoaaDoorW.PrintLast Go.Proofs.YtlcfhmnjdkhkoaaDoorW.PrintMore Go.Proofs.YtlcfhmnjdkhkoaaDoor.Rope Go.Proofs.YtlcfhmnjdkhkoaaDoor.PViewRuns Go.Proofs.YtlcfhmnjdkhkoaaDoor.Pure
set_option linter.unusedVariables false
set_option linter.unusedSimpArgs false
theorem at_Rn {w : World} {A : Option Addr} {n : Nat} {rs : List Run} (h : Kd.C kR w A n rs) {j : Nat} {r : Run} (hx : rs[j]? = some r) (hj : j < n) : ∃ ad, A = some ad ∧ w.cell? (ad.add (j * 4)) = some (.int .i64 r.f0) ∧ w.cell? ⟨(ad.add (j * 4)).block, (ad.add (j * 4)).off + 1, none⟩ = some (.int .i64 r.f1) ∧ w.cell? ⟨(ad.add (j * 4)).block, (ad.add (j * 4)).off + 2, none⟩ = some (.bool r.f2) ∧ w.cell? ⟨(ad.add (j * 4)).block, (ad.add (j * 4)).off + 3, none⟩ = some (.string r.f3) := by
 have e2 := rd_R hx
 obtain ⟨ad, e, h0, h1, h2, h3⟩ := at_T51 h (j : Int) (by omega) (by omega)
 rw [e2, Int.toNat_natCast] at h0 h1 h2 h3
 exact ⟨ad, e, h0, h1, h2, h3⟩
set_option maxRecDepth 1000000 in
set_option maxHeartbeats 8000000 in
theorem width_calls (A : Option Addr) (c : Nat) (q : Int → Bool) (xs : List G) (w : World) (hr : Kd.C kP w A xs.length (xs.map (pieceG q))) (hl : xs.length ≤ 1000) (hz : ∀ x ∈ xs, Sz x) (hok : ∀ x ∈ xs, okB x = true) :
  Calls Tryd.prog 16 #[.slice A xs.length c] w fun e w' => e = .returned (.int .i64 ((stG q xs : Nat) : Int)) ∧ Below w.heap.size w w' := by
 have HR := Lib.hid hr
 have HZ := Lib.hid hz
 have OK := Lib.hid hok
 have WL := Lib.hid (fun x hx => wideG_le (q := q) (hok x hx) (hz x hx).s2)
 have ST := Lib.hid (stG_takes (q := q) (xs := xs) hl WL.out)
 clear hr hz hok
 go_enter Tryd.func16, Tryd.ntmps16
 go_wp2
 go_loopw [8, 3] (fun s8 s3 wr => ∃ kk : Nat, kk ≤ xs.length ∧ s8 = .int .i64 (kk : Int) ∧ s3 = .int .i64 ((stG q (xs.take kk) : Nat) : Int) ∧ Hid (Below w.heap.size w wr)) (fun s8 _ _ => xs.length - cntV s8)
 case atStart => exact ⟨0, Nat.zero_le _, rfl, rfl, Lib.hid (Below.refl _ _)⟩
 case round =>
  obtain ⟨kk, hkk, rfl, rfl, BW⟩ := hrel
  by_cases hlt : kk < xs.length
  ·have d1 : decide ((kk : Int) < (xs.length : Int)) = true := by simp; omega
   have b1 : (0 : Int) ≤ (kk : Int) := by omega
   have b2 : (kk : Int) < (xs.length : Int) := by omega
   obtain ⟨x, hx⟩ : ∃ x, xs[kk]? = some x := ⟨_, List.getElem?_eq_getElem hlt⟩
   have hpx : (xs.map (pieceG q))[kk]? = some (pieceG q x) := by rw [List.getElem?_map, hx]; rfl
   obtain ⟨ad, e0, y0, y1, y2, y3⟩ := at_P (Kd.C_below HR.out BW.out) hpx hlt
   subst e0
   have TS := Lib.hid (stG_take (q := q) hx)
   have SX := Lib.hid (ST.out kk)
   have WX := Lib.hid (WL.out x (List.mem_of_getElem? hx))
   have PW := Lib.hid (pieceG_wide (q := q) (OK.out x (List.mem_of_getElem? hx)) (HZ.out x (List.mem_of_getElem? hx)).s2)
   clear hx hpx
   generalize pieceG q x = P at y0 y1 y2 y3 PW
   obtain ⟨S, hS⟩ : ∃ S : Int, S = ((stG q (xs.take kk) : Nat) : Int) := ⟨_, rfl⟩
   obtain ⟨D, hD⟩ : ∃ D : Int, D = (wideG q x : Int) := ⟨_, rfl⟩
   rw [← hS]
   rw [← hD] at PW
   have S2 : Hid (((stG q (xs.take (kk + 1)) : Nat) : Int) = S + D) := Lib.hid (by rw [TS.out, hS, hD]; omega)
   have w1_ : IntKind.i64.wrap (S + D) = S + D := IntWalk.i64_in _ (by have := SX.out; have := WX.out; omega)
   clear hS hD TS SX WX
   go_upto_region 5 with (first | ((with_reducible refine gate_dst (N := 5) rfl ?_); refine box_event ?hg (N := 5) ?hd (cs := #[.int .i64 0, .int .i64 0, .int .i64 0, .bool false]) (t := 42) ?hr ?_; (case hd => rfl); (case hg => rfl); (case hr => first | (go_simp; done) | (go_simp; rfl)); intro gA hgA wA hxA hbA; have GA := Lib.hid (show TB 42 wr gA #[.int .i64 0, .int .i64 0, .int .i64 0, .bool false] wA from ⟨hbA, by rw [hgA]; exact Nat.le_refl _, hxA⟩); have q0 := (blk_cell hxA 0).trans rfl; have q1 := (blk_cell hxA 1).trans rfl; have q2 := (blk_cell hxA 2).trans rfl; have q3 := (blk_cell hxA 3).trans rfl; have z0 := blk_frozen hxA 0; have z1 := blk_frozen hxA 1; have z2 := blk_frozen hxA 2; have z3 := blk_frozen hxA 3; clear hgA hxA hbA))
   refine gen2 (φ := fun W => Code.wp _ _ _ _ W) (P := fun W => TB 42 wr gA #[.int .i64 P.f0, .int .i64 P.f1, .int .i64 P.f2, .bool P.f3] W) ((((GA.out.set 0 (.int .i64 P.f0)).set 1 (.int .i64 P.f1)).set 2 (.int .i64 P.f2)).set 3 (.bool P.f3)) ?_
   clear q0 q1 q2 q3 z0 z1 z2 z3 GA y0 y1 y2 y3
   rintro V hV
   have BV := Lib.hid (below_step BW.out hV.b)
   have y0 := (blk_cell hV.hx 0).trans rfl
   have y1 := (blk_cell hV.hx 1).trans rfl
   have y2 := (blk_cell hV.hx 2).trans rfl
   have y3 := (blk_cell hV.hx 3).trans rfl
   clear hV BW
   go_wp2_with fail
   (go_at_call 25; refine (view_wide.calls _ _ _ _ D _ PW.out).mono ?_; rintro e w5 ⟨rfl, hb5⟩)
   have B5 := Lib.hid (below_step BV.out hb5)
   clear hb5 BV y0 y1 y2 y3
   go_wp2
   go_roundw
   case rel => exact ⟨kk + 1, by omega, by go_num, by rw [S2.out], B5⟩
   case measure =>
    simp only [cntV]
    omega
  ·have d1 : decide ((kk : Int) < (xs.length : Int)) = false := by simp; omega
   go_wp2
   go_ret
   have e : xs.take kk = xs := List.take_of_length_le (by omega)
   rw [e]
   exact ⟨rfl, BW.out⟩
end Go.Proofs.YtlcfhmnjdkhkoaaDoor.Seg
/- Views: a document with other texts in segments that aren't open looks the same (plain laws). Conditions: other texts of at most 500 bytes. -/
namespace Go.Proofs.YtlcfhmnjdkhkoaaDoor.Seg
open Go.RowKit Go.Proofs.YtlcfhmnjdkhkoaaDoorPl Go.Maps Go.Proofs.YtlcfhmnjdkhkoaaDoorW.PrintWords Go.Proofs.YtlcfhmnjdkhkoaaDoorW.PrintLast Go.Proofs.YtlcfhmnjdkhkoaaDoorW.PrintMore Go.Proofs.YtlcfhmnjdkhkoaaDoor.Rope Go.Proofs.YtlcfhmnjdkhkoaaDoor.PViewRuns Go.Proofs.YtlcfhmnjdkhkoaaDoor.Pure
set_option linter.unusedVariables false
set_option linter.unusedSimpArgs false
/-- The other text of a segment. -/
def otT (ot : List ByteArray) (i : Nat) : ByteArray := rdOf ByteArray.empty ot (i : Int)
def chB (q : Int → Bool) (ot : List ByteArray) (i : Nat) (x : G) : Bool := !q x.f1 && (decide (i < ot.length) && (decide ((otT ot i).size ≤ 500) && Lib.validD (otT ot i).data.toList))
def mG (q : Int → Bool) (ot : List ByteArray) (i : Nat) (x : G) : G := if chB q ot i x then ⟨x.f0, x.f1, otT ot i, [], []⟩ else x
def mL (q : Int → Bool) (ot : List ByteArray) (xs : List G) : List G := xs.mapIdx (fun i x => mG q ot i x)
theorem mL_len (q : Int → Bool) (ot : List ByteArray) (xs : List G) : (mL q ot xs).length = xs.length := by simp [mL]
theorem mL_get {q : Int → Bool} {ot : List ByteArray} {xs : List G} {j : Nat} {x : G} (h : xs[j]? = some x) : (mL q ot xs)[j]? = some (mG q ot j x) := by simp [mL, List.getElem?_mapIdx, h]
/-- What is alike in both. -/
structure Twn (q : Int → Bool) (x y : G) : Prop where
 e0 : y.f0 = x.f0
 e1 : y.f1 = x.f1
 e : q x.f1 = true → y = x
theorem mG_twn (q : Int → Bool) (ot : List ByteArray) (i : Nat) (x : G) : Twn q x (mG q ot i x) := by
 unfold mG
 split
 ·rename_i h
  refine ⟨rfl, rfl, fun hq => ?_⟩
  unfold chB at h
  rw [hq] at h
  simp at h
 ·exact ⟨rfl, rfl, fun _ => rfl⟩
theorem mL_rel {q : Int → Bool} {ot : List ByteArray} {xs : List G} {y : G} (h : y ∈ mL q ot xs) : ∃ i x, x ∈ xs ∧ y = mG q ot i x := by
 obtain ⟨j, hj⟩ := List.getElem?_of_mem h
 have hl := (List.getElem?_eq_some_iff.1 hj).1
 rw [mL_len] at hl
 have hx : xs[j]? = some xs[j] := List.getElem?_eq_getElem hl
 rw [mL_get hx] at hj
 exact ⟨j, xs[j], List.getElem_mem hl, (Option.some.inj hj).symm⟩
theorem Twn.wide {q : Int → Bool} {x y : G} (h : Twn q x y) : wideG q y = wideG q x := by
 cases hq : q x.f1 with
 | true => rw [h.e hq]
 | false =>
  unfold wideG
  rw [h.e1, hq]
  rfl
theorem Twn.piece {q : Int → Bool} {x y : G} (h : Twn q x y) : pieceG q y = pieceG q x := by
 cases hq : q x.f1 with
 | true => rw [h.e hq]
 | false =>
  unfold pieceG
  rw [h.e0, h.e1, hq]
  rfl
theorem Twn.run {q : Int → Bool} {x y : G} (h : Twn q x y) (a b : Nat) : runG q y a b = runG q x a b := by
 cases hq : q x.f1 with
 | true => rw [h.e hq]
 | false =>
  unfold runG
  rw [h.e0, h.e1, hq]
  rfl
theorem Twn.one {q : Int → Bool} {x y : G} (h : Twn q x y) (f n s : Int) : oneG q f n s y = oneG q f n s x := by
 unfold oneG
 rw [h.wide, h.run]
theorem runsG_twn {q : Int → Bool} {f n : Int} : ∀ (xs ys : List G) (s : Int), ys.length = xs.length → (∀ (j : Nat) (x y : G), xs[j]? = some x → ys[j]? = some y → Twn q x y) → runsG q f n s ys = runsG q f n s xs
 | [], [], _, _, _ => rfl
 | [], y :: l, _, h, _ => by simp at h
 | x :: r, [], _, h, _ => by simp at h
 | x :: r, y :: l, s, h, ht => by
  have t := ht 0 x y rfl rfl
  have ih := runsG_twn (q := q) (f := f) (n := n) r l (s + wideG q x) (by simpa using h) (fun j a b ha hb => ht (j + 1) a b (by simpa using ha) (by simpa using hb))
  simp only [runsG]
  rw [t.one, t.wide, ih]
theorem mL_twn {q : Int → Bool} {ot : List ByteArray} {xs : List G} (j : Nat) (x y : G) (h1 : xs[j]? = some x) (h2 : (mL q ot xs)[j]? = some y) : Twn q x y := by
 rw [mL_get h1] at h2
 rw [← Option.some.inj h2]
 exact mG_twn q ot j x
theorem mL_runs (q : Int → Bool) (ot : List ByteArray) (f n : Int) (xs : List G) : runsG q f n 0 (mL q ot xs) = runsG q f n 0 xs := runsG_twn xs _ 0 (mL_len q ot xs) mL_twn
theorem mL_pieces (q : Int → Bool) (ot : List ByteArray) (xs : List G) : (mL q ot xs).map (pieceG q) = xs.map (pieceG q) := by
 apply List.ext_getElem?
 intro j
 rw [List.getElem?_map, List.getElem?_map]
 cases hx : xs[j]? with
 | none =>
  have : (mL q ot xs)[j]? = none := by rw [List.getElem?_eq_none_iff] at hx ⊢; rw [mL_len]; exact hx
  rw [this]
 | some x =>
  rw [mL_get hx]
  simp only [Option.map_some]
  rw [(mG_twn q ot j x).piece]
theorem mL_ids (q : Int → Bool) (ot : List ByteArray) (xs : List G) : (mL q ot xs).map (·.f0) = xs.map (·.f0) := by
 apply List.ext_getElem?
 intro j
 rw [List.getElem?_map, List.getElem?_map]
 cases hx : xs[j]? with
 | none =>
  have : (mL q ot xs)[j]? = none := by rw [List.getElem?_eq_none_iff] at hx ⊢; rw [mL_len]; exact hx
  rw [this]
 | some x =>
  rw [mL_get hx]
  simp only [Option.map_some]
  rw [(mG_twn q ot j x).e0]
theorem okB_new {i l : Int} {s : ByteArray} (h : Lib.validD s.data.toList = true) : okB ⟨i, l, s, [], []⟩ = true := by
 unfold okB
 dsimp only
 rw [h]
 rfl
theorem chB_iff {q : Int → Bool} {ot : List ByteArray} {i : Nat} {x : G} (h : chB q ot i x = true) : (otT ot i).size ≤ 500 ∧ Lib.validD (otT ot i).data.toList = true := by
 unfold chB at h
 simp only [Bool.and_eq_true, decide_eq_true_iff] at h
 exact ⟨h.2.2.1, h.2.2.2⟩
theorem mG_ok {q : Int → Bool} {ot : List ByteArray} {i : Nat} {x : G} (h : okB x = true) : okB (mG q ot i x) = true := by
 unfold mG
 split
 ·rename_i hc
  exact okB_new (chB_iff hc).2
 ·exact h
theorem mG_sz {q : Int → Bool} {ot : List ByteArray} {i : Nat} {x : G} (h : Sz x) : Sz (mG q ot i x) := by
 unfold mG
 split
 ·rename_i hc
  exact ⟨by have := (chB_iff hc).1; show (otT ot i).size ≤ _; omega, by show 0 ≤ _; omega, by show 0 ≤ _; omega⟩
 ·exact h
theorem mL_okS {q : Int → Bool} {ot : List ByteArray} {xs : List G} (h : okS xs) : okS (mL q ot xs) := by
 refine ⟨fun y hy => ?_, by rw [mL_ids]; exact h.2⟩
 obtain ⟨i, x, hx, rfl⟩ := mL_rel hy
 exact mG_ok (h.1 x hx)
theorem mL_sz {q : Int → Bool} {ot : List ByteArray} {xs : List G} (h : ∀ x ∈ xs, Sz x) : ∀ y ∈ mL q ot xs, Sz y := by
 intro y hy
 obtain ⟨i, x, hx, rfl⟩ := mL_rel hy
 exact mG_sz (h x hx)
theorem mL_wf {q : Int → Bool} {ot : List ByteArray} {xs : List G} (h : ∀ x ∈ xs, (Lit.int .i64 x.f0).wf = true) : ∀ y ∈ mL q ot xs, (Lit.int .i64 y.f0).wf = true := by
 intro y hy
 obtain ⟨i, x, hx, rfl⟩ := mL_rel hy
 rw [(mG_twn q ot i x).e0]
 exact h x hx
theorem tab_shut : stG (fun _ => false) [tab] = 1 := rfl
/-- These rows of cells are these plain segments. -/
def Gs (w : World) (css : List (List Value)) (xs : List G) : Prop := css.length = xs.length ∧ ∀ (j : Nat) cs x, css[j]? = some cs → xs[j]? = some x → kG.K w x cs
theorem Gs.below {w w1 : World} {css : List (List Value)} {xs : List G} (h : Gs w css xs) (hb : Below w.heap.size w w1) : Gs w1 css xs := ⟨h.1, fun j cs x h1 h2 => kG.K_below hb (h.2 j cs x h1 h2)⟩
theorem C_join {w : World} {A : Option Addr} {n : Nat} {css : List (List Value)} {xs : List G} (h : Kd.C kQ w A n css) (hg : Gs w css xs) : Kd.C kG w A n xs := by
 refine ⟨hg.1.symm.trans h.1, h.2.1, fun hp => ?_⟩
 obtain ⟨ad, e, hx⟩ := h.2.2 hp
 refine ⟨ad, e, fun j x hj => ?_⟩
 obtain ⟨cs, hcs⟩ : ∃ cs, css[j]? = some cs := ⟨_, List.getElem?_eq_getElem (by have := (List.getElem?_eq_some_iff.1 hj).1; rw [hg.1]; exact this)⟩
 obtain ⟨cs', hl, ⟨rfl, _⟩, hcell⟩ := hx j cs hcs
 exact ⟨cs', hl, hg.2 j cs' x hcs hj, hcell⟩
theorem Gs.snoc {w : World} {css : List (List Value)} {xs : List G} (h : Gs w css xs) {cs : List Value} {z : G} (hz : kG.K w z cs) : Gs w (css ++ [cs]) (xs ++ [z]) := by
 refine ⟨by rw [List.length_append, List.length_append, h.1]; rfl, fun j cs' x' h1 h2 => ?_⟩
 rcases get_snocS h1 with h1 | ⟨e1, rfl⟩ <;> rcases get_snocS h2 with h2 | ⟨e2, rfl⟩
 ·exact h.2 j cs' x' h1 h2
 ·have := (List.getElem?_eq_some_iff.1 h1).1
  have := h.1
  omega
 ·have := (List.getElem?_eq_some_iff.1 h2).1
  have := h.1
  omega
 ·exact hz
theorem one5g {i l : Int} {s : ByteArray} {A : Option Addr} {n c : Nat} {B : Option Addr} {m d : Nat} : ∀ u ∈ [Value.int .i64 i, .int .i64 l, .string s, .slice A n c, .slice B m d], u.oneCell' = true := by
 intro u hu
 simp only [List.mem_cons, List.not_mem_nil, or_false] at hu
 rcases hu with rfl | rfl | rfl | rfl | rfl <;> rfl
end Go.Proofs.YtlcfhmnjdkhkoaaDoor.Seg
/- The walk of the law ViewHides: it answers true. Conditions: the sizes that every row has; Go's two tables of utf8 as they are laid. -/
namespace Go.Proofs.YtlcfhmnjdkhkoaaDoor.Seg
open Go.RowKit Go.Proofs.YtlcfhmnjdkhkoaaDoorPl Go.Maps Go.Proofs.YtlcfhmnjdkhkoaaDoorW.PrintWords Go.Proofs.YtlcfhmnjdkhkoaaDoorW.PrintLast Go.Proofs.YtlcfhmnjdkhkoaaDoorW.PrintMore Go.Proofs.YtlcfhmnjdkhkoaaDoor.Rope Go.Proofs.YtlcfhmnjdkhkoaaDoor.PViewRuns Go.Proofs.YtlcfhmnjdkhkoaaDoor.Pure
set_option linter.unusedVariables false
set_option linter.unusedSimpArgs false
/-- What the loop keeps that builds the other document. -/
structure MZ (w : World) (B : Option Addr) (d : Nat) (os : List Bool) (v : Value) (css : List (List Value)) (W : World) : Prop where
 b : Below w.heap.size w W
 h4 : W.heap[w.heap.size]? = some (.cells #[.slice B os.length d] 23 (0, 0))
 row : Kd.R kQ 33 W w.heap.size (fun _ => True) v css
theorem MZ.next {w W W' : World} {B : Option Addr} {d : Nat} {os : List Bool} {v : Value} {css : List (List Value)} (h : MZ w B d os v css W) (hb : Below W.heap.size W W') : MZ w B d os v css W' := ⟨below_step h.b hb, blk_below h.h4 hb, Kd.R_below h.row hb⟩
theorem MZ.more {w W W' : World} {B : Option Addr} {d : Nat} {os : List Bool} {v v' : Value} {css dss : List (List Value)} (h : MZ w B d os v css W) (hb : Below w.heap.size w W') (hg : W.grownBy W' v.ownBlock) (ho : Kd.R kQ 33 W' w.heap.size (fun _ => True) v' dss) : MZ w B d os v' dss W' :=
 ⟨hb, (R_typeD h.row hg (by decide) _ _ h.h4).trans h.h4, ho⟩
theorem MZ.x4 {w W : World} {B : Option Addr} {d : Nat} {os : List Bool} {v : Value} {css : List (List Value)} (h : MZ w B d os v css W) : W.cell? ⟨w.heap.size, 0, none⟩ = some (.slice B os.length d) := (blk_cell h.h4 0).trans rfl
/-- Two sheets, and the box of the bools. -/
structure VH (w : World) (gC gB : Nat) (B : Option Addr) (d : Nat) (os : List Bool) (A : Option Addr) (c : Nat) (xss : List (List Value)) (xs : List G) (A' : Option Addr) (c' : Nat) (yss : List (List Value)) (ys : List G) (W : World) : Prop where
 l : VL w w.heap.size gC gB B d os #[.bool false, .slice A' yss.length c'] 27 A c xss xs W
 s : Sh W A' c' yss ys
theorem VH.next {w W W' : World} {gC gB : Nat} {B : Option Addr} {d : Nat} {os : List Bool} {A : Option Addr} {c : Nat} {xss : List (List Value)} {xs : List G} {A' : Option Addr} {c' : Nat} {yss : List (List Value)} {ys : List G} (h : VH w gC gB B d os A c xss xs A' c' yss ys W) (hb : Below W.heap.size W W') : VH w gC gB B d os A c xss xs A' c' yss ys W' := ⟨h.l.next hb, h.s.below hb⟩
set_option maxRecDepth 1000000 in
set_option maxHeartbeats 16000000 in
theorem viewHides_walk (A : Option Addr) (c : Nat) (xs : List G) (B : Option Addr) (d : Nat) (os : List Bool) (C_ : Option Addr) (e_ : Nat) (ot : List ByteArray) (w : World) (hT : Tabs w) (hr : Kd.C kG w A xs.length xs) (hc : xs.length ≤ c) (ho : Kd.C Kd.bool w B os.length os) (hd : os.length ≤ d) (ht : Kd.C Kd.string w C_ ot.length ot) (he : ot.length ≤ e_) (hn : xs.length ≤ 2932031007402) (hz : ∀ x ∈ xs, x.f2.size ≤ 140737488355328 ∧ x.f3.length ≤ 140737488355328 ∧ x.f4.length ≤ 140737488355328) (hwf : ∀ x ∈ xs, (Lit.int .i64 x.f0).wf = true) (hno : ot.length ≤ 140737488355328) (hzo : ∀ t ∈ ot, t.size ≤ 140737488355328) :
  Calls Tryd.prog 4 #[.slice A xs.length c, .slice B os.length d, .slice C_ ot.length e_] w fun e w' => e = .returned (.bool true) ∧ Below w.heap.size w w' := by
 obtain ⟨bs, hbs, hsm⟩ := smallS_ev xs hn hz
 obtain ⟨k1, hk1⟩ := Go.Proofs.YtlcfhmnjdkhkoaaDoorW.PrintWords.Ev.rounds hbs
 have HT := Lib.hid hT
 have HR := Lib.hid hr
 have HO := Lib.hid ho
 have HS := Lib.hid ht
 have NO := Lib.hid hno
 have ZO := Lib.hid hzo
 have K1 := Lib.hid hk1
 have SM := Lib.hid hsm
 have WF := Lib.hid hwf
 clear hT hr ho ht hz hbs hk1 hsm hwf hno hzo
 go_enter Tryd.func4, Tryd.ntmps4
 go_upto_region 1 with fail
 have B00 := Lib.hid (below_alloc (Below.refl w.heap.size w) (.cells #[.slice B os.length d] 23))
 refine gen2 (φ := fun W => Code.wp _ _ _ _ W) (P := fun W => Below w.heap.size w W ∧ W.heap[w.heap.size]? = some (.cells #[.slice B os.length d] 23 (0, 0))) ⟨B00.out, blk_newS rfl⟩ ?_
 clear B00
 rintro W0 ⟨hb0, h40⟩
 have B0 := Lib.hid hb0
 have X4 := Lib.hid h40
 clear hb0 h40
 go_wp2_with fail
 have BS := Lib.hid (below_alloc (Below.refl W0.heap.size W0) (.cells #[.int .i64 1, .int .i64 0, .string ⟨#[97, 98]⟩, .slice none 0 0, .slice none 0 0] 33))
 (go_at_call 6; refine (shLoad_good false _ 1 [tab] _ (HT.out.below (below_step B0.out BS.out)) (C_oneG (blk_newS rfl)) tabs_sz (by decide) tabs_wf tabs_ok).mono ?_; rintro e w1 ⟨A1, c1, xss1, rfl, hs1, hb1⟩)
 have S1 := Lib.hid hs1
 have L1 := Lib.hid hs1.len
 have B1 := Lib.hid (below_step BS.out hb1)
 clear hs1 hb1 BS
 go_upto_region 2 with (first | ((with_reducible refine gate_dst (N := 7) rfl ?_); refine box_event ?hg (N := 7) ?hd (cs := #[.bool false, .slice none 0 0]) (t := 27) ?hr ?_; (case hd => rfl); (case hg => rfl); (case hr => first | (go_simp; done) | (go_simp; rfl)); intro gA hgA wA hxA hbA; have GX := Lib.hid (show TB 27 w1 gA #[.bool false, .slice none 0 0] wA from ⟨hbA, by rw [hgA]; exact Nat.le_refl _, hxA⟩); have q0 := (blk_cell hxA 0).trans rfl; have q1 := (blk_cell hxA 1).trans rfl; have z0 := blk_frozen hxA 0; have z1 := blk_frozen hxA 1; clear hgA hxA hbA))
 refine gen2 (φ := fun W => Code.wp _ _ _ _ W) (P := fun W => TB 27 w1 gA #[.bool false, .slice A1 xss1.length c1] W) ((GX.out.set 0 (.bool false)).set 1 (.slice A1 xss1.length c1)) ?_
 clear q0 q1 z0 z1 GX
 rintro V hV
 have B2 := Lib.hid (below_step B1.out hV.b)
 have S2 := Lib.hid (S1.out.below hV.b)
 have y0 := (blk_cell hV.hx 0).trans rfl
 have y1 := (blk_cell hV.hx 1).trans rfl
 clear hV S1 B1
 go_wp2_with fail
 (go_at_call 12; refine (look_calls false A1 c1 xss1 [tab] 17 #[] (fun _ => false) _ eg1_ViewHides (pconst_ViewHides _) S2.out (by rw [← L1.out]; decide) tabs_sz).mono ?_; rintro e wl ⟨v2, rfl, hr2, hb2⟩)
 obtain ⟨A2, c2, e2, hc2, hC2⟩ := Kd.R_reads hr2
 have e2' : v2 = .slice A2 1 c2 := e2
 subst e2'
 have C2 := Lib.hid (show Kd.C kP wl A2 [tab].length ([tab].map (pieceG (fun _ => false))) from hC2)
 have B21 := Lib.hid (below_step B2.out hb2)
 clear hr2 hb2 e2 hc2 hC2 y0 y1 S2 B2 L1
 go_wp2_with fail
 (go_at_call 16; refine (width_calls A2 c2 (fun _ => false) [tab] _ C2.out (by decide) tabs_sz (fun x hx => tabs_ok.1 x hx)).mono ?_; rintro e wm ⟨rfl, hbm⟩)
 rw [tab_shut]
 have B3 := Lib.hid (below_step B21.out hbm)
 clear hbm B21 C2
 go_wp2_with fail
 (go_at_call 9; refine (chancellaw06_Small.calls k1 A c xs bs _ (Kd.C_below HR.out (below_step B0.out B3.out)) hc K1.out).mono ?_; rintro e w3 ⟨rfl, hb3⟩)
 have B4 := Lib.hid (below_step B3.out hb3)
 clear hb3 B3 K1
 cases bs with
 | false =>
  go_wp2
  go_ret
  exact ⟨rfl, below_step B0.out B4.out⟩
 | true =>
  obtain ⟨hl40, hz2⟩ := SM.out rfl
  have HZ := Lib.hid hz2
  clear hz2 SM
  go_wp2_with fail
  (go_at_call 10; refine (right6_calls A c xs _ (Kd.C_below HR.out (below_step B0.out B4.out)) hc HZ.out (by omega)).mono ?_; rintro e w4 ⟨b9, rfl, hi9, hb4⟩)
  have B5 := Lib.hid (below_step B4.out hb4)
  clear hb4 B4
  cases b9 with
  | false =>
   clear hi9
   go_wp2
   go_ret
   exact ⟨rfl, below_step B0.out B5.out⟩
  | true =>
   have OK := Lib.hid (hi9.1 rfl)
   clear hi9
   have x4 := (blk_cell (blk_below X4.out B5.out) 0).trans rfl
   by_cases h20 : 20 < os.length
   ·have d20 : decide ((20 : Int) < (os.length : Int)) = true := by simp; omega
    clear h20
    go_wp2
    go_ret
    exact ⟨rfl, below_step B0.out B5.out⟩
   ·have d20 : decide ((20 : Int) < (os.length : Int)) = false := by simp; omega
    have HLX : Hid (xs.length ≤ 40) := Lib.hid hl40
    obtain ⟨q, hq⟩ : ∃ q, q = qO os := ⟨_, rfl⟩
    have PO := fun (W : World) (h : W.cell? ⟨w.heap.size, 0, none⟩ = some (.slice B os.length d)) (hb : Below w.heap.size w W) => (show PredL W 18 #[.pointer (some ⟨w.heap.size, 0, none⟩)] q by rw [hq]; exact popen_ViewHides h (Kd.C_below HO.out hb))
    have PH := Lib.hid PO
    obtain ⟨ml, hml⟩ : ∃ ml, ml = mL q ot xs := ⟨_, rfl⟩
    have MLE : Hid (ml.length = xs.length) := Lib.hid (by rw [hml, mL_len])
    have MOK : Hid (okS ml) := Lib.hid (by rw [hml]; exact mL_okS OK.out)
    have MSZ : Hid (∀ y ∈ ml, Sz y) := Lib.hid (by rw [hml]; exact mL_sz HZ.out)
    have MWF : Hid (∀ y ∈ ml, (Lit.int .i64 y.f0).wf = true) := Lib.hid (by rw [hml]; exact mL_wf WF.out)
    have MRU : Hid (∀ f n, runsG q f n 0 ml = runsG q f n 0 xs) := Lib.hid (fun f n => by rw [hml]; exact mL_runs q ot f n xs)
    have MPI : Hid (ml.map (pieceG q) = xs.map (pieceG q)) := Lib.hid (by rw [hml]; exact mL_pieces q ot xs)
    have MGE : Hid (∀ (j : Nat) (x : G), xs[j]? = some x → ml[j]? = some (mG q ot j x)) := Lib.hid (fun j x h => by rw [hml]; exact mL_get h)
    have I1 := Lib.hid (show MZ w B d os (.slice none 0 0) [] w4 from ⟨below_step B0.out B5.out, blk_below X4.out B5.out, Kd.R_nil _ _ _ _ _⟩)
    clear PO hq hml h20 hl40 X4 B5 B0
    go_wp2
    clear x4 d20
    go_loopw [47, 10] (fun s47 s10 wr => ∃ (kk : Nat) (v : Value) (css : List (List Value)), kk ≤ xs.length ∧ s47 = .int .i64 (kk : Int) ∧ v = s10 ∧ Hid (MZ w B d os v css wr) ∧ Hid (Gs w css (ml.take kk))) (fun s47 _ _ => xs.length - cntV s47)
    case atStart => exact ⟨0, _, [], Nat.zero_le _, rfl, rfl, I1, Lib.hid ⟨rfl, fun j cs x h _ => by simp at h⟩⟩
    case round =>
     obtain ⟨kk, v, css, hkk, rfl, ev, IW, GW⟩ := hrel
     subst ev
     by_cases hlt : kk < xs.length
     ·have d1 : decide ((kk : Int) < (xs.length : Int)) = true := by simp; omega
      have b1 : (0 : Int) ≤ (kk : Int) := by omega
      have b2 : (kk : Int) < (xs.length : Int) := by omega
      obtain ⟨x, hx⟩ : ∃ x, xs[kk]? = some x := ⟨_, List.getElem?_eq_getElem hlt⟩
      obtain ⟨ad, A3, c3, A4, c4, e0, p0, p1, p2, p3, p4, hgr⟩ := at_G HR.out hx hlt
      subst e0
      have KX := Lib.hid (show kG.K w x [.int .i64 x.f0, .int .i64 x.f1, .string x.f2, .slice A3 x.f3.length c3, .slice A4 x.f4.length c4] from k33_mk w x hgr.c3 hgr.r3 hgr.c4 hgr.r4)
      have TK := Lib.hid (take_snocG (MGE.out kk x hx))
      have LN : Hid (css.length = kk) := Lib.hid (by rw [GW.out.1, List.length_take, MLE.out]; omega)
      have w1_ : IntKind.i64.wrap ((kk : Int) + 1) = (kk : Int) + 1 := IntWalk.i64_in _ (by have := HLX.out; omega)
      replace p0 := pw_cell_below IW.out.b p0
      replace p1 := pw_cell_below IW.out.b p1
      replace p2 := pw_cell_below IW.out.b p2
      replace p3 := pw_cell_below IW.out.b p3
      replace p4 := pw_cell_below IW.out.b p4
      clear hx hgr
      go_upto_region 11 with (first | ((with_reducible refine gate_dst (N := 12) rfl ?_); refine box_event ?hg (N := 12) ?hd (cs := #[.int .i64 0, .int .i64 0, .string ByteArray.empty, .slice none 0 0, .slice none 0 0]) (t := 33) ?hr ?_; (case hd => rfl); (case hg => rfl); (case hr => first | (go_simp; done) | (go_simp; rfl)); intro gA hgA wA hxA hbA; have GA := Lib.hid (show TB 33 wr gA #[.int .i64 0, .int .i64 0, .string ByteArray.empty, .slice none 0 0, .slice none 0 0] wA from ⟨hbA, by rw [hgA]; exact Nat.le_refl _, hxA⟩); have q0 := (blk_cell hxA 0).trans rfl; have q1 := (blk_cell hxA 1).trans rfl; have q2 := (blk_cell hxA 2).trans rfl; have q3 := (blk_cell hxA 3).trans rfl; have q4 := (blk_cell hxA 4).trans rfl; have z0 := blk_frozen hxA 0; have z1 := blk_frozen hxA 1; have z2 := blk_frozen hxA 2; have z3 := blk_frozen hxA 3; have z4 := blk_frozen hxA 4; clear hgA hxA hbA))
      refine gen2 (φ := fun W => Code.wp _ _ _ _ W) (P := fun W => TB 33 wr gA #[.int .i64 x.f0, .int .i64 x.f1, .string x.f2, .slice A3 x.f3.length c3, .slice A4 x.f4.length c4] W) (((((GA.out.set 0 (.int .i64 x.f0)).set 1 (.int .i64 x.f1)).set 2 (.string x.f2)).set 3 (.slice A3 x.f3.length c3)).set 4 (.slice A4 x.f4.length c4)) ?_
      clear q0 q1 q2 q3 q4 z0 z1 z2 z3 z4 GA p0 p1 p2 p3 p4
      rintro V9 hV
      have I2 := Lib.hid (IW.out.next hV.b)
      have TV := Lib.hid hV
      have p1 := (blk_cell hV.hx 1).trans rfl
      clear hV
      go_wp2_with fail
      (refine (PH.out _ I2.out.x4 I2.out.b _ x.f1 (Below.refl _ _)).mono ?_; rintro e w5 ⟨rfl, hb5⟩)
      have I3 := Lib.hid (I2.out.next hb5)
      have T5 := Lib.hid (TV.out.next hb5)
      clear hb5 I2 p1 TV
      cases hq : q x.f1 with
      | true =>
       have EY := Lib.hid (show mG q ot kk x = x by unfold mG chB; rw [hq]; rfl)
       clear hq
       have u0 := (blk_cell T5.out.hx 0).trans rfl
       have u1 := (blk_cell T5.out.hx 1).trans rfl
       have u2 := (blk_cell T5.out.hx 2).trans rfl
       have u3 := (blk_cell T5.out.hx 3).trans rfl
       have u4 := (blk_cell T5.out.hx 4).trans rfl
       go_wp2_with (first | ((with_reducible refine gate_builtin (b := .append) rfl ?_); at_builtin; go_must (refine Kd.R_append kQ (w0 := w) w.heap.size rfl _ _ 22 33 (.agg #[.int .i64 0, .int .i64 0, .string ⟨#[]⟩, .slice none 0 0, .slice none 0 0]) 80 rfl Tryd.underlying22 infoC33 rfl (by decide) (by decide) v css [.int .i64 x.f0, .int .i64 x.f1, .string x.f2, .slice A3 x.f3.length c3, .slice A4 x.f4.length c4] [.int .i64 x.f0, .int .i64 x.f1, .string x.f2, .slice A3 x.f3.length c3, .slice A4 x.f4.length c4] (fun _ => True) (fun _ => False) rfl rfl ⟨rfl, rfl, one5g⟩ (fun _ hk => hk.elim) (fun _ _ => trivial) ?aO ?aB ?aS ?aL ?_); (case aO => exact I3.out.row); (case aB => exact I3.out.b); (case aS => exact I3.out.b.size); (case aL => have := LN.out; have := HLX.out; omega); intro v8 w8 ho8 hb8 hg8 hat8; have I9 := Lib.hid (I3.out.more hb8 hg8 ho8); have G9 := Lib.hid (GW.out.snoc KX.out); clear ho8 hb8 hg8 hat8))
       go_roundw
       case rel => exact ⟨kk + 1, _, _, by omega, by go_num, rfl, I9, by rw [TK.out, EY.out]; exact G9⟩
       case measure =>
        simp only [cntV]
        omega
      | false =>
       by_cases hl : kk < ot.length
       ·have dl : decide ((kk : Int) < (ot.length : Int)) = true := by simp; omega
        have b3 : (kk : Int) < (ot.length : Int) := by omega
        obtain ⟨adt, e0, s0⟩ := Kd.at_string (Kd.C_below HS.out I3.out.b) (kk : Int) (by omega) b3
        subst e0
        rw [Int.toNat_natCast] at s0
        have eot : rdOf ByteArray.empty ot (kk : Int) = otT ot kk := rfl
        rw [eot] at s0
        by_cases hs : (otT ot kk).size ≤ 500
        ·have ds : decide (((otT ot kk).size : Int) ≤ 500) = true := by simp; omega
         have CH : Hid (chB q ot kk x = Lib.validD (otT ot kk).data.toList) := Lib.hid (by unfold chB; rw [hq, decide_eq_true hl, decide_eq_true hs]; rfl)
         obtain ⟨t, ht⟩ : ∃ t, t = otT ot kk := ⟨_, rfl⟩
         have HT2 := Lib.hid ht
         rw [← ht] at ds CH s0 hs
         clear hq ht eot
         go_wp2_with fail
         (go_at_call 19; refine (refRight_calls t _ (by omega)).mono ?_; rintro e w6 ⟨rfl, hb6⟩)
         have I4 := Lib.hid (I3.out.next hb6)
         have T6 := Lib.hid (T5.out.next hb6)
         replace s0 := pw_cell_below hb6 s0
         clear hb6 I3 T5
         cases hv : Lib.validD t.data.toList with
         | true =>
          have EY := Lib.hid (show mG q ot kk x = ⟨x.f0, x.f1, t, [], []⟩ by unfold mG; rw [CH.out, hv, HT2.out]; rfl)
          have KY := Lib.hid (show kG.K w ⟨x.f0, x.f1, t, [], []⟩ [.int .i64 x.f0, .int .i64 x.f1, .string t, .slice none 0 0, .slice none 0 0] from k33_mk w ⟨x.f0, x.f1, t, [], []⟩ (Nat.le_refl 0) (Kd.C_nil _ _) (Nat.le_refl 0) (Kd.C_nil _ _))
          clear hv
          have y2 := (blk_cell T6.out.hx 2).trans rfl
          have y3 := (blk_cell T6.out.hx 3).trans rfl
          have y4 := (blk_cell T6.out.hx 4).trans rfl
          have z2 := blk_frozen T6.out.hx 2
          have z3 := blk_frozen T6.out.hx 3
          have z4 := blk_frozen T6.out.hx 4
          go_upto_region 13 with fail
          refine gen2 (φ := fun W => Code.wp _ _ _ _ W) (P := fun W => TB 33 wr gA #[.int .i64 x.f0, .int .i64 x.f1, .string t, .slice none 0 0, .slice none 0 0] W) (((T6.out.set 2 (.string t)).set 3 (.slice none 0 0)).set 4 (.slice none 0 0)) ?_
          clear y2 y3 y4 z2 z3 z4 T6 s0
          rintro V10 hV10
          have I6 := Lib.hid (IW.out.next hV10.b)
          have T7 := Lib.hid hV10
          clear hV10 I4
          have u0 := (blk_cell T7.out.hx 0).trans rfl
          have u1 := (blk_cell T7.out.hx 1).trans rfl
          have u2 := (blk_cell T7.out.hx 2).trans rfl
          have u3 := (blk_cell T7.out.hx 3).trans rfl
          have u4 := (blk_cell T7.out.hx 4).trans rfl
          go_wp2_with (first | ((with_reducible refine gate_builtin (b := .append) rfl ?_); at_builtin; go_must (refine Kd.R_append kQ (w0 := w) w.heap.size rfl _ _ 22 33 (.agg #[.int .i64 0, .int .i64 0, .string ⟨#[]⟩, .slice none 0 0, .slice none 0 0]) 80 rfl Tryd.underlying22 infoC33 rfl (by decide) (by decide) v css [.int .i64 x.f0, .int .i64 x.f1, .string t, .slice none 0 0, .slice none 0 0] [.int .i64 x.f0, .int .i64 x.f1, .string t, .slice none 0 0, .slice none 0 0] (fun _ => True) (fun _ => False) rfl rfl ⟨rfl, rfl, one5g⟩ (fun _ hk => hk.elim) (fun _ _ => trivial) ?aO ?aB ?aS ?aL ?_); (case aO => exact I6.out.row); (case aB => exact I6.out.b); (case aS => exact I6.out.b.size); (case aL => have := LN.out; have := HLX.out; omega); intro v8 w8 ho8 hb8 hg8 hat8; have I9 := Lib.hid (I6.out.more hb8 hg8 ho8); have G9 := Lib.hid (GW.out.snoc KY.out); clear ho8 hb8 hg8 hat8))
          go_roundw
          case rel => exact ⟨kk + 1, _, _, by omega, by go_num, rfl, I9, by rw [TK.out, EY.out]; exact G9⟩
          case measure =>
           simp only [cntV]
           omega
         | false =>
          have EY := Lib.hid (show mG q ot kk x = x by unfold mG; rw [CH.out, hv]; rfl)
          clear hv
          have I3 := I4
          have T5 := T6
          clear I4 T6
          have u0 := (blk_cell T5.out.hx 0).trans rfl
          have u1 := (blk_cell T5.out.hx 1).trans rfl
          have u2 := (blk_cell T5.out.hx 2).trans rfl
          have u3 := (blk_cell T5.out.hx 3).trans rfl
          have u4 := (blk_cell T5.out.hx 4).trans rfl
          go_wp2_with (first | ((with_reducible refine gate_builtin (b := .append) rfl ?_); at_builtin; go_must (refine Kd.R_append kQ (w0 := w) w.heap.size rfl _ _ 22 33 (.agg #[.int .i64 0, .int .i64 0, .string ⟨#[]⟩, .slice none 0 0, .slice none 0 0]) 80 rfl Tryd.underlying22 infoC33 rfl (by decide) (by decide) v css [.int .i64 x.f0, .int .i64 x.f1, .string x.f2, .slice A3 x.f3.length c3, .slice A4 x.f4.length c4] [.int .i64 x.f0, .int .i64 x.f1, .string x.f2, .slice A3 x.f3.length c3, .slice A4 x.f4.length c4] (fun _ => True) (fun _ => False) rfl rfl ⟨rfl, rfl, one5g⟩ (fun _ hk => hk.elim) (fun _ _ => trivial) ?aO ?aB ?aS ?aL ?_); (case aO => exact I3.out.row); (case aB => exact I3.out.b); (case aS => exact I3.out.b.size); (case aL => have := LN.out; have := HLX.out; omega); intro v8 w8 ho8 hb8 hg8 hat8; have I9 := Lib.hid (I3.out.more hb8 hg8 ho8); have G9 := Lib.hid (GW.out.snoc KX.out); clear ho8 hb8 hg8 hat8))
          go_roundw
          case rel => exact ⟨kk + 1, _, _, by omega, by go_num, rfl, I9, by rw [TK.out, EY.out]; exact G9⟩
          case measure =>
           simp only [cntV]
           omega
        ·have ds : decide (((otT ot kk).size : Int) ≤ 500) = false := by simp; omega
         have EY := Lib.hid (show mG q ot kk x = x by unfold mG chB; rw [hq, decide_eq_true hl, decide_eq_false hs]; rfl)
         generalize otT ot kk = t at ds s0
         clear hq hs eot
         have u0 := (blk_cell T5.out.hx 0).trans rfl
         have u1 := (blk_cell T5.out.hx 1).trans rfl
         have u2 := (blk_cell T5.out.hx 2).trans rfl
         have u3 := (blk_cell T5.out.hx 3).trans rfl
         have u4 := (blk_cell T5.out.hx 4).trans rfl
         go_wp2_with (first | ((with_reducible refine gate_builtin (b := .append) rfl ?_); at_builtin; go_must (refine Kd.R_append kQ (w0 := w) w.heap.size rfl _ _ 22 33 (.agg #[.int .i64 0, .int .i64 0, .string ⟨#[]⟩, .slice none 0 0, .slice none 0 0]) 80 rfl Tryd.underlying22 infoC33 rfl (by decide) (by decide) v css [.int .i64 x.f0, .int .i64 x.f1, .string x.f2, .slice A3 x.f3.length c3, .slice A4 x.f4.length c4] [.int .i64 x.f0, .int .i64 x.f1, .string x.f2, .slice A3 x.f3.length c3, .slice A4 x.f4.length c4] (fun _ => True) (fun _ => False) rfl rfl ⟨rfl, rfl, one5g⟩ (fun _ hk => hk.elim) (fun _ _ => trivial) ?aO ?aB ?aS ?aL ?_); (case aO => exact I3.out.row); (case aB => exact I3.out.b); (case aS => exact I3.out.b.size); (case aL => have := LN.out; have := HLX.out; omega); intro v8 w8 ho8 hb8 hg8 hat8; have I9 := Lib.hid (I3.out.more hb8 hg8 ho8); have G9 := Lib.hid (GW.out.snoc KX.out); clear ho8 hb8 hg8 hat8))
         go_roundw
         case rel => exact ⟨kk + 1, _, _, by omega, by go_num, rfl, I9, by rw [TK.out, EY.out]; exact G9⟩
         case measure =>
          simp only [cntV]
          omega
       ·have dl : decide ((kk : Int) < (ot.length : Int)) = false := by simp; omega
        have EY := Lib.hid (show mG q ot kk x = x by unfold mG chB; rw [hq, decide_eq_false hl]; rfl)
        clear hq
        have u0 := (blk_cell T5.out.hx 0).trans rfl
        have u1 := (blk_cell T5.out.hx 1).trans rfl
        have u2 := (blk_cell T5.out.hx 2).trans rfl
        have u3 := (blk_cell T5.out.hx 3).trans rfl
        have u4 := (blk_cell T5.out.hx 4).trans rfl
        go_wp2_with (first | ((with_reducible refine gate_builtin (b := .append) rfl ?_); at_builtin; go_must (refine Kd.R_append kQ (w0 := w) w.heap.size rfl _ _ 22 33 (.agg #[.int .i64 0, .int .i64 0, .string ⟨#[]⟩, .slice none 0 0, .slice none 0 0]) 80 rfl Tryd.underlying22 infoC33 rfl (by decide) (by decide) v css [.int .i64 x.f0, .int .i64 x.f1, .string x.f2, .slice A3 x.f3.length c3, .slice A4 x.f4.length c4] [.int .i64 x.f0, .int .i64 x.f1, .string x.f2, .slice A3 x.f3.length c3, .slice A4 x.f4.length c4] (fun _ => True) (fun _ => False) rfl rfl ⟨rfl, rfl, one5g⟩ (fun _ hk => hk.elim) (fun _ _ => trivial) ?aO ?aB ?aS ?aL ?_); (case aO => exact I3.out.row); (case aB => exact I3.out.b); (case aS => exact I3.out.b.size); (case aL => have := LN.out; have := HLX.out; omega); intro v8 w8 ho8 hb8 hg8 hat8; have I9 := Lib.hid (I3.out.more hb8 hg8 ho8); have G9 := Lib.hid (GW.out.snoc KX.out); clear ho8 hb8 hg8 hat8))
        go_roundw
        case rel => exact ⟨kk + 1, _, _, by omega, by go_num, rfl, I9, by rw [TK.out, EY.out]; exact G9⟩
        case measure =>
         simp only [cntV]
         omega
     ·have d1 : decide ((kk : Int) < (xs.length : Int)) = false := by simp; omega
      have ek : ml.take kk = ml := List.take_of_length_le (by rw [MLE.out]; omega)
      rw [ek] at GW
      obtain ⟨Am, cm, em, hcm, hCm⟩ := Kd.R_reads IW.out.row
      have el : css.length = ml.length := GW.out.1
      rw [el] at em hCm
      subst em
      have CM := Lib.hid (C_join hCm (GW.out.below IW.out.b))
      have BW := Lib.hid IW.out.b
      have X4 := Lib.hid IW.out.h4
      clear ek hcm hCm el GW IW
      go_wp2_with fail
      (go_at_call 6; refine (shLoad_good false A c xs _ (HT.out.below BW.out) (Kd.C_below HR.out BW.out) HZ.out (by have := HLX.out; omega) WF.out OK.out).mono ?_; rintro e w8 ⟨A8, c8, xss8, rfl, hs8, hb8⟩)
      have S8 := Lib.hid hs8
      have L8 := Lib.hid hs8.len
      have B8 := Lib.hid hb8
      clear hs8 hb8
      go_upto_region 16 with (first | ((with_reducible refine gate_dst (N := 13) rfl ?_); refine box_event ?hg (N := 13) ?hd (cs := #[.bool false, .slice none 0 0]) (t := 27) ?hr ?_; (case hd => rfl); (case hg => rfl); (case hr => first | (go_simp; done) | (go_simp; rfl)); intro gB hgB wB hxB hbB; have GX := Lib.hid (show TB 27 w8 gB #[.bool false, .slice none 0 0] wB from ⟨hbB, by rw [hgB]; exact Nat.le_refl _, hxB⟩); have q0 := (blk_cell hxB 0).trans rfl; have q1 := (blk_cell hxB 1).trans rfl; have z0 := blk_frozen hxB 0; have z1 := blk_frozen hxB 1; clear hgB hxB hbB))
      refine gen2 (φ := fun W => Code.wp _ _ _ _ W) (P := fun W => TB 27 w8 gB #[.bool false, .slice A8 xss8.length c8] W) ((GX.out.set 0 (.bool false)).set 1 (.slice A8 xss8.length c8)) ?_
      clear q0 q1 z0 z1 GX
      rintro V1 hV1
      have B9 := Lib.hid (below_step B8.out hV1.b)
      have S9 := Lib.hid (S8.out.below hV1.b)
      have X9 := Lib.hid hV1.hx
      clear hV1 S8 B8
      go_wp2_with fail
      (go_at_call 6; refine (shLoad_good false Am cm ml _ (HT.out.below (below_step BW.out B9.out)) (Kd.C_below CM.out B9.out) MSZ.out (by rw [MLE.out]; have := HLX.out; omega) MWF.out MOK.out).mono ?_; rintro e w10 ⟨A10, c10, yss, rfl, hs10, hb10⟩)
      have S10 := Lib.hid hs10
      have L10 := Lib.hid hs10.len
      have B10 := Lib.hid (below_step B9.out hb10)
      have S11 := Lib.hid (S9.out.below hb10)
      have X10 := Lib.hid (blk_below X9.out hb10)
      clear hs10 hb10 S9 X9 CM
      go_upto_region 17 with (first | ((with_reducible refine gate_dst (N := 15) rfl ?_); refine box_event ?hg (N := 15) ?hd (cs := #[.bool false, .slice none 0 0]) (t := 27) ?hr ?_; (case hd => rfl); (case hg => rfl); (case hr => first | (go_simp; done) | (go_simp; rfl)); intro gC hgC wC hxC hbC; have GX := Lib.hid (show TB 27 w10 gC #[.bool false, .slice none 0 0] wC from ⟨hbC, by rw [hgC]; exact Nat.le_refl _, hxC⟩); have q0 := (blk_cell hxC 0).trans rfl; have q1 := (blk_cell hxC 1).trans rfl; have z0 := blk_frozen hxC 0; have z1 := blk_frozen hxC 1; clear hgC hxC hbC))
      have GY := Lib.hid ((GX.out.set 0 (.bool false)).set 1 (.slice A10 yss.length c10))
      refine gen2 (φ := fun W => Code.wp _ _ _ _ W) (P := fun W => VH w gC gB B d os A8 c8 xss8 xs A10 c10 yss ml W) ⟨⟨below_step BW.out (below_step B10.out GY.out.b), blk_below X4.out (below_step B10.out GY.out.b), GY.out.hx, blk_below X10.out GY.out.b, S11.out.below GY.out.b⟩, S10.out.below GY.out.b⟩ ?_
      clear q0 q1 z0 z1 GX GY S10 S11 X10 B10 B9 BW X4
      rintro U hU
      have LU := Lib.hid hU
      clear hU
      have HL : Hid (xss8.length ≤ 1000) := Lib.hid (by rw [← L8.out]; have := HLX.out; omega)
      have HM : Hid (yss.length ≤ 1000) := Lib.hid (by rw [← L10.out, MLE.out]; have := HLX.out; omega)
      go_upto_region 17 with fail
      refine wp_region_noPanic ?_
      refine wp_region_held_drew (S := fun w' => PV8 w.heap.size gC gB (.slice B os.length d) (.bool false) (.slice A10 yss.length c10) (.bool false) (.slice A8 xss8.length c8) w') ?hm_r ?hS_r (fun hHeld => ?_)
      case hm_r => kernel_rfl
      case hS_r => exact PV8.of (LU.out.next (by with_reducible repeat (first | exact Below.refl _ _ | assumption | apply pw_below_drewN | apply Below.drew | apply below_alloc))).l
      refine wpAnyH_take (i := 0) (oi := ?or0) (v := ?vr0) ?hi_r0 ?k1_r0 ?k2_r0 ?k3_r0 (fun _ _ _ h => h) (Or.inl ⟨?g_r0, ?y_r0⟩) (by assumption) ?r_r0
      case hi_r0 => (simp only [List.getElem?_toArray, List.getElem?_cons_succ, List.getElem?_cons_zero]; rfl)
      case k1_r0 => kernel_rfl
      case k2_r0 => kernel_rfl
      case k3_r0 => kernel_rfl
      case g_r0 => rfl
      case y_r0 => (intro w hSw; (try dsimp only at hSw); first | (go_simp; done) | (go_simp; with_reducible rfl))
      (try simp only [Act.put, List.setIfInBounds_toArray, List.set_cons_zero, List.set_cons_succ])
      refine wpAnyH_take (i := 1) (oi := ?or1) (v := ?vr1) ?hi_r1 ?k1_r1 ?k2_r1 ?k3_r1 (fun _ _ _ h => h) (Or.inl ⟨?g_r1, ?y_r1⟩) (by assumption) ?r_r1
      case hi_r1 => (simp only [List.getElem?_toArray, List.getElem?_cons_succ, List.getElem?_cons_zero]; rfl)
      case k1_r1 => kernel_rfl
      case k2_r1 => kernel_rfl
      case k3_r1 => kernel_rfl
      case g_r1 => rfl
      case y_r1 => (intro w hSw; (try dsimp only at hSw); first | (go_simp; done) | (go_simp; with_reducible rfl))
      (try simp only [Act.put, List.setIfInBounds_toArray, List.set_cons_zero, List.set_cons_succ])
      refine wpAnyH_take (i := 3) (oi := ?or3) (v := ?vr3) ?hi_r3 ?k1_r3 ?k2_r3 ?k3_r3 (fun _ _ _ h => h) (Or.inl ⟨?g_r3, ?y_r3⟩) (by assumption) ?r_r3
      case hi_r3 => (simp only [List.getElem?_toArray, List.getElem?_cons_succ, List.getElem?_cons_zero]; rfl)
      case k1_r3 => kernel_rfl
      case k2_r3 => kernel_rfl
      case k3_r3 => kernel_rfl
      case g_r3 => rfl
      case y_r3 => (intro w hSw; (try dsimp only at hSw); first | (go_simp; done) | (go_simp; with_reducible rfl))
      (try simp only [Act.put, List.setIfInBounds_toArray, List.set_cons_zero, List.set_cons_succ])
      refine wpAnyH_take (i := 4) (oi := ?or4) (v := ?vr4) ?hi_r4 ?k1_r4 ?k2_r4 ?k3_r4 (fun _ _ _ h => h) (Or.inl ⟨?g_r4, ?y_r4⟩) (by assumption) ?r_r4
      case hi_r4 => (simp only [List.getElem?_toArray, List.getElem?_cons_succ, List.getElem?_cons_zero]; rfl)
      case k1_r4 => kernel_rfl
      case k2_r4 => kernel_rfl
      case k3_r4 => kernel_rfl
      case g_r4 => rfl
      case y_r4 => (intro w hSw; (try dsimp only at hSw); first | (go_simp; done) | (go_simp; with_reducible rfl))
      (try simp only [Act.put, List.setIfInBounds_toArray, List.set_cons_zero, List.set_cons_succ])
      refine wpAnyH_ready (rs := [2]) ?k1_r2 (by simp) ?r_r2
      case k1_r2 => kernel_rfl
      refine AllReadyH.cons (o := ?or2) ?hi_r2 (fun K hK => ?s_r2) ?m_r2
      case hi_r2 => (simp only [List.getElem?_toArray, List.getElem?_cons_succ, List.getElem?_cons_zero]; rfl)
      case m_r2 => exact AllReadyH.nil
      go_simp
      (go_at_call 12; refine (look_calls false A8 c8 xss8 xs 18 #[.pointer (some ⟨w.heap.size, 0, none⟩)] q _ eg2_ViewHides (PH.out _ (LU.out.next (by with_reducible repeat (first | exact Below.refl _ _ | assumption | apply pw_below_drewN | apply Below.drew | apply below_alloc))).l.x4 (LU.out.next (by with_reducible repeat (first | exact Below.refl _ _ | assumption | apply pw_below_drewN | apply Below.drew | apply below_alloc))).l.b) (LU.out.next (by with_reducible repeat (first | exact Below.refl _ _ | assumption | apply pw_below_drewN | apply Below.drew | apply below_alloc))).l.s (by have := HL.out; omega) HZ.out).mono ?_; rintro e wp ⟨vp, rfl, hrp, hbX⟩)
      have LC := Lib.hid (LU.out.next (by first | (with_reducible exact hbX) | exact below_step (Below.drew (Below.refl _ _)) hbX))
      obtain ⟨AP, cP, eP, hcP, hCP⟩ := Kd.R_reads hrp
      subst eP
      have CP := Lib.hid hCP
      clear hrp hCP hbX
      (try go_wp2_with fail)
      refine hK.out _ _ (PV8.of LC.out.l) (fun hHeld => ?_)
      clear hK K
      (try simp only [Act.put, List.setIfInBounds_toArray, List.set_cons_zero, List.set_cons_succ])
      refine wpAnyH_ready (rs := [5]) ?k1_r5 (by simp) ?r_r5
      case k1_r5 => kernel_rfl
      refine AllReadyH.cons (o := ?or5) ?hi_r5 (fun K hK => ?s_r5) ?m_r5
      case hi_r5 => (simp only [List.getElem?_toArray, List.getElem?_cons_succ, List.getElem?_cons_zero]; rfl)
      case m_r5 => exact AllReadyH.nil
      go_simp
      (go_at_call 12; refine (look_calls false A10 c10 yss ml 18 #[.pointer (some ⟨w.heap.size, 0, none⟩)] q _ eg2_ViewHides (PH.out _ LC.out.l.x4 LC.out.l.b) LC.out.s (by have := HM.out; omega) MSZ.out).mono ?_; rintro e wq ⟨vq, rfl, hrq, hbq⟩)
      replace LC := Lib.hid (LC.out.next hbq)
      replace CP := Lib.hid (Kd.C_below CP.out hbq)
      rw [MPI.out] at hrq
      obtain ⟨AQ, cQ, eQ, hcQ, hCQ⟩ := Kd.R_reads hrq
      subst eQ
      have CQ := Lib.hid hCQ
      clear hrq hCQ hbq
      (try go_wp2_with fail)
      refine hK.out _ _ (PV8.of LC.out.l) (fun hHeld => ?_)
      clear hK K
      (try simp only [Act.put, List.setIfInBounds_toArray, List.set_cons_zero, List.set_cons_succ])
      refine wpAnyH_take (i := 6) (oi := ?or6) (v := ?vr6) ?hi_r6 ?k1_r6 ?k2_r6 ?k3_r6 (fun _ _ _ h => h) (Or.inl ⟨?g_r6, ?y_r6⟩) (by assumption) ?r_r6
      case hi_r6 => (simp only [List.getElem?_toArray, List.getElem?_cons_succ, List.getElem?_cons_zero]; rfl)
      case k1_r6 => kernel_rfl
      case k2_r6 => kernel_rfl
      case k3_r6 => kernel_rfl
      case g_r6 => rfl
      case y_r6 => (intro w hSw; (try dsimp only at hSw); first | (go_simp; done) | (go_simp; with_reducible rfl))
      (try simp only [Act.put, List.setIfInBounds_toArray, List.set_cons_zero, List.set_cons_succ])
      refine wpAnyH_take (i := 7) (oi := ?or7) (v := ?vr7) ?hi_r7 ?k1_r7 ?k2_r7 ?k3_r7 (fun _ _ _ h => h) (Or.inl ⟨?g_r7, ?y_r7⟩) (by assumption) ?r_r7
      case hi_r7 => (simp only [List.getElem?_toArray, List.getElem?_cons_succ, List.getElem?_cons_zero]; rfl)
      case k1_r7 => kernel_rfl
      case k2_r7 => kernel_rfl
      case k3_r7 => kernel_rfl
      case g_r7 => rfl
      case y_r7 => (intro w hSw; (try dsimp only at hSw); first | (go_simp; done) | (go_simp; with_reducible rfl))
      (try simp only [Act.put, List.setIfInBounds_toArray, List.set_cons_zero, List.set_cons_succ])
      refine wpAnyH_done (by kernel_rfl) ?_ _
      refine NoPanic.normal ?_
      have LP : (xs.map (pieceG q)).length = xs.length := by rw [List.length_map]
      rw [LP] at CP CQ
      have HCP := Lib.hid CP.out
      have HCQ := Lib.hid CQ.out
      clear CP CQ LP hcP hcQ hHeld
      go_wp2
      go_loopw [113] (fun s57 wr => ∃ kk : Nat, kk ≤ xs.length ∧ s57 = .int .i64 (kk : Int) ∧ Hid (Below wq.heap.size wq wr)) (fun s57 _ => xs.length - cntV s57)
      case atStart => exact ⟨0, Nat.zero_le _, rfl, Lib.hid (Below.refl _ _)⟩
      case round =>
       obtain ⟨kk, hkk, rfl, BW⟩ := hrel
       by_cases hlt : kk < xs.length
       ·have d1 : decide ((kk : Int) < (xs.length : Int)) = true := by simp; omega
        have b1 : (0 : Int) ≤ (kk : Int) := by omega
        have b2 : (kk : Int) < (xs.length : Int) := by omega
        have w1_ : IntKind.i64.wrap ((kk : Int) + 1) = (kk : Int) + 1 := IntWalk.i64_in _ (by have := HLX.out; omega)
        obtain ⟨P, hP⟩ : ∃ P, (xs.map (pieceG q))[kk]? = some P := ⟨_, List.getElem?_eq_getElem (by rw [List.length_map]; exact hlt)⟩
        obtain ⟨ad1, e1, p0, p1, p2, p3⟩ := at_P (Kd.C_below HCP.out BW.out) hP hlt
        subst e1
        obtain ⟨ad2, e2, s0, s1, s2, s3⟩ := at_P (Kd.C_below HCQ.out BW.out) hP hlt
        subst e2
        clear hP
        go_upto_region 23 with (fail)
        go_quiet (fail)
        refine gen2 (φ := fun W => Exit.then _ _ Exit.normal _ W) (P := fun W => Below wr.heap.size wr W) (pw_below_drewN (Below.refl _ _) _) ?_
        rintro W9 hb9
        have B9 := Lib.hid (below_step BW.out hb9)
        clear hb9 BW p0 p1 p2 p3 s0 s1 s2 s3
        go_wp2
        go_roundw
        case rel => exact ⟨kk + 1, by omega, by go_num, B9⟩
        case measure =>
         simp only [cntV]
         omega
       ·have d1 : decide ((kk : Int) < (xs.length : Int)) = false := by simp; omega
        have LD := Lib.hid (LC.out.next BW.out)
        have CP := Lib.hid (Kd.C_below HCP.out BW.out)
        clear BW LC HCP HCQ
        have WL := Lib.hid (fun x hx => wideG_le (q := q) (OK.out.1 x hx) (HZ.out x hx).s2)
        have TB_ : Hid (stG q xs ≤ 1099511627776000) := Lib.hid (by have := stG_takes (q := q) (xs := xs) (by have := HLX.out; omega) WL.out xs.length; rw [List.take_length] at this; exact this)
        obtain ⟨T, hT⟩ : ∃ T : Nat, T = stG q xs := ⟨_, rfl⟩
        have ET := Lib.hid hT
        rw [← hT] at TB_
        clear hT WL
        go_wp2
        go_loopw [20] (fun s20 wr => ∃ F : Nat, s20 = .int .i64 (F : Int) ∧ Hid (F ≤ T + 150) ∧ Hid (VH w gC gB B d os A8 c8 xss8 xs A10 c10 yss ml wr) ∧ Hid (Kd.C kP wr AP xs.length (xs.map (pieceG q)))) (fun s20 _ => T + 300 - cntV s20)
        case atStart => exact ⟨0, rfl, Lib.hid (by omega), LD, CP⟩
        case round =>
         obtain ⟨F, rfl, FB, LX, CX⟩ := hrel
         go_wp2_with fail
         (go_at_call 16; refine (width_calls AP cP q xs _ CX.out (by have := HLX.out; omega) HZ.out OK.out.1).mono ?_; rintro e w12 ⟨rfl, hb12⟩)
         rw [← ET.out]
         have LY := Lib.hid (LX.out.next hb12)
         have CY := Lib.hid (Kd.C_below CX.out hb12)
         clear hb12 LX CX
         by_cases hF : F < T
         ·have dF : decide ((F : Int) < (T : Int)) = true := by simp; omega
          have wF : IntKind.i64.wrap ((F : Int) + 150) = (F : Int) + 150 := IntWalk.i64_in _ (by have := TB_.out; omega)
          have FR : Hid ((F : Int) ≤ 9223372036854775807) := Lib.hid (by have := TB_.out; omega)
          obtain ⟨rs, hrs⟩ : ∃ rs, rs = runsG q (max (F : Int) 0) (min 150 200) 0 xs := ⟨_, rfl⟩
          have hrl : rs.length ≤ 1099511627776 := by rw [hrs]; have := runsG_len q (max (F : Int) 0) (min 150 200) xs 0; have := HLX.out; omega
          obtain ⟨ks, hks⟩ := Go.Proofs.YtlcfhmnjdkhkoaaDoorW.PrintWords.Ev.rounds (same8_ev rs hrl)
          have KS := Lib.hid hks
          have RS := Lib.hid hrs
          have RS2 := Lib.hid (hrs.trans (MRU.out (max (F : Int) 0) (min 150 200)).symm)
          clear hks hrs hrl
          go_upto_region 29 with (fail)
          refine wp_region_noPanic ?_
          refine wp_region_held_drew (S := fun w' => PV8 w.heap.size gC gB (.slice B os.length d) (.bool false) (.slice A10 yss.length c10) (.bool false) (.slice A8 xss8.length c8) w') ?hm_z ?hS_z (fun hHeld => ?_)
          case hm_z => kernel_rfl
          case hS_z => exact PV8.of (LY.out.next (by with_reducible repeat (first | exact Below.refl _ _ | assumption | apply pw_below_drewN | apply Below.drew | apply below_alloc))).l
          refine wpAnyH_take (i := 0) (oi := ?oz0) (v := ?vz0) ?hi_z0 ?k1_z0 ?k2_z0 ?k3_z0 (fun _ _ _ h => h) (Or.inl ⟨?g_z0, ?y_z0⟩) (by assumption) ?r_z0
          case hi_z0 => (simp only [List.getElem?_toArray, List.getElem?_cons_succ, List.getElem?_cons_zero]; rfl)
          case k1_z0 => kernel_rfl
          case k2_z0 => kernel_rfl
          case k3_z0 => kernel_rfl
          case g_z0 => rfl
          case y_z0 => (intro w hSw; (try dsimp only at hSw); first | (go_simp; done) | (go_simp; with_reducible rfl))
          (try simp only [Act.put, List.setIfInBounds_toArray, List.set_cons_zero, List.set_cons_succ])
          refine wpAnyH_take (i := 1) (oi := ?oz1) (v := ?vz1) ?hi_z1 ?k1_z1 ?k2_z1 ?k3_z1 (fun _ _ _ h => h) (Or.inl ⟨?g_z1, ?y_z1⟩) (by assumption) ?r_z1
          case hi_z1 => (simp only [List.getElem?_toArray, List.getElem?_cons_succ, List.getElem?_cons_zero]; rfl)
          case k1_z1 => kernel_rfl
          case k2_z1 => kernel_rfl
          case k3_z1 => kernel_rfl
          case g_z1 => rfl
          case y_z1 => (intro w hSw; (try dsimp only at hSw); first | (go_simp; done) | (go_simp; with_reducible rfl))
          (try simp only [Act.put, List.setIfInBounds_toArray, List.set_cons_zero, List.set_cons_succ])
          refine wpAnyH_take (i := 2) (oi := ?oz2) (v := ?vz2) ?hi_z2 ?k1_z2 ?k2_z2 ?k3_z2 (fun _ _ _ h => h) (Or.inl ⟨?g_z2, ?y_z2⟩) (by assumption) ?r_z2
          case hi_z2 => (simp only [List.getElem?_toArray, List.getElem?_cons_succ, List.getElem?_cons_zero]; rfl)
          case k1_z2 => kernel_rfl
          case k2_z2 => kernel_rfl
          case k3_z2 => kernel_rfl
          case g_z2 => rfl
          case y_z2 => (intro w hSw; (try dsimp only at hSw); first | (go_simp; done) | (go_simp; with_reducible rfl))
          (try simp only [Act.put, List.setIfInBounds_toArray, List.set_cons_zero, List.set_cons_succ])
          refine wpAnyH_take (i := 4) (oi := ?oz4) (v := ?vz4) ?hi_z4 ?k1_z4 ?k2_z4 ?k3_z4 (fun _ _ _ h => h) (Or.inl ⟨?g_z4, ?y_z4⟩) (by assumption) ?r_z4
          case hi_z4 => (simp only [List.getElem?_toArray, List.getElem?_cons_succ, List.getElem?_cons_zero]; rfl)
          case k1_z4 => kernel_rfl
          case k2_z4 => kernel_rfl
          case k3_z4 => kernel_rfl
          case g_z4 => rfl
          case y_z4 => (intro w hSw; (try dsimp only at hSw); first | (go_simp; done) | (go_simp; with_reducible rfl))
          (try simp only [Act.put, List.setIfInBounds_toArray, List.set_cons_zero, List.set_cons_succ])
          refine wpAnyH_take (i := 5) (oi := ?oz5) (v := ?vz5) ?hi_z5 ?k1_z5 ?k2_z5 ?k3_z5 (fun _ _ _ h => h) (Or.inl ⟨?g_z5, ?y_z5⟩) (by assumption) ?r_z5
          case hi_z5 => (simp only [List.getElem?_toArray, List.getElem?_cons_succ, List.getElem?_cons_zero]; rfl)
          case k1_z5 => kernel_rfl
          case k2_z5 => kernel_rfl
          case k3_z5 => kernel_rfl
          case g_z5 => rfl
          case y_z5 => (intro w hSw; (try dsimp only at hSw); first | (go_simp; done) | (go_simp; with_reducible rfl))
          (try simp only [Act.put, List.setIfInBounds_toArray, List.set_cons_zero, List.set_cons_succ])
          refine wpAnyH_take (i := 6) (oi := ?oz6) (v := ?vz6) ?hi_z6 ?k1_z6 ?k2_z6 ?k3_z6 (fun _ _ _ h => h) (Or.inl ⟨?g_z6, ?y_z6⟩) (by assumption) ?r_z6
          case hi_z6 => (simp only [List.getElem?_toArray, List.getElem?_cons_succ, List.getElem?_cons_zero]; rfl)
          case k1_z6 => kernel_rfl
          case k2_z6 => kernel_rfl
          case k3_z6 => kernel_rfl
          case g_z6 => rfl
          case y_z6 => (intro w hSw; (try dsimp only at hSw); first | (go_simp; done) | (go_simp; with_reducible rfl))
          (try simp only [Act.put, List.setIfInBounds_toArray, List.set_cons_zero, List.set_cons_succ])
          refine wpAnyH_ready (rs := [3]) ?k1_z3 (by simp) ?r_z3
          case k1_z3 => kernel_rfl
          refine AllReadyH.cons (o := ?oz3) ?hi_z3 (fun K hK => ?s_z3) ?m_z3
          case hi_z3 => (simp only [List.getElem?_toArray, List.getElem?_cons_succ, List.getElem?_cons_zero]; rfl)
          case m_z3 => exact AllReadyH.nil
          go_simp
          (go_at_call 7; refine (runs_calls false A8 c8 xss8 xs 18 #[.pointer (some ⟨w.heap.size, 0, none⟩)] q (F : Int) 150 _ eg2_ViewHides (PH.out _ (LY.out.next (by with_reducible repeat (first | exact Below.refl _ _ | assumption | apply pw_below_drewN | apply Below.drew | apply below_alloc))).l.x4 (LY.out.next (by with_reducible repeat (first | exact Below.refl _ _ | assumption | apply pw_below_drewN | apply Below.drew | apply below_alloc))).l.b) (LY.out.next (by with_reducible repeat (first | exact Below.refl _ _ | assumption | apply pw_below_drewN | apply Below.drew | apply below_alloc))).l.s HL.out HZ.out OK.out.1 FR.out (by decide)).mono ?_; rintro e wp ⟨vp, rfl, hrp, hbX⟩)
          have BT := Lib.hid (show Below w12.heap.size w12 wp from (by first | (with_reducible exact hbX) | exact below_step (Below.drew (Below.refl _ _)) hbX))
          have LC := Lib.hid (LY.out.next BT.out)
          rw [← RS.out] at hrp
          obtain ⟨AR, cR, eP, hcP, hCP⟩ := Kd.R_reads hrp
          subst eP
          have CP := Lib.hid hCP
          clear hrp hCP hbX
          (try go_wp2_with fail)
          refine hK.out _ _ (PV8.of LC.out.l) (fun hHeld => ?_)
          clear hK K
          (try simp only [Act.put, List.setIfInBounds_toArray, List.set_cons_zero, List.set_cons_succ])
          refine wpAnyH_ready (rs := [7]) ?k1_z7 (by simp) ?r_z7
          case k1_z7 => kernel_rfl
          refine AllReadyH.cons (o := ?oz7) ?hi_z7 (fun K hK => ?s_z7) ?m_z7
          case hi_z7 => (simp only [List.getElem?_toArray, List.getElem?_cons_succ, List.getElem?_cons_zero]; rfl)
          case m_z7 => exact AllReadyH.nil
          go_simp
          (go_at_call 7; refine (runs_calls false A10 c10 yss ml 18 #[.pointer (some ⟨w.heap.size, 0, none⟩)] q (F : Int) 150 _ eg2_ViewHides (PH.out _ LC.out.l.x4 LC.out.l.b) LC.out.s HM.out MSZ.out MOK.out.1 FR.out (by decide)).mono ?_; rintro e wq2 ⟨vq, rfl, hrq, hbq⟩)
          replace LC := Lib.hid (LC.out.next hbq)
          replace BT := Lib.hid (below_step BT.out hbq)
          replace CP := Lib.hid (Kd.C_below CP.out hbq)
          rw [← RS2.out] at hrq
          obtain ⟨AQ, cQ, eQ, hcQ, hCQ⟩ := Kd.R_reads hrq
          subst eQ
          have CQ := Lib.hid hCQ
          clear hrq hCQ hbq
          (try go_wp2_with fail)
          refine hK.out _ _ (PV8.of LC.out.l) (fun hHeld => ?_)
          clear hK K
          (try simp only [Act.put, List.setIfInBounds_toArray, List.set_cons_zero, List.set_cons_succ])
          refine wpAnyH_ready (rs := [8]) ?k1_z8 (by simp) ?r_z8
          case k1_z8 => kernel_rfl
          refine AllReadyH.cons (o := ?oz8) ?hi_z8 (fun K hK => ?s_z8) ?m_z8
          case hi_z8 => (simp only [List.getElem?_toArray, List.getElem?_cons_succ, List.getElem?_cons_zero]; rfl)
          case m_z8 => exact AllReadyH.nil
          go_simp
          (go_at_call 14; refine (chancelref08_Same.calls ks AR cR rs AQ cQ rs true _ CP.out hcP CQ.out hcQ KS.out).mono ?_; rintro e wt ⟨rfl, hbt⟩)
          replace LC := Lib.hid (LC.out.next (below_drawn hbt))
          replace BT := Lib.hid (below_step BT.out (below_drawn hbt))
          clear hbt
          (try go_wp2_with fail)
          refine hK.out _ _ (PV8.of LC.out.l) (fun hHeld => ?_)
          clear hK K
          (try simp only [Act.put, List.setIfInBounds_toArray, List.set_cons_zero, List.set_cons_succ])
          refine wpAnyH_take (i := 9) (oi := ?oz9) (v := ?vz9) ?hi_z9 ?k1_z9 ?k2_z9 ?k3_z9 (fun _ _ _ h => h) (Or.inl ⟨?g_z9, ?y_z9⟩) (by assumption) ?r_z9
          case hi_z9 => (simp only [List.getElem?_toArray, List.getElem?_cons_succ, List.getElem?_cons_zero]; rfl)
          case k1_z9 => kernel_rfl
          case k2_z9 => kernel_rfl
          case k3_z9 => kernel_rfl
          case g_z9 => rfl
          case y_z9 => (intro w hSw; (try dsimp only at hSw); first | (go_simp; done) | (go_simp; with_reducible rfl))
          (try simp only [Act.put, List.setIfInBounds_toArray, List.set_cons_zero, List.set_cons_succ])
          refine wpAnyH_done (by kernel_rfl) ?_ _
          refine NoPanic.normal ?_
          have CZ := Lib.hid (Kd.C_below CY.out BT.out)
          clear CP CQ hcP hcQ hHeld KS RS RS2 CY LY
          go_wp2
          go_roundw
          case rel => exact ⟨F + 150, by go_num, Lib.hid (by omega), LC, CZ⟩
          case measure =>
           simp only [cntV]
           have := FB.out
           omega
         ·have dF : decide ((F : Int) < (T : Int)) = false := by simp; omega
          go_wp2
          go_ret
          exact ⟨rfl, LY.out.l.b⟩
end Go.Proofs.YtlcfhmnjdkhkoaaDoor.Seg
