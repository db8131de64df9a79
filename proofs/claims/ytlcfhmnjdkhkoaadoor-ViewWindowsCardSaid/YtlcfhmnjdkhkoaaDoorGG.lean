/- The walk of the law ViewRuns: it answers true. Conditions: the sizes that every row has; Go's two tables of utf8 as they are laid. -/
import Derived.Test.YtlcfhmnjdkhkoaaDoorGF
namespace Go.Proofs.YtlcfhmnjdkhkoaaDoor.Seg
open Go.RowKit Go.Proofs.YtlcfhmnjdkhkoaaDoorPl Go.Maps Go.Proofs.YtlcfhmnjdkhkoaaDoorW.PrintWords Go.Proofs.YtlcfhmnjdkhkoaaDoorW.PrintLast Go.Proofs.YtlcfhmnjdkhkoaaDoorW.PrintMore Go.Proofs.YtlcfhmnjdkhkoaaDoor.Rope Go.Proofs.YtlcfhmnjdkhkoaaDoor.PViewRuns Go.Proofs.YtlcfhmnjdkhkoaaDoor.Pure
set_option linter.unusedVariables false
set_option linter.unusedSimpArgs false
theorem rd_R {rs : List Run} {j : Nat} {r : Run} (h : rs[j]? = some r) : rd_T51 rs (j : Int) = r := by
 unfold rd_T51
 rw [Int.toNat_natCast, List.getD_eq_getElem?_getD, h]
 rfl
theorem same8_l0 (rs : List Run) (hn : rs.length ≤ 1099511627776) : ∀ (e i : Nat), rs.length - i = e → i ≤ rs.length → Ev (fun k => chancelref08_Same.l0 k rs rs (i : Int)) true
 | 0, i, he, hi => ev_next (f := fun _ => some true) (fun k => by simp only [chancelref08_Same.l0]; rw [if_neg (by omega)]) (Ev.now _)
 | e + 1, i, he, hi => by
  obtain ⟨r, hr⟩ : ∃ r, rs[i]? = some r := ⟨_, List.getElem?_eq_getElem (by omega)⟩
  have W1 := wrap_succ (i := i) (by omega)
  refine ev_next (fun k => ?_) (same8_l0 rs hn e (i + 1) (by omega) (by omega))
  simp only [chancelref08_Same.l0, rd_R hr]
  rw [if_pos (by omega), if_pos (by omega), if_pos (by omega), W1]
  simp
theorem same8_ev (rs : List Run) (hn : rs.length ≤ 1099511627776) : Ev (fun k => chancelref08_Same.f k rs rs) true :=
 Ev.congr (fun k => by unfold chancelref08_Same.f; rw [if_pos rfl]; rfl) (same8_l0 rs hn _ 0 rfl (by omega))
/-- What the law keeps: the box of the bools, another box, a sheet. -/
structure VL (w : World) (g4 g5 g9 : Nat) (B : Option Addr) (d : Nat) (os : List Bool) (c5 : Array Value) (t5 : TypeId) (A : Option Addr) (c : Nat) (xss : List (List Value)) (xs : List G) (W : World) : Prop where
 b : Below w.heap.size w W
 h4 : W.heap[g4]? = some (.cells #[.slice B os.length d] 23 (0, 0))
 h5 : W.heap[g5]? = some (.cells c5 t5 (0, 0))
 h9 : W.heap[g9]? = some (.cells #[.bool false, .slice A xss.length c] 27 (0, 0))
 s : Sh W A c xss xs
theorem VL.next {w W W' : World} {g4 g5 g9 : Nat} {B : Option Addr} {d : Nat} {os : List Bool} {c5 : Array Value} {t5 : TypeId} {A : Option Addr} {c : Nat} {xss : List (List Value)} {xs : List G} (h : VL w g4 g5 g9 B d os c5 t5 A c xss xs W) (hb : Below W.heap.size W W') : VL w g4 g5 g9 B d os c5 t5 A c xss xs W' :=
 ⟨below_step h.b hb, blk_below h.h4 hb, blk_below h.h5 hb, blk_below h.h9 hb, h.s.below hb⟩
theorem VL.x4 {w W : World} {g4 g5 g9 : Nat} {B : Option Addr} {d : Nat} {os : List Bool} {c5 : Array Value} {t5 : TypeId} {A : Option Addr} {c : Nat} {xss : List (List Value)} {xs : List G} (h : VL w g4 g5 g9 B d os c5 t5 A c xss xs W) : W.cell? ⟨g4, 0, none⟩ = some (.slice B os.length d) := (blk_cell h.h4 0).trans rfl
abbrev PV8 (g4 g5 g9 : Nat) (v4 v50 v51 v90 v91 : Value) (W : World) : Prop := W.cell? ⟨g4, 0, none⟩ = some v4 ∧ W.cell? ⟨g5, 0, none⟩ = some v50 ∧ W.cell? ⟨g5, 1, none⟩ = some v51 ∧ W.cell? ⟨g9, 0, none⟩ = some v90 ∧ W.cell? ⟨g9, 1, none⟩ = some v91
theorem PV8.of {w W : World} {g4 g5 g9 : Nat} {B : Option Addr} {d : Nat} {os : List Bool} {v50 v51 : Value} {t5 : TypeId} {A : Option Addr} {c : Nat} {xss : List (List Value)} {xs : List G} (h : VL w g4 g5 g9 B d os #[v50, v51] t5 A c xss xs W) : PV8 g4 g5 g9 (.slice B os.length d) v50 v51 (.bool false) (.slice A xss.length c) W :=
 ⟨h.x4, (blk_cell h.h5 0).trans rfl, (blk_cell h.h5 1).trans rfl, (blk_cell h.h9 0).trans rfl, (blk_cell h.h9 1).trans rfl⟩
set_option maxRecDepth 1000000 in
set_option maxHeartbeats 8000000 in
theorem viewRuns_walk (A : Option Addr) (c : Nat) (xs : List G) (B : Option Addr) (d : Nat) (os : List Bool) (i0 i1 : Int) (w : World) (hT : Tabs w) (hr : Kd.C kG w A xs.length xs) (hc : xs.length ≤ c) (ho : Kd.C Kd.bool w B os.length os) (hd : os.length ≤ d) (hn : xs.length ≤ 2932031007402) (hz : ∀ x ∈ xs, x.f2.size ≤ 140737488355328 ∧ x.f3.length ≤ 140737488355328 ∧ x.f4.length ≤ 140737488355328) (hwf : ∀ x ∈ xs, (Lit.int .i64 x.f0).wf = true) (h0 : i0 ≤ 9223372036854775807) (h1 : -9223372036854775808 ≤ i1) :
  Calls Tryd.prog 3 #[.slice A xs.length c, .slice B os.length d, .agg #[.int .i64 i0, .int .i64 i1]] w fun e w' => e = .returned (.bool true) ∧ Below w.heap.size w w' := by
 obtain ⟨bs, hbs, hsm⟩ := smallS_ev xs hn hz
 obtain ⟨k1, hk1⟩ := Go.Proofs.YtlcfhmnjdkhkoaaDoorW.PrintWords.Ev.rounds hbs
 have HT := Lib.hid hT
 have HR := Lib.hid hr
 have HO := Lib.hid ho
 have K1 := Lib.hid hk1
 have SM := Lib.hid hsm
 have WF := Lib.hid hwf
 have I0 := Lib.hid h0
 have I1 := Lib.hid h1
 clear hT hr ho hz hbs hk1 hsm hwf h0 h1
 go_enter Tryd.func3, Tryd.ntmps3
 go_upto_region 1 with fail
 have B00 := Lib.hid (below_alloc (Below.refl w.heap.size w) (.cells #[.slice B os.length d] 23))
 have B01 := Lib.hid (below_alloc B00.out (.cells #[.int .i64 i0, .int .i64 i1] 24))
 have X4 := Lib.hid (blk_alloc (blk_new w (.cells #[.slice B os.length d] 23)) (.cells #[.int .i64 i0, .int .i64 i1] 24))
 have X5 := Lib.hid (blk_new (w.alloc (.cells #[.slice B os.length d] 23)) (.cells #[.int .i64 i0, .int .i64 i1] 24))
 refine gen2 (φ := fun W => Code.wp _ _ _ _ W) (P := fun W => Below w.heap.size w W ∧ W.heap[w.heap.size]? = some (.cells #[.slice B os.length d] 23 (0, 0)) ∧ W.heap[w.heap.size + 1]? = some (.cells #[.int .i64 i0, .int .i64 i1] 24 (0, 0))) ⟨B01.out, X4.out, by simpa using X5.out⟩ ?_
 clear B00 B01 X4 X5
 rintro W0 ⟨hb0, h40, h50⟩
 have B0 := Lib.hid hb0
 have X4 := Lib.hid h40
 have X5 := Lib.hid h50
 clear hb0 h40 h50
 go_wp2_with fail
 have BS := Lib.hid (below_alloc (Below.refl W0.heap.size W0) (.cells #[.int .i64 1, .int .i64 0, .string ⟨#[97, 98]⟩, .slice none 0 0, .slice none 0 0] 33))
 (go_at_call 6; refine (shLoad_good false _ 1 [tab] _ (HT.out.below (below_step B0.out BS.out)) (C_oneG (blk_newS rfl)) tabs_sz (by decide) tabs_wf tabs_ok).mono ?_; rintro e w1 ⟨A1, c1, xss1, rfl, hs1, hb1⟩)
 have S1 := Lib.hid hs1
 have L1 := Lib.hid hs1.len
 have B1 := Lib.hid (below_step BS.out hb1)
 clear hs1 hb1 BS
 go_upto_region 2 with (first | ((with_reducible refine gate_dst (N := 7) rfl ?_); refine box_event ?hg (N := 7) ?hd (cs := #[.bool false, .slice none 0 0]) (t := 27) ?hr ?_; (case hd => rfl); (case hg => rfl); (case hr => first | (go_simp; done) | (go_simp; rfl)); intro gA hgA wA hxA hbA; have GX := Lib.hid (show TB 27 w1 gA #[.bool false, .slice none 0 0] wA from ⟨hbA, by rw [hgA]; exact Nat.le_refl _, hxA⟩); have q0 := (blk_cell hxA 0).trans rfl; have q1 := (blk_cell hxA 1).trans rfl; have z0 := blk_frozen hxA 0; have z1 := blk_frozen hxA 1; clear hgA hxA hbA))
 refine gen2 (φ := fun W => Code.wp _ _ _ _ W) (P := fun W => TB 27 w1 gA #[.bool false, .slice A1 xss1.length c1] W) ((GX.out.set 0 (.bool false)).set 1 (.slice A1 xss1.length c1)) ?_
 clear q0 q1 z0 z1 GX
 rintro V hV
 have B2 := Lib.hid (below_step B1.out hV.b)
 have S2 := Lib.hid (S1.out.below hV.b)
 have y0 := (blk_cell hV.hx 0).trans rfl
 have y1 := (blk_cell hV.hx 1).trans rfl
 clear hV S1 B1
 go_wp2_with fail
 (go_at_call 7; refine (runs_calls false A1 c1 xss1 [tab] 8 #[] (fun _ => true) 1 1 _ eg1_ViewRuns (pconst_ViewRuns _) S2.out (by rw [← L1.out]; decide) tabs_sz (fun x hx => tabs_ok.1 x hx) (by decide) (by decide)).mono ?_; rintro e w2 ⟨v2, rfl, hr2, hb2⟩)
 have er : runsG (fun _ => true) (max 1 0) (min 1 200) 0 [tab] = [⟨1, 0, true, ⟨#[98]⟩⟩] := tab_runs
 rw [er] at hr2
 obtain ⟨A2, c2, e2⟩ := Kd.R_slice hr2
 have e2' : v2 = .slice A2 1 c2 := e2
 subst e2'
 have B3 := Lib.hid (below_step B2.out hb2)
 clear er hr2 hb2 e2 y0 y1 S2 B2 L1
 go_wp2_with fail
 (go_at_call 9; refine (chancellaw06_Small.calls k1 A c xs bs _ (Kd.C_below HR.out (below_step B0.out B3.out)) hc K1.out).mono ?_; rintro e w3 ⟨rfl, hb3⟩)
 have B4 := Lib.hid (below_step B3.out hb3)
 clear hb3 B3 K1
 cases bs with
 | false =>
  go_wp2
  go_ret
  exact ⟨rfl, below_step B0.out B4.out⟩
 | true =>
  obtain ⟨hl40, hz2⟩ := SM.out rfl
  have HZ := Lib.hid hz2
  clear hz2 SM
  go_wp2_with fail
  (go_at_call 10; refine (right6_calls A c xs _ (Kd.C_below HR.out (below_step B0.out B4.out)) hc HZ.out (by omega)).mono ?_; rintro e w4 ⟨b9, rfl, hi9, hb4⟩)
  have B5 := Lib.hid (below_step B4.out hb4)
  clear hb4 B4
  cases b9 with
  | false =>
   clear hi9
   go_wp2
   go_ret
   exact ⟨rfl, below_step B0.out B5.out⟩
  | true =>
   have OK := Lib.hid (hi9.1 rfl)
   clear hi9
   have x4 := (blk_cell (blk_below X4.out B5.out) 0).trans rfl
   by_cases h20 : 20 < os.length
   ·have d20 : decide ((20 : Int) < (os.length : Int)) = true := by simp; omega
    clear h20
    go_wp2
    go_ret
    exact ⟨rfl, below_step B0.out B5.out⟩
   ·have d20 : decide ((20 : Int) < (os.length : Int)) = false := by simp; omega
    go_wp2_with fail
    (go_at_call 6; refine (shLoad_good false A c xs _ (HT.out.below (below_step B0.out B5.out)) (Kd.C_below HR.out (below_step B0.out B5.out)) HZ.out (by omega) WF.out OK.out).mono ?_; rintro e w8 ⟨A8, c8, xss8, rfl, hs8, hb8⟩)
    have S8 := Lib.hid hs8
    have L8 := Lib.hid hs8.len
    have B8 := Lib.hid (below_step B5.out hb8)
    clear hs8 hb8 B5 x4
    go_upto_region 7 with (first | ((with_reducible refine gate_dst (N := 9) rfl ?_); refine box_event ?hg (N := 9) ?hd (cs := #[.bool false, .slice none 0 0]) (t := 27) ?hr ?_; (case hd => rfl); (case hg => rfl); (case hr => first | (go_simp; done) | (go_simp; rfl)); intro gB hgB wB hxB hbB; have GX := Lib.hid (show TB 27 w8 gB #[.bool false, .slice none 0 0] wB from ⟨hbB, by rw [hgB]; exact Nat.le_refl _, hxB⟩); have q0 := (blk_cell hxB 0).trans rfl; have q1 := (blk_cell hxB 1).trans rfl; have z0 := blk_frozen hxB 0; have z1 := blk_frozen hxB 1; clear hgB hxB hbB))
    have GY := Lib.hid ((GX.out.set 0 (.bool false)).set 1 (.slice A8 xss8.length c8))
    refine gen2 (φ := fun W => Code.wp _ _ _ _ W) (P := fun W => VL w w.heap.size (w.heap.size + 1) gB B d os #[.int .i64 i0, .int .i64 i1] 24 A8 c8 xss8 xs W) ⟨below_step B0.out (below_step B8.out GY.out.b), blk_below X4.out (below_step B8.out GY.out.b), blk_below X5.out (below_step B8.out GY.out.b), GY.out.hx, S8.out.below GY.out.b⟩ ?_
    clear q0 q1 z0 z1 GX GY S8 B8 X4 X5 B0
    rintro U hU
    have LU := Lib.hid hU
    clear hU
    have HL : xss8.length ≤ 1000 := by rw [← L8.out]; omega
    have HLO : os.length ≤ 1099511627776 := by omega
    have HLX : xs.length ≤ 1000 := by omega
    go_upto_region 8 with fail
    refine wp_region_noPanic ?_
    refine wp_region_held_drew (S := fun w' => PV8 w.heap.size (w.heap.size + 1) gB (.slice B os.length d) (.int .i64 i0) (.int .i64 i1) (.bool false) (.slice A8 xss8.length c8) w') ?hm_r ?hS_r (fun hHeld => ?_)
    case hm_r => kernel_rfl
    case hS_r => exact PV8.of (LU.out.next (by with_reducible repeat (first | exact Below.refl _ _ | assumption | apply pw_below_drewN | apply Below.drew | apply below_alloc)))
    refine wpAnyH_take (i := 0) (oi := ?or0) (v := ?vr0) ?hi_r0 ?k1_r0 ?k2_r0 ?k3_r0 (fun _ _ _ h => h) (Or.inl ⟨?g_r0, ?y_r0⟩) (by assumption) ?r_r0
    case hi_r0 => (simp only [List.getElem?_toArray, List.getElem?_cons_succ, List.getElem?_cons_zero]; rfl)
    case k1_r0 => kernel_rfl
    case k2_r0 => kernel_rfl
    case k3_r0 => kernel_rfl
    case g_r0 => rfl
    case y_r0 => (intro w hSw; (try dsimp only at hSw); first | (go_simp; done) | (go_simp; with_reducible rfl))
    (try simp only [Act.put, List.setIfInBounds_toArray, List.set_cons_zero, List.set_cons_succ])
    refine wpAnyH_take (i := 1) (oi := ?or1) (v := ?vr1) ?hi_r1 ?k1_r1 ?k2_r1 ?k3_r1 (fun _ _ _ h => h) (Or.inl ⟨?g_r1, ?y_r1⟩) (by assumption) ?r_r1
    case hi_r1 => (simp only [List.getElem?_toArray, List.getElem?_cons_succ, List.getElem?_cons_zero]; rfl)
    case k1_r1 => kernel_rfl
    case k2_r1 => kernel_rfl
    case k3_r1 => kernel_rfl
    case g_r1 => rfl
    case y_r1 => (intro w hSw; (try dsimp only at hSw); first | (go_simp; done) | (go_simp; with_reducible rfl))
    (try simp only [Act.put, List.setIfInBounds_toArray, List.set_cons_zero, List.set_cons_succ])
    refine wpAnyH_take (i := 3) (oi := ?or3) (v := ?vr3) ?hi_r3 ?k1_r3 ?k2_r3 ?k3_r3 (fun _ _ _ h => h) (Or.inl ⟨?g_r3, ?y_r3⟩) (by assumption) ?r_r3
    case hi_r3 => (simp only [List.getElem?_toArray, List.getElem?_cons_succ, List.getElem?_cons_zero]; rfl)
    case k1_r3 => kernel_rfl
    case k2_r3 => kernel_rfl
    case k3_r3 => kernel_rfl
    case g_r3 => rfl
    case y_r3 => (intro w hSw; (try dsimp only at hSw); first | (go_simp; done) | (go_simp; with_reducible rfl))
    (try simp only [Act.put, List.setIfInBounds_toArray, List.set_cons_zero, List.set_cons_succ])
    refine wpAnyH_take (i := 4) (oi := ?or4) (v := ?vr4) ?hi_r4 ?k1_r4 ?k2_r4 ?k3_r4 (fun _ _ _ h => h) (Or.inl ⟨?g_r4, ?y_r4⟩) (by assumption) ?r_r4
    case hi_r4 => (simp only [List.getElem?_toArray, List.getElem?_cons_succ, List.getElem?_cons_zero]; rfl)
    case k1_r4 => kernel_rfl
    case k2_r4 => kernel_rfl
    case k3_r4 => kernel_rfl
    case g_r4 => rfl
    case y_r4 => (intro w hSw; (try dsimp only at hSw); first | (go_simp; done) | (go_simp; with_reducible rfl))
    (try simp only [Act.put, List.setIfInBounds_toArray, List.set_cons_zero, List.set_cons_succ])
    refine wpAnyH_ready (rs := [2]) ?k1_r2 (by simp) ?r_r2
    case k1_r2 => kernel_rfl
    refine AllReadyH.cons (o := ?or2) ?hi_r2 (fun K hK => ?s_r2) ?m_r2
    case hi_r2 => (simp only [List.getElem?_toArray, List.getElem?_cons_succ, List.getElem?_cons_zero]; rfl)
    case m_r2 => exact AllReadyH.nil
    go_simp
    (go_at_call 12; refine (look_calls false A8 c8 xss8 xs 11 #[.pointer (some ⟨w.heap.size, 0, none⟩)] (qO os) _ eg2_ViewRuns (popen_ViewRuns (LU.out.next (by with_reducible repeat (first | exact Below.refl _ _ | assumption | apply pw_below_drewN | apply Below.drew | apply below_alloc))).x4 (Kd.C_below HO.out (LU.out.next (by with_reducible repeat (first | exact Below.refl _ _ | assumption | apply pw_below_drewN | apply Below.drew | apply below_alloc))).b)) (LU.out.next (by with_reducible repeat (first | exact Below.refl _ _ | assumption | apply pw_below_drewN | apply Below.drew | apply below_alloc))).s (by omega) HZ.out).mono ?_; rintro e wp ⟨vp, rfl, hrp, hbX⟩)
    have LC := Lib.hid (LU.out.next (by first | (with_reducible exact hbX) | exact below_step (Below.drew (Below.refl _ _)) hbX))
    obtain ⟨AP, cP, eP, hcP, hCP⟩ := Kd.R_reads hrp
    subst eP
    have CP := Lib.hid hCP
    clear hrp hCP hbX
    (try go_wp2_with fail)
    refine hK.out _ _ (PV8.of LC.out) (fun hHeld => ?_)
    clear hK K
    (try simp only [Act.put, List.setIfInBounds_toArray, List.set_cons_zero, List.set_cons_succ])
    refine wpAnyH_ready (rs := [5]) ?k1_r5 (by simp) ?r_r5
    case k1_r5 => kernel_rfl
    refine AllReadyH.cons (o := ?or5) ?hi_r5 (fun K hK => ?s_r5) ?m_r5
    case hi_r5 => (simp only [List.getElem?_toArray, List.getElem?_cons_succ, List.getElem?_cons_zero]; rfl)
    case m_r5 => exact AllReadyH.nil
    go_simp
    (go_at_call 13; refine (look8_calls A c xs B d os _ (Kd.C_below HR.out LC.out.b) hc (Kd.C_below HO.out LC.out.b) hd HLX HLO HZ.out OK.out.1).mono ?_; rintro e wq ⟨vq, rfl, hrq, hbq⟩)
    replace LC := Lib.hid (LC.out.next hbq)
    replace CP := Lib.hid (Kd.C_below CP.out hbq)
    obtain ⟨AQ, cQ, eQ, hcQ, hCQ⟩ := Kd.R_reads hrq
    subst eQ
    have CQ := Lib.hid hCQ
    clear hrq hCQ hbq
    (try go_wp2_with fail)
    refine hK.out _ _ (PV8.of LC.out) (fun hHeld => ?_)
    clear hK K
    (try simp only [Act.put, List.setIfInBounds_toArray, List.set_cons_zero, List.set_cons_succ])
    refine wpAnyH_take (i := 6) (oi := ?or6) (v := ?vr6) ?hi_r6 ?k1_r6 ?k2_r6 ?k3_r6 (fun _ _ _ h => h) (Or.inl ⟨?g_r6, ?y_r6⟩) (by assumption) ?r_r6
    case hi_r6 => (simp only [List.getElem?_toArray, List.getElem?_cons_succ, List.getElem?_cons_zero]; rfl)
    case k1_r6 => kernel_rfl
    case k2_r6 => kernel_rfl
    case k3_r6 => kernel_rfl
    case g_r6 => rfl
    case y_r6 => (intro w hSw; (try dsimp only at hSw); first | (go_simp; done) | (go_simp; with_reducible rfl))
    (try simp only [Act.put, List.setIfInBounds_toArray, List.set_cons_zero, List.set_cons_succ])
    refine wpAnyH_take (i := 7) (oi := ?or7) (v := ?vr7) ?hi_r7 ?k1_r7 ?k2_r7 ?k3_r7 (fun _ _ _ h => h) (Or.inl ⟨?g_r7, ?y_r7⟩) (by assumption) ?r_r7
    case hi_r7 => (simp only [List.getElem?_toArray, List.getElem?_cons_succ, List.getElem?_cons_zero]; rfl)
    case k1_r7 => kernel_rfl
    case k2_r7 => kernel_rfl
    case k3_r7 => kernel_rfl
    case g_r7 => rfl
    case y_r7 => (intro w hSw; (try dsimp only at hSw); first | (go_simp; done) | (go_simp; with_reducible rfl))
    (try simp only [Act.put, List.setIfInBounds_toArray, List.set_cons_zero, List.set_cons_succ])
    refine wpAnyH_done (by kernel_rfl) ?_ _
    refine NoPanic.normal ?_
    have LP : (xs.map (pieceG (qO os))).length = xs.length := by rw [List.length_map]
    rw [LP] at CP CQ
    have HCP := Lib.hid CP.out
    have HCQ := Lib.hid CQ.out
    clear CP CQ LP hcP hcQ hHeld
    go_wp2
    go_loopw [57] (fun s57 wr => ∃ kk : Nat, kk ≤ xs.length ∧ s57 = .int .i64 (kk : Int) ∧ Hid (Below wq.heap.size wq wr)) (fun s57 _ => xs.length - cntV s57)
    case atStart => exact ⟨0, Nat.zero_le _, rfl, Lib.hid (Below.refl _ _)⟩
    case round =>
     obtain ⟨kk, hkk, rfl, BW⟩ := hrel
     by_cases hlt : kk < xs.length
     ·have d1 : decide ((kk : Int) < (xs.length : Int)) = true := by simp; omega
      have b1 : (0 : Int) ≤ (kk : Int) := by omega
      have b2 : (kk : Int) < (xs.length : Int) := by omega
      obtain ⟨P, hP⟩ : ∃ P, (xs.map (pieceG (qO os)))[kk]? = some P := ⟨_, List.getElem?_eq_getElem (by rw [List.length_map]; exact hlt)⟩
      obtain ⟨ad1, e1, p0, p1, p2, p3⟩ := at_P (Kd.C_below HCP.out BW.out) hP hlt
      subst e1
      obtain ⟨ad2, e2, s0, s1, s2, s3⟩ := at_P (Kd.C_below HCQ.out BW.out) hP hlt
      subst e2
      clear hP
      go_upto_region 14 with (fail)
      go_quiet (fail)
      refine gen2 (φ := fun W => Exit.then _ _ Exit.normal _ W) (P := fun W => Below wr.heap.size wr W) (pw_below_drewN (Below.refl _ _) _) ?_
      rintro W9 hb9
      have B9 := Lib.hid (below_step BW.out hb9)
      clear hb9 BW p0 p1 p2 p3 s0 s1 s2 s3
      go_wp2
      go_roundw
      case rel => exact ⟨kk + 1, by omega, by go_num, B9⟩
      case measure =>
       simp only [cntV]
       omega
     ·have d1 : decide ((kk : Int) < (xs.length : Int)) = false := by simp; omega
      have LD := Lib.hid (LC.out.next BW.out)
      clear BW LC HCP HCQ
      obtain ⟨rs, hrs⟩ : ∃ rs, rs = runsG (qO os) (max i0 0) (min i1 200) 0 xs := ⟨_, rfl⟩
      have hrl : rs.length ≤ 1099511627776 := by rw [hrs]; have := runsG_len (qO os) (max i0 0) (min i1 200) xs 0; omega
      obtain ⟨ks, hks⟩ := Go.Proofs.YtlcfhmnjdkhkoaaDoorW.PrintWords.Ev.rounds (same8_ev rs hrl)
      have KS := Lib.hid hks
      have RS := Lib.hid hrs
      clear hks hrs hrl
      go_upto_region 17 with (fail)
      refine wp_region_noPanic ?_
      refine wp_region_held_drew (S := fun w' => PV8 w.heap.size (w.heap.size + 1) gB (.slice B os.length d) (.int .i64 i0) (.int .i64 i1) (.bool false) (.slice A8 xss8.length c8) w') ?hm_z ?hS_z (fun hHeld => ?_)
      case hm_z => kernel_rfl
      case hS_z => exact PV8.of (LD.out.next (by with_reducible repeat (first | exact Below.refl _ _ | assumption | apply pw_below_drewN | apply Below.drew | apply below_alloc)))
      refine wpAnyH_take (i := 0) (oi := ?oz0) (v := ?vz0) ?hi_z0 ?k1_z0 ?k2_z0 ?k3_z0 (fun _ _ _ h => h) (Or.inl ⟨?g_z0, ?y_z0⟩) (by assumption) ?r_z0
      case hi_z0 => (simp only [List.getElem?_toArray, List.getElem?_cons_succ, List.getElem?_cons_zero]; rfl)
      case k1_z0 => kernel_rfl
      case k2_z0 => kernel_rfl
      case k3_z0 => kernel_rfl
      case g_z0 => rfl
      case y_z0 => (intro w hSw; (try dsimp only at hSw); first | (go_simp; done) | (go_simp; with_reducible rfl))
      (try simp only [Act.put, List.setIfInBounds_toArray, List.set_cons_zero, List.set_cons_succ])
      refine wpAnyH_take (i := 1) (oi := ?oz1) (v := ?vz1) ?hi_z1 ?k1_z1 ?k2_z1 ?k3_z1 (fun _ _ _ h => h) (Or.inl ⟨?g_z1, ?y_z1⟩) (by assumption) ?r_z1
      case hi_z1 => (simp only [List.getElem?_toArray, List.getElem?_cons_succ, List.getElem?_cons_zero]; rfl)
      case k1_z1 => kernel_rfl
      case k2_z1 => kernel_rfl
      case k3_z1 => kernel_rfl
      case g_z1 => rfl
      case y_z1 => (intro w hSw; (try dsimp only at hSw); first | (go_simp; done) | (go_simp; with_reducible rfl))
      (try simp only [Act.put, List.setIfInBounds_toArray, List.set_cons_zero, List.set_cons_succ])
      refine wpAnyH_take (i := 2) (oi := ?oz2) (v := ?vz2) ?hi_z2 ?k1_z2 ?k2_z2 ?k3_z2 (fun _ _ _ h => h) (Or.inl ⟨?g_z2, ?y_z2⟩) (by assumption) ?r_z2
      case hi_z2 => (simp only [List.getElem?_toArray, List.getElem?_cons_succ, List.getElem?_cons_zero]; rfl)
      case k1_z2 => kernel_rfl
      case k2_z2 => kernel_rfl
      case k3_z2 => kernel_rfl
      case g_z2 => rfl
      case y_z2 => (intro w hSw; (try dsimp only at hSw); first | (go_simp; done) | (go_simp; with_reducible rfl))
      (try simp only [Act.put, List.setIfInBounds_toArray, List.set_cons_zero, List.set_cons_succ])
      refine wpAnyH_take (i := 3) (oi := ?oz3) (v := ?vz3) ?hi_z3 ?k1_z3 ?k2_z3 ?k3_z3 (fun _ _ _ h => h) (Or.inl ⟨?g_z3, ?y_z3⟩) (by assumption) ?r_z3
      case hi_z3 => (simp only [List.getElem?_toArray, List.getElem?_cons_succ, List.getElem?_cons_zero]; rfl)
      case k1_z3 => kernel_rfl
      case k2_z3 => kernel_rfl
      case k3_z3 => kernel_rfl
      case g_z3 => rfl
      case y_z3 => (intro w hSw; (try dsimp only at hSw); first | (go_simp; done) | (go_simp; with_reducible rfl))
      (try simp only [Act.put, List.setIfInBounds_toArray, List.set_cons_zero, List.set_cons_succ])
      refine wpAnyH_take (i := 4) (oi := ?oz4) (v := ?vz4) ?hi_z4 ?k1_z4 ?k2_z4 ?k3_z4 (fun _ _ _ h => h) (Or.inl ⟨?g_z4, ?y_z4⟩) (by assumption) ?r_z4
      case hi_z4 => (simp only [List.getElem?_toArray, List.getElem?_cons_succ, List.getElem?_cons_zero]; rfl)
      case k1_z4 => kernel_rfl
      case k2_z4 => kernel_rfl
      case k3_z4 => kernel_rfl
      case g_z4 => rfl
      case y_z4 => (intro w hSw; (try dsimp only at hSw); first | (go_simp; done) | (go_simp; with_reducible rfl))
      (try simp only [Act.put, List.setIfInBounds_toArray, List.set_cons_zero, List.set_cons_succ])
      refine wpAnyH_take (i := 5) (oi := ?oz5) (v := ?vz5) ?hi_z5 ?k1_z5 ?k2_z5 ?k3_z5 (fun _ _ _ h => h) (Or.inl ⟨?g_z5, ?y_z5⟩) (by assumption) ?r_z5
      case hi_z5 => (simp only [List.getElem?_toArray, List.getElem?_cons_succ, List.getElem?_cons_zero]; rfl)
      case k1_z5 => kernel_rfl
      case k2_z5 => kernel_rfl
      case k3_z5 => kernel_rfl
      case g_z5 => rfl
      case y_z5 => (intro w hSw; (try dsimp only at hSw); first | (go_simp; done) | (go_simp; with_reducible rfl))
      (try simp only [Act.put, List.setIfInBounds_toArray, List.set_cons_zero, List.set_cons_succ])
      refine wpAnyH_take (i := 7) (oi := ?oz7) (v := ?vz7) ?hi_z7 ?k1_z7 ?k2_z7 ?k3_z7 (fun _ _ _ h => h) (Or.inl ⟨?g_z7, ?y_z7⟩) (by assumption) ?r_z7
      case hi_z7 => (simp only [List.getElem?_toArray, List.getElem?_cons_succ, List.getElem?_cons_zero]; rfl)
      case k1_z7 => kernel_rfl
      case k2_z7 => kernel_rfl
      case k3_z7 => kernel_rfl
      case g_z7 => rfl
      case y_z7 => (intro w hSw; (try dsimp only at hSw); first | (go_simp; done) | (go_simp; with_reducible rfl))
      (try simp only [Act.put, List.setIfInBounds_toArray, List.set_cons_zero, List.set_cons_succ])
      refine wpAnyH_take (i := 8) (oi := ?oz8) (v := ?vz8) ?hi_z8 ?k1_z8 ?k2_z8 ?k3_z8 (fun _ _ _ h => h) (Or.inl ⟨?g_z8, ?y_z8⟩) (by assumption) ?r_z8
      case hi_z8 => (simp only [List.getElem?_toArray, List.getElem?_cons_succ, List.getElem?_cons_zero]; rfl)
      case k1_z8 => kernel_rfl
      case k2_z8 => kernel_rfl
      case k3_z8 => kernel_rfl
      case g_z8 => rfl
      case y_z8 => (intro w hSw; (try dsimp only at hSw); first | (go_simp; done) | (go_simp; with_reducible rfl))
      (try simp only [Act.put, List.setIfInBounds_toArray, List.set_cons_zero, List.set_cons_succ])
      refine wpAnyH_take (i := 9) (oi := ?oz9) (v := ?vz9) ?hi_z9 ?k1_z9 ?k2_z9 ?k3_z9 (fun _ _ _ h => h) (Or.inl ⟨?g_z9, ?y_z9⟩) (by assumption) ?r_z9
      case hi_z9 => (simp only [List.getElem?_toArray, List.getElem?_cons_succ, List.getElem?_cons_zero]; rfl)
      case k1_z9 => kernel_rfl
      case k2_z9 => kernel_rfl
      case k3_z9 => kernel_rfl
      case g_z9 => rfl
      case y_z9 => (intro w hSw; (try dsimp only at hSw); first | (go_simp; done) | (go_simp; with_reducible rfl))
      (try simp only [Act.put, List.setIfInBounds_toArray, List.set_cons_zero, List.set_cons_succ])
      refine wpAnyH_take (i := 10) (oi := ?oz10) (v := ?vz10) ?hi_z10 ?k1_z10 ?k2_z10 ?k3_z10 (fun _ _ _ h => h) (Or.inl ⟨?g_z10, ?y_z10⟩) (by assumption) ?r_z10
      case hi_z10 => (simp only [List.getElem?_toArray, List.getElem?_cons_succ, List.getElem?_cons_zero]; rfl)
      case k1_z10 => kernel_rfl
      case k2_z10 => kernel_rfl
      case k3_z10 => kernel_rfl
      case g_z10 => rfl
      case y_z10 => (intro w hSw; (try dsimp only at hSw); first | (go_simp; done) | (go_simp; with_reducible rfl))
      (try simp only [Act.put, List.setIfInBounds_toArray, List.set_cons_zero, List.set_cons_succ])
      refine wpAnyH_take (i := 11) (oi := ?oz11) (v := ?vz11) ?hi_z11 ?k1_z11 ?k2_z11 ?k3_z11 (fun _ _ _ h => h) (Or.inl ⟨?g_z11, ?y_z11⟩) (by assumption) ?r_z11
      case hi_z11 => (simp only [List.getElem?_toArray, List.getElem?_cons_succ, List.getElem?_cons_zero]; rfl)
      case k1_z11 => kernel_rfl
      case k2_z11 => kernel_rfl
      case k3_z11 => kernel_rfl
      case g_z11 => rfl
      case y_z11 => (intro w hSw; (try dsimp only at hSw); first | (go_simp; done) | (go_simp; with_reducible rfl))
      (try simp only [Act.put, List.setIfInBounds_toArray, List.set_cons_zero, List.set_cons_succ])
      refine wpAnyH_take (i := 12) (oi := ?oz12) (v := ?vz12) ?hi_z12 ?k1_z12 ?k2_z12 ?k3_z12 (fun _ _ _ h => h) (Or.inl ⟨?g_z12, ?y_z12⟩) (by assumption) ?r_z12
      case hi_z12 => (simp only [List.getElem?_toArray, List.getElem?_cons_succ, List.getElem?_cons_zero]; rfl)
      case k1_z12 => kernel_rfl
      case k2_z12 => kernel_rfl
      case k3_z12 => kernel_rfl
      case g_z12 => rfl
      case y_z12 => (intro w hSw; (try dsimp only at hSw); first | (go_simp; done) | (go_simp; with_reducible rfl))
      (try simp only [Act.put, List.setIfInBounds_toArray, List.set_cons_zero, List.set_cons_succ])
      refine wpAnyH_ready (rs := [6]) ?k1_z6 (by simp) ?r_z6
      case k1_z6 => kernel_rfl
      refine AllReadyH.cons (o := ?oz6) ?hi_z6 (fun K hK => ?s_z6) ?m_z6
      case hi_z6 => (simp only [List.getElem?_toArray, List.getElem?_cons_succ, List.getElem?_cons_zero]; rfl)
      case m_z6 => exact AllReadyH.nil
      go_simp
      (go_at_call 7; refine (runs_calls false A8 c8 xss8 xs 11 #[.pointer (some ⟨w.heap.size, 0, none⟩)] (qO os) i0 i1 _ eg2_ViewRuns (popen_ViewRuns (LD.out.next (by with_reducible repeat (first | exact Below.refl _ _ | assumption | apply pw_below_drewN | apply Below.drew | apply below_alloc))).x4 (Kd.C_below HO.out (LD.out.next (by with_reducible repeat (first | exact Below.refl _ _ | assumption | apply pw_below_drewN | apply Below.drew | apply below_alloc))).b)) (LD.out.next (by with_reducible repeat (first | exact Below.refl _ _ | assumption | apply pw_below_drewN | apply Below.drew | apply below_alloc))).s HL HZ.out OK.out.1 I0.out I1.out).mono ?_; rintro e wp ⟨vp, rfl, hrp, hbX⟩)
      have LC := Lib.hid (LD.out.next (by first | (with_reducible exact hbX) | exact below_step (Below.drew (Below.refl _ _)) hbX))
      rw [← RS.out] at hrp
      obtain ⟨AP, cP, eP, hcP, hCP⟩ := Kd.R_reads hrp
      subst eP
      have CP := Lib.hid hCP
      clear hrp hCP hbX
      (try go_wp2_with fail)
      refine hK.out _ _ (PV8.of LC.out) (fun hHeld => ?_)
      clear hK K
      (try simp only [Act.put, List.setIfInBounds_toArray, List.set_cons_zero, List.set_cons_succ])
      refine wpAnyH_ready (rs := [13]) ?k1_z13 (by simp) ?r_z13
      case k1_z13 => kernel_rfl
      refine AllReadyH.cons (o := ?oz13) ?hi_z13 (fun K hK => ?s_z13) ?m_z13
      case hi_z13 => (simp only [List.getElem?_toArray, List.getElem?_cons_succ, List.getElem?_cons_zero]; rfl)
      case m_z13 => exact AllReadyH.nil
      go_simp
      (go_at_call 15; refine (runs8_calls A c xs B d os i0 i1 _ (Kd.C_below HR.out LC.out.b) hc (Kd.C_below HO.out LC.out.b) hd HLX HLO HZ.out OK.out.1 I0.out I1.out).mono ?_; rintro e wq ⟨vq, rfl, hrq, hbq⟩)
      replace LC := Lib.hid (LC.out.next hbq)
      replace CP := Lib.hid (Kd.C_below CP.out hbq)
      rw [← RS.out] at hrq
      obtain ⟨AQ, cQ, eQ, hcQ, hCQ⟩ := Kd.R_reads hrq
      subst eQ
      have CQ := Lib.hid hCQ
      clear hrq hCQ hbq
      (try go_wp2_with fail)
      refine hK.out _ _ (PV8.of LC.out) (fun hHeld => ?_)
      clear hK K
      (try simp only [Act.put, List.setIfInBounds_toArray, List.set_cons_zero, List.set_cons_succ])
      refine wpAnyH_ready (rs := [14]) ?k1_z14 (by simp) ?r_z14
      case k1_z14 => kernel_rfl
      refine AllReadyH.cons (o := ?oz14) ?hi_z14 (fun K hK => ?s_z14) ?m_z14
      case hi_z14 => (simp only [List.getElem?_toArray, List.getElem?_cons_succ, List.getElem?_cons_zero]; rfl)
      case m_z14 => exact AllReadyH.nil
      go_simp
      (go_at_call 14; refine (chancelref08_Same.calls ks AP cP rs AQ cQ rs true _ CP.out hcP CQ.out hcQ KS.out).mono ?_; rintro e wt ⟨rfl, hbt⟩)
      replace LC := Lib.hid (LC.out.next (below_drawn hbt))
      clear hbt
      (try go_wp2_with fail)
      refine hK.out _ _ (PV8.of LC.out) (fun hHeld => ?_)
      clear hK K
      (try simp only [Act.put, List.setIfInBounds_toArray, List.set_cons_zero, List.set_cons_succ])
      refine wpAnyH_take (i := 15) (oi := ?oz15) (v := ?vz15) ?hi_z15 ?k1_z15 ?k2_z15 ?k3_z15 (fun _ _ _ h => h) (Or.inl ⟨?g_z15, ?y_z15⟩) (by assumption) ?r_z15
      case hi_z15 => (simp only [List.getElem?_toArray, List.getElem?_cons_succ, List.getElem?_cons_zero]; rfl)
      case k1_z15 => kernel_rfl
      case k2_z15 => kernel_rfl
      case k3_z15 => kernel_rfl
      case g_z15 => rfl
      case y_z15 => (intro w hSw; (try dsimp only at hSw); first | (go_simp; done) | (go_simp; with_reducible rfl))
      (try simp only [Act.put, List.setIfInBounds_toArray, List.set_cons_zero, List.set_cons_succ])
      refine wpAnyH_done (by kernel_rfl) ?_ _
      refine NoPanic.normal ?_
      go_wp2
      go_ret
      exact ⟨rfl, LC.out.b⟩
end Go.Proofs.YtlcfhmnjdkhkoaaDoor.Seg
/- Views: the walk of Width; elements of rows of runs and texts. Conditions: at most 1000 segments, of at most 2^40 bytes. -/
namespace Go.Proofs.YtlcfhmnjdkhkoaaDoor.Seg
open Go.RowKit Go.Proofs.YtlcfhmnjdkhkoaaDoorPl Go.Maps Go.Proofs.YtlcfhmnjdkhkoaaDoorW.PrintWords Go.Proofs.YtlcfhmnjdkhkoaaDoorW.PrintLast Go.Proofs.YtlcfhmnjdkhkoaaDoorW.PrintMore Go.Proofs.YtlcfhmnjdkhkoaaDoor.Rope Go.Proofs.YtlcfhmnjdkhkoaaDoor.PViewRuns Go.Proofs.YtlcfhmnjdkhkoaaDoor.Pure
set_option linter.unusedVariables false
set_option linter.unusedSimpArgs false
theorem at_Rn {w : World} {A : Option Addr} {n : Nat} {rs : List Run} (h : Kd.C kR w A n rs) {j : Nat} {r : Run} (hx : rs[j]? = some r) (hj : j < n) : ∃ ad, A = some ad ∧ w.cell? (ad.add (j * 4)) = some (.int .i64 r.f0) ∧ w.cell? ⟨(ad.add (j * 4)).block, (ad.add (j * 4)).off + 1, none⟩ = some (.int .i64 r.f1) ∧ w.cell? ⟨(ad.add (j * 4)).block, (ad.add (j * 4)).off + 2, none⟩ = some (.bool r.f2) ∧ w.cell? ⟨(ad.add (j * 4)).block, (ad.add (j * 4)).off + 3, none⟩ = some (.string r.f3) := by
 have e2 := rd_R hx
 obtain ⟨ad, e, h0, h1, h2, h3⟩ := at_T51 h (j : Int) (by omega) (by omega)
 rw [e2, Int.toNat_natCast] at h0 h1 h2 h3
 exact ⟨ad, e, h0, h1, h2, h3⟩
set_option maxRecDepth 1000000 in
set_option maxHeartbeats 8000000 in
theorem width_calls (A : Option Addr) (c : Nat) (q : Int → Bool) (xs : List G) (w : World) (hr : Kd.C kP w A xs.length (xs.map (pieceG q))) (hl : xs.length ≤ 1000) (hz : ∀ x ∈ xs, Sz x) (hok : ∀ x ∈ xs, okB x = true) :
  Calls Tryd.prog 16 #[.slice A xs.length c] w fun e w' => e = .returned (.int .i64 ((stG q xs : Nat) : Int)) ∧ Below w.heap.size w w' := by
 have HR := Lib.hid hr
 have HZ := Lib.hid hz
 have OK := Lib.hid hok
 have WL := Lib.hid (fun x hx => wideG_le (q := q) (hok x hx) (hz x hx).s2)
 have ST := Lib.hid (stG_takes (q := q) (xs := xs) hl WL.out)
 clear hr hz hok
 go_enter Tryd.func16, Tryd.ntmps16
 go_wp2
 go_loopw [8, 3] (fun s8 s3 wr => ∃ kk : Nat, kk ≤ xs.length ∧ s8 = .int .i64 (kk : Int) ∧ s3 = .int .i64 ((stG q (xs.take kk) : Nat) : Int) ∧ Hid (Below w.heap.size w wr)) (fun s8 _ _ => xs.length - cntV s8)
 case atStart => exact ⟨0, Nat.zero_le _, rfl, rfl, Lib.hid (Below.refl _ _)⟩
 case round =>
  obtain ⟨kk, hkk, rfl, rfl, BW⟩ := hrel
  by_cases hlt : kk < xs.length
  ·have d1 : decide ((kk : Int) < (xs.length : Int)) = true := by simp; omega
   have b1 : (0 : Int) ≤ (kk : Int) := by omega
   have b2 : (kk : Int) < (xs.length : Int) := by omega
   obtain ⟨x, hx⟩ : ∃ x, xs[kk]? = some x := ⟨_, List.getElem?_eq_getElem hlt⟩
   have hpx : (xs.map (pieceG q))[kk]? = some (pieceG q x) := by rw [List.getElem?_map, hx]; rfl
   obtain ⟨ad, e0, y0, y1, y2, y3⟩ := at_P (Kd.C_below HR.out BW.out) hpx hlt
   subst e0
   have TS := Lib.hid (stG_take (q := q) hx)
   have SX := Lib.hid (ST.out kk)
   have WX := Lib.hid (WL.out x (List.mem_of_getElem? hx))
   have PW := Lib.hid (pieceG_wide (q := q) (OK.out x (List.mem_of_getElem? hx)) (HZ.out x (List.mem_of_getElem? hx)).s2)
   clear hx hpx
   generalize pieceG q x = P at y0 y1 y2 y3 PW
   obtain ⟨S, hS⟩ : ∃ S : Int, S = ((stG q (xs.take kk) : Nat) : Int) := ⟨_, rfl⟩
   obtain ⟨D, hD⟩ : ∃ D : Int, D = (wideG q x : Int) := ⟨_, rfl⟩
   rw [← hS]
   rw [← hD] at PW
   have S2 : Hid (((stG q (xs.take (kk + 1)) : Nat) : Int) = S + D) := Lib.hid (by rw [TS.out, hS, hD]; omega)
   have w1_ : IntKind.i64.wrap (S + D) = S + D := IntWalk.i64_in _ (by have := SX.out; have := WX.out; omega)
   clear hS hD TS SX WX
   go_upto_region 5 with (first | ((with_reducible refine gate_dst (N := 5) rfl ?_); refine box_event ?hg (N := 5) ?hd (cs := #[.int .i64 0, .int .i64 0, .int .i64 0, .bool false]) (t := 42) ?hr ?_; (case hd => rfl); (case hg => rfl); (case hr => first | (go_simp; done) | (go_simp; rfl)); intro gA hgA wA hxA hbA; have GA := Lib.hid (show TB 42 wr gA #[.int .i64 0, .int .i64 0, .int .i64 0, .bool false] wA from ⟨hbA, by rw [hgA]; exact Nat.le_refl _, hxA⟩); have q0 := (blk_cell hxA 0).trans rfl; have q1 := (blk_cell hxA 1).trans rfl; have q2 := (blk_cell hxA 2).trans rfl; have q3 := (blk_cell hxA 3).trans rfl; have z0 := blk_frozen hxA 0; have z1 := blk_frozen hxA 1; have z2 := blk_frozen hxA 2; have z3 := blk_frozen hxA 3; clear hgA hxA hbA))
   refine gen2 (φ := fun W => Code.wp _ _ _ _ W) (P := fun W => TB 42 wr gA #[.int .i64 P.f0, .int .i64 P.f1, .int .i64 P.f2, .bool P.f3] W) ((((GA.out.set 0 (.int .i64 P.f0)).set 1 (.int .i64 P.f1)).set 2 (.int .i64 P.f2)).set 3 (.bool P.f3)) ?_
   clear q0 q1 q2 q3 z0 z1 z2 z3 GA y0 y1 y2 y3
   rintro V hV
   have BV := Lib.hid (below_step BW.out hV.b)
   have y0 := (blk_cell hV.hx 0).trans rfl
   have y1 := (blk_cell hV.hx 1).trans rfl
   have y2 := (blk_cell hV.hx 2).trans rfl
   have y3 := (blk_cell hV.hx 3).trans rfl
   clear hV BW
   go_wp2_with fail
   (go_at_call 25; refine (view_wide.calls _ _ _ _ D _ PW.out).mono ?_; rintro e w5 ⟨rfl, hb5⟩)
   have B5 := Lib.hid (below_step BV.out hb5)
   clear hb5 BV y0 y1 y2 y3
   go_wp2
   go_roundw
   case rel => exact ⟨kk + 1, by omega, by go_num, by rw [S2.out], B5⟩
   case measure =>
    simp only [cntV]
    omega
  ·have d1 : decide ((kk : Int) < (xs.length : Int)) = false := by simp; omega
   go_wp2
   go_ret
   have e : xs.take kk = xs := List.take_of_length_le (by omega)
   rw [e]
   exact ⟨rfl, BW.out⟩
end Go.Proofs.YtlcfhmnjdkhkoaaDoor.Seg
/- Views: what is seen of two ranges that meet is what is seen of both (plain laws). Conditions: texts of at most 2^40 bytes. -/
namespace Go.Proofs.YtlcfhmnjdkhkoaaDoor.Seg
open Go.RowKit Go.Proofs.YtlcfhmnjdkhkoaaDoorPl Go.Maps Go.Proofs.YtlcfhmnjdkhkoaaDoorW.PrintWords Go.Proofs.YtlcfhmnjdkhkoaaDoorW.PrintLast Go.Proofs.YtlcfhmnjdkhkoaaDoorW.PrintMore Go.Proofs.YtlcfhmnjdkhkoaaDoor.Rope Go.Proofs.YtlcfhmnjdkhkoaaDoor.PViewRuns Go.Proofs.YtlcfhmnjdkhkoaaDoor.Pure
set_option linter.unusedVariables false
set_option linter.unusedSimpArgs false
theorem take_drop_app {β : Type} (l r : List β) (k j : Nat) : ((l ++ r).take k).drop j = (l.take k).drop j ++ (r.take (k - l.length)).drop (j - l.length) := by
 rw [List.take_append, List.drop_append]
 congr 1
 rcases Nat.lt_or_ge k l.length with h | h
 ·have : k - l.length = 0 := by omega
  simp [this]
 ·rw [List.length_take, Nat.min_eq_right h]
/-- A piece: is it open, its letters. -/
abbrev Pc (α : Type) := Bool × List α
def wd {α : Type} (p : Pc α) : Nat := if p.1 then p.2.length else 1
def tot {α : Type} : List (Pc α) → Nat
 | [] => 0
 | p :: r => wd p + tot r
/-- What is seen of the pieces' letters, from s on. -/
def txt {α : Type} (f n : Int) : Int → List (Pc α) → List α
 | _, [] => []
 | s, p :: r => (if max (f - s) 0 < min (wd p : Int) (n - (s - f)) then (if p.1 then (p.2.take (min (wd p : Int) (n - (s - f))).toNat).drop (max (f - s) 0).toNat else []) else []) ++ txt f n (s + wd p) r
def strm {α : Type} : List (Pc α) → List (Option α)
 | [] => []
 | p :: r => (if p.1 then p.2.map some else [none]) ++ strm r
theorem strm_len {α : Type} : ∀ ps : List (Pc α), (strm ps).length = tot ps
 | [] => rfl
 | p :: r => by
  simp only [strm, tot, wd, List.length_append, strm_len r]
  split <;> simp
theorem fm_some {α : Type} (l : List α) : (l.map some).filterMap id = l := by
 induction l with
 | nil => rfl
 | cons a r ih => simp
theorem txt_eq {α : Type} (f n : Int) : ∀ (ps : List (Pc α)) (s : Int), txt f n s ps = (((strm ps).take (n - (s - f)).toNat).drop (f - s).toNat).filterMap id
 | [], s => by simp [txt, strm]
 | p :: r, s => by
  have ih := txt_eq f n r (s + wd p)
  simp only [txt, strm]
  rw [ih, take_drop_app, List.filterMap_append]
  have e : (if p.1 then p.2.map some else [none]).length = wd p := by unfold wd; split <;> simp
  rw [e]
  have e1 : (n - (s + (wd p : Int) - f)).toNat = (n - (s - f)).toNat - wd p := by omega
  have e2 : (f - (s + (wd p : Int))).toNat = (f - s).toNat - wd p := by omega
  rw [e1, e2]
  congr 1
  by_cases c : max (f - s) 0 < min (wd p : Int) (n - (s - f))
  ·rw [if_pos c]
   cases h : p.1 with
   | true =>
    simp only [if_true]
    rw [← List.map_take, ← List.map_drop, fm_some]
    have : wd p = p.2.length := by unfold wd; rw [h]; rfl
    rw [this] at c ⊢
    have e3 : (max (f - s) 0).toNat = (f - s).toNat := by omega
    rw [e3]
    rcases Int.le_total (p.2.length : Int) (n - (s - f)) with h1 | h1
    ·rw [show (min (p.2.length : Int) (n - (s - f))).toNat = p.2.length by omega, List.take_of_length_le (Nat.le_refl _), List.take_of_length_le (by omega)]
    ·rw [show (min (p.2.length : Int) (n - (s - f))).toNat = (n - (s - f)).toNat by omega]
   | false =>
    simp only [Bool.false_eq_true, if_false]
    cases hk : (n - (s - f)).toNat with
    | zero => simp
    | succ k => cases hj : (f - s).toNat <;> simp
  ·rw [if_neg c]
   have : (f - s).toNat ≥ min (wd p) (n - (s - f)).toNat := by omega
   rw [List.drop_eq_nil_of_le (by rw [List.length_take, e]; omega)]
   rfl
/-- The letters of all open pieces. -/
def allT {α : Type} : List (Pc α) → List α
 | [] => []
 | p :: r => (if p.1 then p.2 else []) ++ allT r
theorem strm_all {α : Type} : ∀ ps : List (Pc α), (strm ps).filterMap id = allT ps
 | [] => rfl
 | p :: r => by
  simp only [strm, allT, List.filterMap_append, strm_all r]
  congr 1
  cases p.1 with
  | true => simp
  | false => simp
theorem txt_all {α : Type} (ps : List (Pc α)) (w : Int) (h : w = tot ps) : txt 0 w 0 ps = allT ps := by
 rw [txt_eq, ← strm_all, List.take_of_length_le (by rw [strm_len]; omega)]
 simp
theorem txt_two {α : Type} (ps : List (Pc α)) (w a : Int) (h : w = tot ps) (h0 : 0 ≤ a) (h1 : a ≤ w) : txt 0 a 0 ps ++ txt a (w - a) 0 ps = allT ps := by
 rw [txt_eq, txt_eq, ← strm_all, ← List.filterMap_append]
 have e : (strm ps).take (w - a - (0 - a)).toNat = strm ps := List.take_of_length_le (by rw [strm_len]; omega)
 rw [e]
 congr 1
 have e1 : (a - (0 - 0)).toNat = a.toNat := by omega
 have e2 : ((0 : Int) - 0).toNat = 0 := rfl
 have e3 : (a - 0).toNat = a.toNat := by omega
 rw [e1, e2, e3, List.drop_zero, List.take_append_drop]
/-- How many runs are of pieces that aren't open. -/
def hidN {α : Type} (f n : Int) : Int → List (Pc α) → Nat
 | _, [] => 0
 | s, p :: r => (if max (f - s) 0 < min (wd p : Int) (n - (s - f)) then (if p.1 then 0 else 1) else 0) + hidN f n (s + wd p) r
def closed {α : Type} : List (Pc α) → Nat
 | [] => 0
 | p :: r => (if p.1 then 0 else 1) + closed r
theorem hid_all {α : Type} (w : Int) : ∀ (ps : List (Pc α)) (s : Int), 0 ≤ s → s + tot ps ≤ w → hidN 0 w s ps = closed ps
 | [], _, _, _ => rfl
 | p :: r, s, h0, h => by
  simp only [tot] at h
  simp only [hidN, closed]
  rw [hid_all w r (s + wd p) (by omega) (by omega)]
  congr 1
  cases hp : p.1 with
  | true => simp
  | false =>
   have : wd p = 1 := by unfold wd; rw [hp]; rfl
   rw [this] at h ⊢
   rw [if_pos (by omega)]
/-- The texts of runs, one behind the other. -/
def catR (rs : List Run) : ByteArray := rs.foldl (fun s r => s ++ r.f3) ⟨#[]⟩
theorem catR_snoc (rs : List Run) (r : Run) : catR (rs ++ [r]) = catR rs ++ r.f3 := by simp [catR]
theorem catR_take {rs : List Run} {j : Nat} {r : Run} (h : rs[j]? = some r) : catR (rs.take (j + 1)) = catR (rs.take j) ++ r.f3 := by
 obtain ⟨hl, e⟩ := List.getElem?_eq_some_iff.1 h
 rw [List.take_succ_eq_append_getElem hl, e, catR_snoc]
theorem foldR_list : ∀ (rs : List Run) (s : ByteArray), (rs.foldl (fun s r => s ++ r.f3) s).data.toList = s.data.toList ++ (rs.map (fun r => r.f3.data.toList)).flatten
 | [], s => by simp
 | r :: q, s => by
  simp only [List.foldl_cons, List.map_cons, List.flatten_cons]
  rw [foldR_list q, ByteArray.data_append, Array.toList_append, List.append_assoc]
theorem catR_list (rs : List Run) : (catR rs).data.toList = (rs.map (fun r => r.f3.data.toList)).flatten := by
 unfold catR
 rw [foldR_list]
 simp
theorem catR_size {rs : List Run} (h : ∀ r ∈ rs, r.f3.size ≤ 1099511627776) : (catR rs).size ≤ rs.length * 1099511627776 := by
 rw [← toList_size, catR_list]
 induction rs with
 | nil => simp
 | cons r q ih =>
  have h1 := h r (by simp)
  have h2 := ih (fun x hx => h x (by simp [hx]))
  rw [← toList_size] at h1
  simp only [List.map_cons, List.flatten_cons, List.length_append, List.length_cons]
  omega
theorem oneG_size {q : Int → Bool} {f n s : Int} {x : G} (hv : okB x = true) (hz : x.f2.size ≤ 1099511627776) : ∀ r ∈ oneG q f n s x, r.f3.size ≤ 1099511627776 := by
 intro r hr
 unfold oneG at hr
 split at hr
 ·rw [List.mem_singleton] at hr
  subst hr
  unfold runG
  dsimp only
  split
  ·rw [txtB_size]
   have h1 := flat_sub (lets x.f2) (max (f - s) 0).toNat (min (wideG q x : Int) (n - (s - f))).toNat
   rw [← (lets_ok (okB_valid hv)).2, toList_size] at h1
   omega
  ·show 0 ≤ _; omega
 ·simp at hr
theorem runsG_size {q : Int → Bool} {f n : Int} : ∀ (xs : List G) (s : Int), (∀ x ∈ xs, okB x = true) → (∀ x ∈ xs, Sz x) → ∀ r ∈ runsG q f n s xs, r.f3.size ≤ 1099511627776
 | [], s, _, _ => by simp [runsG]
 | x :: l, s, hv, hz => by
  intro r hr
  simp only [runsG, List.mem_append] at hr
  rcases hr with hr | hr
  ·exact oneG_size (hv x (by simp)) (hz x (by simp)).s2 r hr
  ·exact runsG_size l _ (fun y hy => hv y (by simp [hy])) (fun y hy => hz y (by simp [hy])) r hr
/-- The pieces of segments. -/
noncomputable def pcs (q : Int → Bool) (xs : List G) : List (Pc (List UInt8)) := xs.map (fun x => (q x.f1, lets x.f2))
theorem wd_pc (q : Int → Bool) (x : G) : wd (q x.f1, lets x.f2) = wideG q x := rfl
theorem tot_pcs (q : Int → Bool) : ∀ xs : List G, tot (pcs q xs) = stG q xs
 | [] => rfl
 | x :: r => by
  have ih := tot_pcs q r
  unfold pcs at ih ⊢
  simp only [List.map_cons, tot, stG, ih, wd_pc]
theorem txt_cons (q : Int → Bool) (f n s : Int) (x : G) (l : List (Pc (List UInt8))) : txt f n s ((q x.f1, lets x.f2) :: l) = (if max (f - s) 0 < min (wideG q x : Int) (n - (s - f)) then (if q x.f1 then ((lets x.f2).take (min (wideG q x : Int) (n - (s - f))).toNat).drop (max (f - s) 0).toNat else []) else []) ++ txt f n (s + wideG q x) l := rfl
theorem hidN_cons (q : Int → Bool) (f n s : Int) (x : G) (l : List (Pc (List UInt8))) : hidN f n s ((q x.f1, lets x.f2) :: l) = (if max (f - s) 0 < min (wideG q x : Int) (n - (s - f)) then (if q x.f1 then 0 else 1) else 0) + hidN f n (s + wideG q x) l := rfl
theorem cat_runs (q : Int → Bool) (f n : Int) : ∀ (xs : List G) (s : Int), (runsG q f n s xs).map (fun r => r.f3.data.toList) = (runsG q f n s xs).map (fun r => r.f3.data.toList) → ((runsG q f n s xs).map (fun r => r.f3.data.toList)).flatten = (txt f n s (pcs q xs)).flatten
 | [], s, _ => by simp [runsG, pcs, txt]
 | x :: r, s, _ => by
  have ih := cat_runs q f n r (s + wideG q x) rfl
  unfold pcs at ih ⊢
  simp only [runsG, List.map_cons, List.map_append, List.flatten_append]
  rw [txt_cons, List.flatten_append, ih]
  congr 1
  unfold oneG
  by_cases c : max (f - s) 0 < min (wideG q x : Int) (n - (s - f))
  ·rw [if_pos c, if_pos c]
   simp only [List.map_cons, List.map_nil, List.flatten_cons, List.flatten_nil, List.append_nil]
   unfold runG
   dsimp only
   cases hq : q x.f1 with
   | true => simp only [if_true]; rw [txtB_list]
   | false => rfl
  ·rw [if_neg c, if_neg c]
   rfl
theorem catR_runs (q : Int → Bool) (f n : Int) (xs : List G) : catR (runsG q f n 0 xs) = txtB (txt f n 0 (pcs q xs)) := ba_ext (by rw [catR_list, txtB_list, cat_runs q f n xs 0 rfl])
/-- The texts of the open segments. -/
def catW (q : Int → Bool) (xs : List G) : ByteArray := xs.foldl (fun s x => if q x.f1 then s ++ x.f2 else s) ⟨#[]⟩
theorem catW_take {q : Int → Bool} {xs : List G} {j : Nat} {x : G} (h : xs[j]? = some x) : catW q (xs.take (j + 1)) = if q x.f1 then catW q (xs.take j) ++ x.f2 else catW q (xs.take j) := by
 rw [take_snocG h]
 unfold catW
 rw [List.foldl_append]
 rfl
theorem foldW_list (q : Int → Bool) : ∀ (xs : List G) (s : ByteArray), (∀ x ∈ xs, okB x = true) → (xs.foldl (fun s x => if q x.f1 then s ++ x.f2 else s) s).data.toList = s.data.toList ++ (allT (pcs q xs)).flatten
 | [], s, _ => by simp [pcs, allT]
 | x :: r, s, h => by
  have ih := fun s => foldW_list q r s (fun y hy => h y (by simp [hy]))
  unfold pcs at ih ⊢
  simp only [List.foldl_cons, List.map_cons, allT, List.flatten_append]
  rw [ih]
  split
  ·rw [ByteArray.data_append, Array.toList_append, (lets_ok (okB_valid (h x (by simp)))).2, List.append_assoc]
  ·simp
theorem catW_eq {q : Int → Bool} {xs : List G} (h : ∀ x ∈ xs, okB x = true) : catW q xs = txtB (allT (pcs q xs)) := ba_ext (by
 unfold catW
 rw [foldW_list q xs _ h, txtB_list]
 simp)
theorem catW_size {q : Int → Bool} {xs : List G} (h : ∀ x ∈ xs, okB x = true) (hz : ∀ x ∈ xs, Sz x) : (catW q xs).size ≤ xs.length * 1099511627776 := by
 rw [catW_eq h, txtB_size]
 induction xs with
 | nil => simp [pcs, allT]
 | cons x r ih =>
  have i1 := ih (fun y hy => h y (by simp [hy])) (fun y hy => hz y (by simp [hy]))
  have h1 := (hz x (by simp)).s2
  rw [← toList_size, (lets_ok (okB_valid (h x (by simp)))).2] at h1
  unfold pcs at i1 ⊢
  simp only [List.map_cons, allT, List.flatten_append, List.length_append, List.length_cons]
  cases q x.f1 with
  | true => simp only [if_true]; omega
  | false => simp only [Bool.false_eq_true, if_false, List.flatten_nil, List.length_nil]; omega
/-- How many runs are of segments that aren't open. -/
def hidR (rs : List Run) : Nat := (rs.filter (fun r => !r.f2)).length
theorem hidR_take {rs : List Run} {j : Nat} {r : Run} (h : rs[j]? = some r) : hidR (rs.take (j + 1)) = hidR (rs.take j) + (if r.f2 then 0 else 1) := by
 obtain ⟨hl, e⟩ := List.getElem?_eq_some_iff.1 h
 rw [List.take_succ_eq_append_getElem hl, e]
 unfold hidR
 rw [List.filter_append, List.length_append]
 cases hr : r.f2 <;> simp [hr]
theorem hidR_le (rs : List Run) : hidR rs ≤ rs.length := List.length_filter_le _ _
theorem hidR_app (a b : List Run) : hidR (a ++ b) = hidR a + hidR b := by unfold hidR; rw [List.filter_append, List.length_append]
theorem hidR_runs (q : Int → Bool) (f n : Int) : ∀ (xs : List G) (s : Int), hidR (runsG q f n s xs) = hidN f n s (pcs q xs)
 | [], s => rfl
 | x :: r, s => by
  have ih := hidR_runs q f n r (s + wideG q x)
  unfold pcs at ih ⊢
  simp only [runsG, List.map_cons]
  rw [hidN_cons, hidR_app, ih]
  congr 1
  unfold oneG
  by_cases c : max (f - s) 0 < min (wideG q x : Int) (n - (s - f))
  ·rw [if_pos c, if_pos c]
   unfold hidR
   have e : (runG q x (max (f - s) 0).toNat (min (wideG q x : Int) (n - (s - f))).toNat).f2 = q x.f1 := rfl
   cases hq : q x.f1 with
   | true => rw [hq] at e; simp [e]
   | false => rw [hq] at e; simp [e]
  ·rw [if_neg c, if_neg c]
   rfl
/-- How many segments aren't open. -/
def shutN (q : Int → Bool) (xs : List G) : Nat := (xs.filter (fun x => !q x.f1)).length
theorem shutN_take {q : Int → Bool} {xs : List G} {j : Nat} {x : G} (h : xs[j]? = some x) : shutN q (xs.take (j + 1)) = shutN q (xs.take j) + (if q x.f1 then 0 else 1) := by
 rw [take_snocG h]
 unfold shutN
 rw [List.filter_append, List.length_append]
 cases hr : q x.f1 <;> simp [hr]
theorem shutN_le (q : Int → Bool) (xs : List G) : shutN q xs ≤ xs.length := List.length_filter_le _ _
theorem shutN_eq (q : Int → Bool) : ∀ xs : List G, shutN q xs = closed (pcs q xs)
 | [] => rfl
 | x :: r => by
  have ih := shutN_eq q r
  unfold pcs at ih ⊢
  simp only [List.map_cons, closed]
  rw [← ih]
  unfold shutN
  cases hq : q x.f1 <;> simp [hq] <;> omega
/-- The three answers. -/
theorem win_all {q : Int → Bool} {xs : List G} (h : ∀ x ∈ xs, okB x = true) : catR (runsG q 0 (stG q xs) 0 xs) = catW q xs := by rw [catR_runs, catW_eq h, txt_all _ _ (by rw [tot_pcs])]
theorem win_two {q : Int → Bool} {xs : List G} (h : ∀ x ∈ xs, okB x = true) {a : Int} (h0 : 0 ≤ a) (h1 : a ≤ (stG q xs : Int)) : catR (runsG q 0 a 0 xs) ++ catR (runsG q a ((stG q xs : Int) - a) 0 xs) = catW q xs := by
 rw [catR_runs, catR_runs, catW_eq h, ← txtB_app, txt_two _ _ a (by rw [tot_pcs]) h0 h1]
theorem win_hid (q : Int → Bool) (xs : List G) : hidR (runsG q 0 (stG q xs) 0 xs) = shutN q xs := by rw [hidR_runs, shutN_eq, hid_all _ _ 0 (Int.le_refl 0) (by rw [tot_pcs]; omega)]
end Go.Proofs.YtlcfhmnjdkhkoaaDoor.Seg
/- The walk of the law ViewWindows: it answers true. Conditions: the sizes that every row has; Go's two tables of utf8 as they are laid. -/
namespace Go.Proofs.YtlcfhmnjdkhkoaaDoor.Seg
open Go.RowKit Go.Proofs.YtlcfhmnjdkhkoaaDoorPl Go.Maps Go.Proofs.YtlcfhmnjdkhkoaaDoorW.PrintWords Go.Proofs.YtlcfhmnjdkhkoaaDoorW.PrintLast Go.Proofs.YtlcfhmnjdkhkoaaDoorW.PrintMore Go.Proofs.YtlcfhmnjdkhkoaaDoor.Rope Go.Proofs.YtlcfhmnjdkhkoaaDoor.PViewRuns Go.Proofs.YtlcfhmnjdkhkoaaDoor.Pure
set_option linter.unusedVariables false
set_option linter.unusedSimpArgs false
attribute [local go_sem] max2_int min2_int max_two min_two
set_option maxRecDepth 1000000 in
set_option maxHeartbeats 16000000 in
theorem viewWindows_walk (A : Option Addr) (c : Nat) (xs : List G) (B : Option Addr) (d : Nat) (os : List Bool) (at_ : Int) (w : World) (hT : Tabs w) (hr : Kd.C kG w A xs.length xs) (hc : xs.length ≤ c) (ho : Kd.C Kd.bool w B os.length os) (hd : os.length ≤ d) (hn : xs.length ≤ 2932031007402) (hz : ∀ x ∈ xs, x.f2.size ≤ 140737488355328 ∧ x.f3.length ≤ 140737488355328 ∧ x.f4.length ≤ 140737488355328) (hwf : ∀ x ∈ xs, (Lit.int .i64 x.f0).wf = true) :
  Calls Tryd.prog 5 #[.slice A xs.length c, .slice B os.length d, .int .i64 at_] w fun e w' => e = .returned (.bool true) ∧ Below w.heap.size w w' := by
 obtain ⟨bs, hbs, hsm⟩ := smallS_ev xs hn hz
 obtain ⟨k1, hk1⟩ := Go.Proofs.YtlcfhmnjdkhkoaaDoorW.PrintWords.Ev.rounds hbs
 have HT := Lib.hid hT
 have HR := Lib.hid hr
 have HO := Lib.hid ho
 have K1 := Lib.hid hk1
 have SM := Lib.hid hsm
 have WF := Lib.hid hwf
 clear hT hr ho hz hbs hk1 hsm hwf
 go_enter Tryd.func5, Tryd.ntmps5
 go_upto_region 1 with fail
 have B00 := Lib.hid (below_alloc (Below.refl w.heap.size w) (.cells #[.slice B os.length d] 23))
 refine gen2 (φ := fun W => Code.wp _ _ _ _ W) (P := fun W => Below w.heap.size w W ∧ W.heap[w.heap.size]? = some (.cells #[.slice B os.length d] 23 (0, 0))) ⟨B00.out, blk_newS rfl⟩ ?_
 clear B00
 rintro W0 ⟨hb0, h40⟩
 have B0 := Lib.hid hb0
 have X4 := Lib.hid h40
 clear hb0 h40
 go_wp2_with fail
 have BS := Lib.hid (below_alloc (Below.refl W0.heap.size W0) (.cells #[.int .i64 1, .int .i64 0, .string ⟨#[97, 98]⟩, .slice none 0 0, .slice none 0 0] 33))
 (go_at_call 6; refine (shLoad_good false _ 1 [tab] _ (HT.out.below (below_step B0.out BS.out)) (C_oneG (blk_newS rfl)) tabs_sz (by decide) tabs_wf tabs_ok).mono ?_; rintro e w1 ⟨A1, c1, xss1, rfl, hs1, hb1⟩)
 have S1 := Lib.hid hs1
 have L1 := Lib.hid hs1.len
 have B1 := Lib.hid (below_step BS.out hb1)
 clear hs1 hb1 BS
 go_upto_region 2 with (first | ((with_reducible refine gate_dst (N := 7) rfl ?_); refine box_event ?hg (N := 7) ?hd (cs := #[.bool false, .slice none 0 0]) (t := 27) ?hr ?_; (case hd => rfl); (case hg => rfl); (case hr => first | (go_simp; done) | (go_simp; rfl)); intro gA hgA wA hxA hbA; have GX := Lib.hid (show TB 27 w1 gA #[.bool false, .slice none 0 0] wA from ⟨hbA, by rw [hgA]; exact Nat.le_refl _, hxA⟩); have q0 := (blk_cell hxA 0).trans rfl; have q1 := (blk_cell hxA 1).trans rfl; have z0 := blk_frozen hxA 0; have z1 := blk_frozen hxA 1; clear hgA hxA hbA))
 refine gen2 (φ := fun W => Code.wp _ _ _ _ W) (P := fun W => TB 27 w1 gA #[.bool false, .slice A1 xss1.length c1] W) ((GX.out.set 0 (.bool false)).set 1 (.slice A1 xss1.length c1)) ?_
 clear q0 q1 z0 z1 GX
 rintro V hV
 have B2 := Lib.hid (below_step B1.out hV.b)
 have S2 := Lib.hid (S1.out.below hV.b)
 have y0 := (blk_cell hV.hx 0).trans rfl
 have y1 := (blk_cell hV.hx 1).trans rfl
 clear hV S1 B1
 go_wp2_with fail
 (go_at_call 7; refine (runs_calls false A1 c1 xss1 [tab] 20 #[] (fun _ => true) 1 1 _ eg1_ViewWindows (pconst_ViewWindows _) S2.out (by rw [← L1.out]; decide) tabs_sz (fun x hx => tabs_ok.1 x hx) (by decide) (by decide)).mono ?_; rintro e w2 ⟨v2, rfl, hr2, hb2⟩)
 have er : runsG (fun _ => true) (max 1 0) (min 1 200) 0 [tab] = [⟨1, 0, true, ⟨#[98]⟩⟩] := tab_runs
 rw [er] at hr2
 obtain ⟨A2, c2, e2⟩ := Kd.R_slice hr2
 have e2' : v2 = .slice A2 1 c2 := e2
 subst e2'
 have B3 := Lib.hid (below_step B2.out hb2)
 clear er hr2 hb2 e2 y0 y1 S2 B2 L1
 go_wp2_with fail
 (go_at_call 9; refine (chancellaw06_Small.calls k1 A c xs bs _ (Kd.C_below HR.out (below_step B0.out B3.out)) hc K1.out).mono ?_; rintro e w3 ⟨rfl, hb3⟩)
 have B4 := Lib.hid (below_step B3.out hb3)
 clear hb3 B3 K1
 cases bs with
 | false =>
  go_wp2
  go_ret
  exact ⟨rfl, below_step B0.out B4.out⟩
 | true =>
  obtain ⟨hl40, hz2⟩ := SM.out rfl
  have HZ := Lib.hid hz2
  clear hz2 SM
  go_wp2_with fail
  (go_at_call 10; refine (right6_calls A c xs _ (Kd.C_below HR.out (below_step B0.out B4.out)) hc HZ.out (by omega)).mono ?_; rintro e w4 ⟨b9, rfl, hi9, hb4⟩)
  have B5 := Lib.hid (below_step B4.out hb4)
  clear hb4 B4
  cases b9 with
  | false =>
   clear hi9
   go_wp2
   go_ret
   exact ⟨rfl, below_step B0.out B5.out⟩
  | true =>
   have OK := Lib.hid (hi9.1 rfl)
   clear hi9
   have x4 := (blk_cell (blk_below X4.out B5.out) 0).trans rfl
   by_cases h20 : 20 < os.length
   ·have d20 : decide ((20 : Int) < (os.length : Int)) = true := by simp; omega
    clear h20
    go_wp2
    go_ret
    exact ⟨rfl, below_step B0.out B5.out⟩
   ·have d20 : decide ((20 : Int) < (os.length : Int)) = false := by simp; omega
    go_wp2_with fail
    (go_at_call 6; refine (shLoad_good false A c xs _ (HT.out.below (below_step B0.out B5.out)) (Kd.C_below HR.out (below_step B0.out B5.out)) HZ.out (by omega) WF.out OK.out).mono ?_; rintro e w8 ⟨A8, c8, xss8, rfl, hs8, hb8⟩)
    have S8 := Lib.hid hs8
    have L8 := Lib.hid hs8.len
    have B8 := Lib.hid (below_step B5.out hb8)
    clear hs8 hb8 B5 x4
    go_upto_region 7 with (first | ((with_reducible refine gate_dst (N := 9) rfl ?_); refine box_event ?hg (N := 9) ?hd (cs := #[.bool false, .slice none 0 0]) (t := 27) ?hr ?_; (case hd => rfl); (case hg => rfl); (case hr => first | (go_simp; done) | (go_simp; rfl)); intro gB hgB wB hxB hbB; have GX := Lib.hid (show TB 27 w8 gB #[.bool false, .slice none 0 0] wB from ⟨hbB, by rw [hgB]; exact Nat.le_refl _, hxB⟩); have q0 := (blk_cell hxB 0).trans rfl; have q1 := (blk_cell hxB 1).trans rfl; have z0 := blk_frozen hxB 0; have z1 := blk_frozen hxB 1; clear hgB hxB hbB))
    have GY := Lib.hid ((GX.out.set 0 (.bool false)).set 1 (.slice A8 xss8.length c8))
    refine gen2 (φ := fun W => Code.wp _ _ _ _ W) (P := fun W => VL w w.heap.size w.heap.size gB B d os #[.slice B os.length d] 23 A8 c8 xss8 xs W) ⟨below_step B0.out (below_step B8.out GY.out.b), blk_below X4.out (below_step B8.out GY.out.b), blk_below X4.out (below_step B8.out GY.out.b), GY.out.hx, S8.out.below GY.out.b⟩ ?_
    clear q0 q1 z0 z1 GX GY S8 B8 X4 B0
    rintro U hU
    have LU := Lib.hid hU
    clear hU
    have HL : Hid (xss8.length ≤ 1000) := Lib.hid (by rw [← L8.out]; omega)
    have HLX : Hid (xs.length ≤ 40) := Lib.hid hl40
    have y0 := (blk_cell LU.out.h9 0).trans rfl
    have y1 := (blk_cell LU.out.h9 1).trans rfl
    obtain ⟨q, hq⟩ : ∃ q, q = qO os := ⟨_, rfl⟩
    have PO := fun (W : World) (h : VL w w.heap.size w.heap.size gB B d os #[.slice B os.length d] 23 A8 c8 xss8 xs W) => (show PredL W 21 #[.pointer (some ⟨w.heap.size, 0, none⟩)] q by rw [hq]; exact popen_ViewWindows h.x4 (Kd.C_below HO.out h.b))
    have PH := Lib.hid PO
    clear PO hq d20 h20 hl40
    go_wp2_with fail
    (go_at_call 12; refine (look_calls false A8 c8 xss8 xs 21 #[.pointer (some ⟨w.heap.size, 0, none⟩)] q _ eg2_ViewWindows (PH.out _ LU.out) LU.out.s (by have := HL.out; omega) HZ.out).mono ?_; rintro e w9 ⟨v9, rfl, hr9, hb9⟩)
    obtain ⟨AP, cP, eP, hcP, hCP⟩ := Kd.R_reads hr9
    have LP : (xs.map (pieceG q)).length = xs.length := by rw [List.length_map]
    rw [LP] at eP hCP
    subst eP
    have LV := Lib.hid (LU.out.next hb9)
    have CP := Lib.hid hCP
    clear hr9 hb9 hcP hCP LP LU y0 y1
    go_wp2_with fail
    (go_at_call 16; refine (width_calls AP cP q xs _ CP.out (by have := HLX.out; omega) HZ.out OK.out.1).mono ?_; rintro e w10 ⟨rfl, hb10⟩)
    have LW := Lib.hid (LV.out.next hb10)
    have WA := Lib.hid (win_all (q := q) OK.out.1)
    have WT := Lib.hid (fun a => win_two (q := q) OK.out.1 (a := a))
    have WH := Lib.hid (win_hid q xs)
    obtain ⟨T, hT⟩ : ∃ T : Int, T = ((stG q xs : Nat) : Int) := ⟨_, rfl⟩
    have T0 : Hid (0 ≤ T) := Lib.hid (by rw [hT]; omega)
    rw [← hT] at WA WT WH ⊢
    clear hb10 CP LV hT
    by_cases h200 : 200 < T
    ·have d200 : decide (200 < T) = true := by simpa using h200
     clear h200
     go_wp2
     go_ret
     exact ⟨rfl, LW.out.b⟩
    ·have d200 : decide (200 < T) = false := by simpa using h200
     obtain ⟨M, hM⟩ : ∃ M, M = max at_ 0 := ⟨_, rfl⟩
     obtain ⟨Z, hZ⟩ : ∃ Z, Z = min M T := ⟨_, rfl⟩
     have eM : (if at_ < 0 then (0 : Int) else at_) = M := by rw [hM]; split <;> omega
     have eZ : (if T < M then T else M) = Z := by rw [hZ]; split <;> omega
     have ZB : Hid (0 ≤ Z ∧ Z ≤ T ∧ T ≤ 200) := Lib.hid (by have := T0.out; omega)
     have wZ : IntKind.i64.wrap (T - Z) = T - Z := IntWalk.i64_in _ (by have := ZB.out; omega)
     clear hM hZ h200
     have y0 := (blk_cell LW.out.h9 0).trans rfl
     have y1 := (blk_cell LW.out.h9 1).trans rfl
     go_wp2_with fail
     (go_at_call 7; refine (runs_calls false A8 c8 xss8 xs 21 #[.pointer (some ⟨w.heap.size, 0, none⟩)] q (0 : Int) T _ eg2_ViewWindows (PH.out _ LW.out) LW.out.s HL.out HZ.out OK.out.1 (by have := ZB.out; omega) (by have := ZB.out; omega)).mono ?_; rintro e wr1 ⟨vr1, rfl, hrr1, hbr1⟩)
     rw [show max (0 : Int) 0 = (0 : Int) by have := ZB.out; omega, show min T 200 = T by have := ZB.out; omega] at hrr1
     have SZ1 := Lib.hid (runsG_size (q := q) (f := (0 : Int)) (n := T) xs 0 OK.out.1 HZ.out)
     have LN1 : Hid ((runsG q (0 : Int) T 0 xs).length ≤ 40) := Lib.hid (by have := runsG_len q (0 : Int) T xs 0; have := HLX.out; omega)
     obtain ⟨R1, hR1⟩ : ∃ R, R = runsG q (0 : Int) T 0 xs := ⟨_, rfl⟩
     have ER1 := Lib.hid hR1
     rw [← hR1] at hrr1 SZ1 LN1
     obtain ⟨AR1, cR1, eR1, hcR1, hCR1⟩ := Kd.R_reads hrr1
     subst eR1
     have CR1 := Lib.hid hCR1
     have LZ1 := Lib.hid (LW.out.next hbr1)
     clear hR1 hrr1 hcR1 hCR1 hbr1 y0 y1
     go_wp2
     go_loopw [70, 13, 16] (fun s70 s13 s16 wr => ∃ kk : Nat, kk ≤ R1.length ∧ s70 = .int .i64 (kk : Int) ∧ s13 = .string (catR (R1.take kk)) ∧ s16 = .int .i64 ((hidR (R1.take kk) : Nat) : Int) ∧ Hid (Below wr1.heap.size wr1 wr)) (fun s70 _ _ _ => R1.length - cntV s70)
     case atStart => exact ⟨0, Nat.zero_le _, rfl, rfl, rfl, Lib.hid (Below.refl _ _)⟩
     case round =>
      obtain ⟨kk, hkk, rfl, rfl, rfl, BW⟩ := hrel
      by_cases hlt : kk < R1.length
      ·have d1 : decide ((kk : Int) < (R1.length : Int)) = true := by simp; omega
       have b1 : (0 : Int) ≤ (kk : Int) := by omega
       have b2 : (kk : Int) < (R1.length : Int) := by omega
       obtain ⟨r, hx⟩ : ∃ r, R1[kk]? = some r := ⟨_, List.getElem?_eq_getElem hlt⟩
       obtain ⟨ad, e0, p0, p1, p2, p3⟩ := at_Rn (Kd.C_below CR1.out BW.out) hx hlt
       subst e0
       have TK := Lib.hid (catR_take hx)
       have HK := Lib.hid (hidR_take hx)
       have w1_ : IntKind.i64.wrap ((kk : Int) + 1) = (kk : Int) + 1 := IntWalk.i64_in _ (by have := LN1.out; omega)
       have w2_ : IntKind.i64.wrap (((hidR (R1.take kk) : Nat) : Int) + 1) = ((hidR (R1.take kk) : Nat) : Int) + 1 := IntWalk.i64_in _ (by have := LN1.out; have := hidR_le (R1.take kk); rw [List.length_take] at this; omega)
       have nov : ¬ (9223372036854775807 < (catR (R1.take kk)).size + r.f3.size) := by
        have h1 := catR_size (rs := R1.take kk) (fun x hx => SZ1.out x (List.mem_of_mem_take hx))
        have h2 := SZ1.out r (List.mem_of_getElem? hx)
        have h3 : (R1.take kk).length ≤ 40 := by have := LN1.out; rw [List.length_take]; omega
        omega
       clear hx
       go_upto_region 17 with (first | ((with_reducible refine gate_dst (N := 18) rfl ?_); refine box_event ?hg (N := 18) ?hd (cs := #[.int .i64 0, .int .i64 0, .bool false, .string ByteArray.empty]) (t := 51) ?hr ?_; (case hd => rfl); (case hg => rfl); (case hr => first | (go_simp; done) | (go_simp; rfl)); intro gA hgA wA hxA hbA; have GA := Lib.hid (show TB 51 wr gA #[.int .i64 0, .int .i64 0, .bool false, .string ByteArray.empty] wA from ⟨hbA, by rw [hgA]; exact Nat.le_refl _, hxA⟩); have q0 := (blk_cell hxA 0).trans rfl; have q1 := (blk_cell hxA 1).trans rfl; have q2 := (blk_cell hxA 2).trans rfl; have q3 := (blk_cell hxA 3).trans rfl; have z0 := blk_frozen hxA 0; have z1 := blk_frozen hxA 1; have z2 := blk_frozen hxA 2; have z3 := blk_frozen hxA 3; clear hgA hxA hbA))
       refine gen2 (φ := fun W => Code.wp _ _ _ _ W) (P := fun W => TB 51 wr gA #[.int .i64 r.f0, .int .i64 r.f1, .bool r.f2, .string r.f3] W) ((((GA.out.set 0 (.int .i64 r.f0)).set 1 (.int .i64 r.f1)).set 2 (.bool r.f2)).set 3 (.string r.f3)) ?_
       clear q0 q1 q2 q3 z0 z1 z2 z3 GA p0 p1 p2 p3
       rintro V9 hV
       have B9 := Lib.hid (below_step BW.out hV.b)
       have p2 := (blk_cell hV.hx 2).trans rfl
       have p3 := (blk_cell hV.hx 3).trans rfl
       clear hV BW
       cases hb : r.f2 with
       | true =>
        rw [hb] at p2 HK
        clear hb
        go_wp2
        go_roundw
        case rel => exact ⟨kk + 1, by omega, by go_num, by rw [TK.out], by rw [HK.out]; rfl, B9⟩
        case measure =>
         simp only [cntV]
         omega
       | false =>
        rw [hb] at p2 HK
        clear hb
        go_wp2
        go_roundw
        case rel => exact ⟨kk + 1, by omega, by go_num, by rw [TK.out], by rw [HK.out]; rfl, B9⟩
        case measure =>
         simp only [cntV]
         omega
      ·have d1 : decide ((kk : Int) < (R1.length : Int)) = false := by simp; omega
       have ek : R1.take kk = R1 := List.take_of_length_le (by omega)
       rw [ek]
       have LZ1n := Lib.hid (LZ1.out.next BW.out)
       have y0 := (blk_cell LZ1n.out.h9 0).trans rfl
       have y1 := (blk_cell LZ1n.out.h9 1).trans rfl
       clear BW ek CR1
       clear eM eZ
       go_wp2_with fail
       (go_at_call 7; refine (runs_calls false A8 c8 xss8 xs 21 #[.pointer (some ⟨w.heap.size, 0, none⟩)] q (0 : Int) Z _ eg2_ViewWindows (PH.out _ LZ1n.out) LZ1n.out.s HL.out HZ.out OK.out.1 (by have := ZB.out; omega) (by have := ZB.out; omega)).mono ?_; rintro e wr2 ⟨vr2, rfl, hrr2, hbr2⟩)
       rw [show max (0 : Int) 0 = (0 : Int) by have := ZB.out; omega, show min Z 200 = Z by have := ZB.out; omega] at hrr2
       have SZ2 := Lib.hid (runsG_size (q := q) (f := (0 : Int)) (n := Z) xs 0 OK.out.1 HZ.out)
       have LN2 : Hid ((runsG q (0 : Int) Z 0 xs).length ≤ 40) := Lib.hid (by have := runsG_len q (0 : Int) Z xs 0; have := HLX.out; omega)
       obtain ⟨R2, hR2⟩ : ∃ R, R = runsG q (0 : Int) Z 0 xs := ⟨_, rfl⟩
       have ER2 := Lib.hid hR2
       rw [← hR2] at hrr2 SZ2 LN2
       obtain ⟨AR2, cR2, eR2, hcR2, hCR2⟩ := Kd.R_reads hrr2
       subst eR2
       have CR2 := Lib.hid hCR2
       have LZ2 := Lib.hid (LZ1n.out.next hbr2)
       clear hR2 hrr2 hcR2 hCR2 hbr2 y0 y1
       go_wp2
       go_loopw [89, 14] (fun s89 s14 wr => ∃ kk : Nat, kk ≤ R2.length ∧ s89 = .int .i64 (kk : Int) ∧ s14 = .string (catR (R2.take kk)) ∧ Hid (Below wr2.heap.size wr2 wr)) (fun s89 _ _ => R2.length - cntV s89)
       case atStart => exact ⟨0, Nat.zero_le _, rfl, rfl, Lib.hid (Below.refl _ _)⟩
       case round =>
        obtain ⟨kk, hkk, rfl, rfl, BW⟩ := hrel
        by_cases hlt : kk < R2.length
        ·have d1 : decide ((kk : Int) < (R2.length : Int)) = true := by simp; omega
         have b1 : (0 : Int) ≤ (kk : Int) := by omega
         have b2 : (kk : Int) < (R2.length : Int) := by omega
         obtain ⟨r, hx⟩ : ∃ r, R2[kk]? = some r := ⟨_, List.getElem?_eq_getElem hlt⟩
         obtain ⟨ad, e0, p0, p1, p2, p3⟩ := at_Rn (Kd.C_below CR2.out BW.out) hx hlt
         subst e0
         have TK := Lib.hid (catR_take hx)
         have HK := Lib.hid (hidR_take hx)
         have w1_ : IntKind.i64.wrap ((kk : Int) + 1) = (kk : Int) + 1 := IntWalk.i64_in _ (by have := LN2.out; omega)
         have w2_ : IntKind.i64.wrap (((hidR (R2.take kk) : Nat) : Int) + 1) = ((hidR (R2.take kk) : Nat) : Int) + 1 := IntWalk.i64_in _ (by have := LN2.out; have := hidR_le (R2.take kk); rw [List.length_take] at this; omega)
         have nov : ¬ (9223372036854775807 < (catR (R2.take kk)).size + r.f3.size) := by
          have h1 := catR_size (rs := R2.take kk) (fun x hx => SZ2.out x (List.mem_of_mem_take hx))
          have h2 := SZ2.out r (List.mem_of_getElem? hx)
          have h3 : (R2.take kk).length ≤ 40 := by have := LN2.out; rw [List.length_take]; omega
          omega
         clear hx
         go_upto_region 24 with (first | ((with_reducible refine gate_dst (N := 20) rfl ?_); refine box_event ?hg (N := 20) ?hd (cs := #[.int .i64 0, .int .i64 0, .bool false, .string ByteArray.empty]) (t := 51) ?hr ?_; (case hd => rfl); (case hg => rfl); (case hr => first | (go_simp; done) | (go_simp; rfl)); intro gA hgA wA hxA hbA; have GA := Lib.hid (show TB 51 wr gA #[.int .i64 0, .int .i64 0, .bool false, .string ByteArray.empty] wA from ⟨hbA, by rw [hgA]; exact Nat.le_refl _, hxA⟩); have q0 := (blk_cell hxA 0).trans rfl; have q1 := (blk_cell hxA 1).trans rfl; have q2 := (blk_cell hxA 2).trans rfl; have q3 := (blk_cell hxA 3).trans rfl; have z0 := blk_frozen hxA 0; have z1 := blk_frozen hxA 1; have z2 := blk_frozen hxA 2; have z3 := blk_frozen hxA 3; clear hgA hxA hbA))
         refine gen2 (φ := fun W => Code.wp _ _ _ _ W) (P := fun W => TB 51 wr gA #[.int .i64 r.f0, .int .i64 r.f1, .bool r.f2, .string r.f3] W) ((((GA.out.set 0 (.int .i64 r.f0)).set 1 (.int .i64 r.f1)).set 2 (.bool r.f2)).set 3 (.string r.f3)) ?_
         clear q0 q1 q2 q3 z0 z1 z2 z3 GA p0 p1 p2 p3
         rintro V9 hV
         have B9 := Lib.hid (below_step BW.out hV.b)
         have p2 := (blk_cell hV.hx 2).trans rfl
         have p3 := (blk_cell hV.hx 3).trans rfl
         clear hV BW
         go_wp2
         go_roundw
         case rel => exact ⟨kk + 1, by omega, by go_num, by rw [TK.out], B9⟩
         case measure =>
          simp only [cntV]
          omega
        ·have d1 : decide ((kk : Int) < (R2.length : Int)) = false := by simp; omega
         have ek : R2.take kk = R2 := List.take_of_length_le (by omega)
         rw [ek]
         have LZ2n := Lib.hid (LZ2.out.next BW.out)
         have y0 := (blk_cell LZ2n.out.h9 0).trans rfl
         have y1 := (blk_cell LZ2n.out.h9 1).trans rfl
         clear BW ek CR2
         go_wp2_with fail
         (go_at_call 7; refine (runs_calls false A8 c8 xss8 xs 21 #[.pointer (some ⟨w.heap.size, 0, none⟩)] q Z (T - Z) _ eg2_ViewWindows (PH.out _ LZ2n.out) LZ2n.out.s HL.out HZ.out OK.out.1 (by have := ZB.out; omega) (by have := ZB.out; omega)).mono ?_; rintro e wr3 ⟨vr3, rfl, hrr3, hbr3⟩)
         rw [show max Z 0 = Z by have := ZB.out; omega, show min (T - Z) 200 = (T - Z) by have := ZB.out; omega] at hrr3
         have SZ3 := Lib.hid (runsG_size (q := q) (f := Z) (n := (T - Z)) xs 0 OK.out.1 HZ.out)
         have LN3 : Hid ((runsG q Z (T - Z) 0 xs).length ≤ 40) := Lib.hid (by have := runsG_len q Z (T - Z) xs 0; have := HLX.out; omega)
         obtain ⟨R3, hR3⟩ : ∃ R, R = runsG q Z (T - Z) 0 xs := ⟨_, rfl⟩
         have ER3 := Lib.hid hR3
         rw [← hR3] at hrr3 SZ3 LN3
         obtain ⟨AR3, cR3, eR3, hcR3, hCR3⟩ := Kd.R_reads hrr3
         subst eR3
         have CR3 := Lib.hid hCR3
         have LZ3 := Lib.hid (LZ2n.out.next hbr3)
         clear hR3 hrr3 hcR3 hCR3 hbr3 y0 y1
         go_wp2
         go_loopw [106, 15] (fun s106 s15 wr => ∃ kk : Nat, kk ≤ R3.length ∧ s106 = .int .i64 (kk : Int) ∧ s15 = .string (catR (R3.take kk)) ∧ Hid (Below wr3.heap.size wr3 wr)) (fun s106 _ _ => R3.length - cntV s106)
         case atStart => exact ⟨0, Nat.zero_le _, rfl, rfl, Lib.hid (Below.refl _ _)⟩
         case round =>
          obtain ⟨kk, hkk, rfl, rfl, BW⟩ := hrel
          by_cases hlt : kk < R3.length
          ·have d1 : decide ((kk : Int) < (R3.length : Int)) = true := by simp; omega
           have b1 : (0 : Int) ≤ (kk : Int) := by omega
           have b2 : (kk : Int) < (R3.length : Int) := by omega
           obtain ⟨r, hx⟩ : ∃ r, R3[kk]? = some r := ⟨_, List.getElem?_eq_getElem hlt⟩
           obtain ⟨ad, e0, p0, p1, p2, p3⟩ := at_Rn (Kd.C_below CR3.out BW.out) hx hlt
           subst e0
           have TK := Lib.hid (catR_take hx)
           have HK := Lib.hid (hidR_take hx)
           have w1_ : IntKind.i64.wrap ((kk : Int) + 1) = (kk : Int) + 1 := IntWalk.i64_in _ (by have := LN3.out; omega)
           have w2_ : IntKind.i64.wrap (((hidR (R3.take kk) : Nat) : Int) + 1) = ((hidR (R3.take kk) : Nat) : Int) + 1 := IntWalk.i64_in _ (by have := LN3.out; have := hidR_le (R3.take kk); rw [List.length_take] at this; omega)
           have nov : ¬ (9223372036854775807 < (catR (R3.take kk)).size + r.f3.size) := by
            have h1 := catR_size (rs := R3.take kk) (fun x hx => SZ3.out x (List.mem_of_mem_take hx))
            have h2 := SZ3.out r (List.mem_of_getElem? hx)
            have h3 : (R3.take kk).length ≤ 40 := by have := LN3.out; rw [List.length_take]; omega
            omega
           clear hx
           go_upto_region 29 with (first | ((with_reducible refine gate_dst (N := 22) rfl ?_); refine box_event ?hg (N := 22) ?hd (cs := #[.int .i64 0, .int .i64 0, .bool false, .string ByteArray.empty]) (t := 51) ?hr ?_; (case hd => rfl); (case hg => rfl); (case hr => first | (go_simp; done) | (go_simp; rfl)); intro gA hgA wA hxA hbA; have GA := Lib.hid (show TB 51 wr gA #[.int .i64 0, .int .i64 0, .bool false, .string ByteArray.empty] wA from ⟨hbA, by rw [hgA]; exact Nat.le_refl _, hxA⟩); have q0 := (blk_cell hxA 0).trans rfl; have q1 := (blk_cell hxA 1).trans rfl; have q2 := (blk_cell hxA 2).trans rfl; have q3 := (blk_cell hxA 3).trans rfl; have z0 := blk_frozen hxA 0; have z1 := blk_frozen hxA 1; have z2 := blk_frozen hxA 2; have z3 := blk_frozen hxA 3; clear hgA hxA hbA))
           refine gen2 (φ := fun W => Code.wp _ _ _ _ W) (P := fun W => TB 51 wr gA #[.int .i64 r.f0, .int .i64 r.f1, .bool r.f2, .string r.f3] W) ((((GA.out.set 0 (.int .i64 r.f0)).set 1 (.int .i64 r.f1)).set 2 (.bool r.f2)).set 3 (.string r.f3)) ?_
           clear q0 q1 q2 q3 z0 z1 z2 z3 GA p0 p1 p2 p3
           rintro V9 hV
           have B9 := Lib.hid (below_step BW.out hV.b)
           have p2 := (blk_cell hV.hx 2).trans rfl
           have p3 := (blk_cell hV.hx 3).trans rfl
           clear hV BW
           go_wp2
           go_roundw
           case rel => exact ⟨kk + 1, by omega, by go_num, by rw [TK.out], B9⟩
           case measure =>
            simp only [cntV]
            omega
          ·have d1 : decide ((kk : Int) < (R3.length : Int)) = false := by simp; omega
           have ek : R3.take kk = R3 := List.take_of_length_le (by omega)
           rw [ek]
           have LZ3n := Lib.hid (LZ3.out.next BW.out)
           have y0 := (blk_cell LZ3n.out.h9 0).trans rfl
           have y1 := (blk_cell LZ3n.out.h9 1).trans rfl
           clear BW ek CR3
           go_wp2
           go_loopw [117, 23, 16] (fun s117 s23 s16 wr => ∃ kk : Nat, kk ≤ xs.length ∧ s117 = .int .i64 (kk : Int) ∧ s23 = .string (catW q (xs.take kk)) ∧ s16 = .int .i64 (((hidR R1 : Nat) : Int) - ((shutN q (xs.take kk) : Nat) : Int)) ∧ Hid (VL w w.heap.size w.heap.size gB B d os #[.slice B os.length d] 23 A8 c8 xss8 xs wr)) (fun s117 _ _ _ => xs.length - cntV s117)
           case atStart => exact ⟨0, Nat.zero_le _, rfl, rfl, by simp [shutN], LZ3n⟩
           case round =>
            obtain ⟨kk, hkk, rfl, rfl, rfl, LX⟩ := hrel
            clear y0 y1
            by_cases hlt : kk < xs.length
            ·have d1 : decide ((kk : Int) < (xs.length : Int)) = true := by simp; omega
             have b1 : (0 : Int) ≤ (kk : Int) := by omega
             have b2 : (kk : Int) < (xs.length : Int) := by omega
             obtain ⟨x, hx⟩ : ∃ x, xs[kk]? = some x := ⟨_, List.getElem?_eq_getElem hlt⟩
             obtain ⟨ad, A3, c3, A4, c4, e0, p0, p1, p2, p3, p4, hgr⟩ := at_G (Kd.C_below HR.out LX.out.b) hx hlt
             subst e0
             have TK := Lib.hid (catW_take (q := q) hx)
             have HK := Lib.hid (shutN_take (q := q) hx)
             have w1_ : IntKind.i64.wrap ((kk : Int) + 1) = (kk : Int) + 1 := IntWalk.i64_in _ (by have := HLX.out; omega)
             have w2_ : IntKind.i64.wrap (((hidR R1 : Nat) : Int) - ((shutN q (xs.take kk) : Nat) : Int) - 1) = ((hidR R1 : Nat) : Int) - ((shutN q (xs.take kk) : Nat) : Int) - 1 := IntWalk.i64_in _ (by have := LN1.out; have := hidR_le R1; have := shutN_le q (xs.take kk); have := HLX.out; rw [List.length_take] at *; omega)
             have nov : ¬ (9223372036854775807 < (catW q (xs.take kk)).size + x.f2.size) := by
              have h1 := catW_size (q := q) (xs := xs.take kk) (fun x hx => OK.out.1 x (List.mem_of_mem_take hx)) (fun x hx => HZ.out x (List.mem_of_mem_take hx))
              have h2 := (HZ.out x (List.mem_of_getElem? hx)).s2
              have h3 : (xs.take kk).length ≤ 40 := by have := HLX.out; rw [List.length_take]; omega
              omega
             clear hx hgr
             go_upto_region 35 with (first | ((with_reducible refine gate_dst (N := 25) rfl ?_); refine box_event ?hg (N := 25) ?hd (cs := #[.int .i64 0, .int .i64 0, .string ByteArray.empty, .slice none 0 0, .slice none 0 0]) (t := 33) ?hr ?_; (case hd => rfl); (case hg => rfl); (case hr => first | (go_simp; done) | (go_simp; rfl)); intro gA hgA wA hxA hbA; have GA := Lib.hid (show TB 33 wr gA #[.int .i64 0, .int .i64 0, .string ByteArray.empty, .slice none 0 0, .slice none 0 0] wA from ⟨hbA, by rw [hgA]; exact Nat.le_refl _, hxA⟩); have q0 := (blk_cell hxA 0).trans rfl; have q1 := (blk_cell hxA 1).trans rfl; have q2 := (blk_cell hxA 2).trans rfl; have q3 := (blk_cell hxA 3).trans rfl; have q4 := (blk_cell hxA 4).trans rfl; have z0 := blk_frozen hxA 0; have z1 := blk_frozen hxA 1; have z2 := blk_frozen hxA 2; have z3 := blk_frozen hxA 3; have z4 := blk_frozen hxA 4; clear hgA hxA hbA))
             refine gen2 (φ := fun W => Code.wp _ _ _ _ W) (P := fun W => TB 33 wr gA #[.int .i64 x.f0, .int .i64 x.f1, .string x.f2, .slice A3 x.f3.length c3, .slice A4 x.f4.length c4] W) (((((GA.out.set 0 (.int .i64 x.f0)).set 1 (.int .i64 x.f1)).set 2 (.string x.f2)).set 3 (.slice A3 x.f3.length c3)).set 4 (.slice A4 x.f4.length c4)) ?_
             clear q0 q1 q2 q3 q4 z0 z1 z2 z3 z4 GA p0 p1 p2 p3 p4
             rintro V9 hV
             have L9 := Lib.hid (LX.out.next hV.b)
             have TV := Lib.hid hV
             have p1 := (blk_cell hV.hx 1).trans rfl
             clear hV LX
             go_wp2_with fail
             (refine (PH.out _ L9.out _ x.f1 (Below.refl _ _)).mono ?_; rintro e w5 ⟨rfl, hb5⟩)
             have L10 := Lib.hid (L9.out.next hb5)
             have p2 := (blk_cell (TV.out.next hb5).hx 2).trans rfl
             clear hb5 L9 p1 TV
             cases hb : q x.f1 with
             | true =>
              rw [hb] at TK HK
              clear hb
              go_wp2
              go_roundw
              case rel => exact ⟨kk + 1, by omega, by go_num, by rw [TK.out]; rfl, by rw [HK.out]; rfl, L10⟩
              case measure =>
               simp only [cntV]
               omega
             | false =>
              rw [hb] at TK HK
              clear hb
              go_wp2
              go_roundw
              case rel => exact ⟨kk + 1, by omega, by go_num, by rw [TK.out]; rfl, by rw [HK.out, Int.sub_sub]; rfl, L10⟩
              case measure =>
               simp only [cntV]
               omega
            ·have d1 : decide ((kk : Int) < (xs.length : Int)) = false := by simp; omega
             have ek : xs.take kk = xs := List.take_of_length_le (by omega)
             rw [ek]
             have f1 : catR R1 = catW q xs := by rw [ER1.out]; exact WA.out
             have f2 : catR R2 ++ catR R3 = catW q xs := by rw [ER2.out, ER3.out]; exact WT.out Z ZB.out.1 ZB.out.2.1
             have f3 : ((hidR R1 : Nat) : Int) - ((shutN q xs : Nat) : Int) = 0 := by rw [ER1.out, WH.out]; omega
             have nov : ¬ (9223372036854775807 < (catR R2).size + (catR R3).size) := by
              have h1 := catR_size SZ2.out
              have h2 := catR_size SZ3.out
              have := LN2.out
              have := LN3.out
              omega
             rw [f3, f1]
             generalize catW q xs = s0 at f2
             generalize catR R2 = s2 at f2 nov
             generalize catR R3 = s3 at f2 nov
             clear f1 f3 ek
             go_wp2
             go_ret
             exact ⟨rfl, LX.out.b⟩
end Go.Proofs.YtlcfhmnjdkhkoaaDoor.Seg
