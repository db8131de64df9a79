/- The walk of the law SheetLoads: it answers true. Conditions: the sizes that every row has; Go's two tables of utf8 as they are laid. -/
import Derived.Test.YtkkjebjlgcggcaaDoorGE
import Derived.Test.YtkkjebjlgcggcaaDoorPl
namespace Go.Proofs.YtkkjebjlgcggcaaDoor.Seg
open Go.RowKit Go.Proofs.YtkkjebjlgcggcaaDoorPl Go.Maps Go.Proofs.YtkkjebjlgcggcaaDoorW.PrintWords Go.Proofs.YtkkjebjlgcggcaaDoorW.PrintLast Go.Proofs.YtkkjebjlgcggcaaDoorW.PrintMore Go.Proofs.YtkkjebjlgcggcaaDoor.Rope Go.Proofs.YtkkjebjlgcggcaaDoor.PSheetLoads Go.Proofs.YtkkjebjlgcggcaaDoor.Pure
set_option linter.unusedVariables false
set_option linter.unusedSimpArgs false
theorem shLoad_good (f : Bool) (A : Option Addr) (c : Nat) (xs : List G) (w : World) (hT : Tabs w) (hr : Kd.C kG w A xs.length xs) (hz : ∀ x ∈ xs, Sz x) (hl : xs.length ≤ 1099511627776) (hwf : ∀ x ∈ xs, (Lit.int .i64 x.f0).wf = true) (hok : okS xs) :
  Calls Tryd.prog 7 #[.bool f, .slice A xs.length c] w fun e w' => ∃ A c xss, e = .returned (.tuple #[.agg #[.bool f, .slice A xss.length c], .bool true]) ∧ Sh w' A c xss xs ∧ Below w.heap.size w w' := by
 refine (shLoad_calls f A c xs w hT hr hz hl hwf).mono ?_
 rintro e w' (⟨_, A', c', xss, rfl, hs, hb⟩ | ⟨hn, _⟩)
 ·exact ⟨A', c', xss, by rw [hs.len], hs, hb⟩
 ·exact absurd hok hn
theorem shLoad_bad (f : Bool) (A : Option Addr) (c : Nat) (xs : List G) (w : World) (hT : Tabs w) (hr : Kd.C kG w A xs.length xs) (hz : ∀ x ∈ xs, Sz x) (hl : xs.length ≤ 1099511627776) (hwf : ∀ x ∈ xs, (Lit.int .i64 x.f0).wf = true) (hok : ¬ okS xs) :
  Calls Tryd.prog 7 #[.bool f, .slice A xs.length c] w fun e w' => e = .returned (.tuple #[.agg #[.bool false, .slice none 0 0], .bool false]) ∧ Below w.heap.size w w' := by
 refine (shLoad_calls f A c xs w hT hr hz hl hwf).mono ?_
 rintro e w' (⟨h, _⟩ | ⟨_, rfl, hb⟩)
 ·exact absurd h hok
 ·exact ⟨rfl, hb⟩
theorem two_calls (w : World) : Calls Tryd.prog 8 #[] w fun e w' => ∃ A c, e = .returned (.slice A [t1, t2].length c) ∧ Kd.C kG w' A [t1, t2].length [t1, t2] ∧ Below w.heap.size w w' := by
 refine (chancellaw06_two.calls [t1, t2] w rfl).mono ?_
 rintro e w' ⟨v, rfl, hs, hb⟩
 obtain ⟨A, c, e, hc, hC⟩ := Kd.R_reads (Kd.S_R hs)
 subst e
 exact ⟨A, c, rfl, hC, hb⟩
theorem two_wf : ∀ x ∈ [t1, t2], (Lit.int .i64 x.f0).wf = true := fun x hx => by
 rcases List.mem_cons.1 hx with rfl | hx
 ·rfl
 ·rw [List.mem_singleton.1 hx]; rfl
/-- A sheet of no segments. -/
theorem sh_nil (w : World) : Sh w none 0 [] [] := ⟨rfl, Nat.le_refl _, Kd.C_nil _ _, ⟨rfl, fun j cs x h => by simp at h⟩, fun _ e => by cases e⟩
/-- A row of ints, just built. -/
theorem C_ints {W : World} {g : Nat} {l : List Int} (hl : l.length ≤ 9223372036854775807) (h : W.heap[g]? = some (.cells (l.map (Value.int .i64)).toArray 3 (0, 0))) : Kd.C (Kd.int .i64) W (some ⟨g, 0, none⟩) l.length l := by
 refine ⟨rfl, hl, fun _ => ⟨_, rfl, fun j p hj => ?_⟩⟩
 refine ⟨[.int .i64 p], rfl, rfl, fun i u hu => ?_⟩
 rw [add_plain]
 have e : (0 + j * (Kd.int .i64).sz + i) = j + i := by
  show 0 + j * 1 + i = j + i
  omega
 cases i with
 | succ i => simp at hu
 | zero =>
  simp only [List.getElem?_cons_zero, Option.some.injEq] at hu
  subst hu
  rw [blk_cell h]
  have e2 : j * (Kd.int .i64).sz = j := Nat.mul_one j
  simp only [Nat.zero_add, Nat.add_zero, e2]
  simp [hj]
set_option maxRecDepth 1000000 in
set_option maxHeartbeats 8000000 in
theorem sheetLoads_walk (f : Bool) (A : Option Addr) (c : Nat) (xs : List G) (w : World) (hT : Tabs w) (hr : Kd.C kG w A xs.length xs) (hc : xs.length ≤ c) (hn : xs.length ≤ 2932031007402) (hz : ∀ x ∈ xs, x.f2.size ≤ 140737488355328 ∧ x.f3.length ≤ 140737488355328 ∧ x.f4.length ≤ 140737488355328) (hwf : ∀ x ∈ xs, (Lit.int .i64 x.f0).wf = true) :
  Calls Tryd.prog 3 #[.bool f, .slice A xs.length c] w fun e w' => e = .returned (.bool true) ∧ Below w.heap.size w w' := by
 obtain ⟨bs, hbs, hsm⟩ := smallS_ev xs hn hz
 obtain ⟨k1, hk1⟩ := Go.Proofs.YtkkjebjlgcggcaaDoorW.PrintWords.Ev.rounds hbs
 obtain ⟨k0, hk0⟩ := Go.Proofs.YtkkjebjlgcggcaaDoorW.PrintWords.Ev.rounds (ints_ev [1, 2] (by decide))
 have HT := Lib.hid hT
 have HR := Lib.hid hr
 have K0 := Lib.hid hk0
 have K1 := Lib.hid hk1
 have SM := Lib.hid hsm
 have WF := Lib.hid hwf
 clear hT hr hz hbs hk1 hk0 hsm hwf
 go_enter Tryd.func3, Tryd.ntmps3
 go_wp2_with fail
 (go_at_call 8; refine (two_calls _).mono ?_; rintro e w1 ⟨A1, c1, rfl, hC1, hb1⟩)
 have B1 := Lib.hid hb1
 have C1 := Lib.hid hC1
 clear hb1 hC1
 go_wp2_with fail
 (go_at_call 7; refine (shLoad_good true A1 c1 [t1, t2] _ (HT.out.below B1.out) C1.out two_sz (by decide) two_wf two_ok).mono ?_; rintro e w2 ⟨A2, c2, xss2, rfl, hs2, hb2⟩)
 have S2 := Lib.hid hs2
 have B2 := Lib.hid (below_step B1.out hb2)
 have L2 := Lib.hid hs2.len
 clear hs2 hb2 C1 B1
 go_upto_region 2 with (first | ((with_reducible refine gate_dst (N := 5) rfl ?_); refine box_event ?hg (N := 5) ?hd (cs := #[.bool false, .slice none 0 0]) (t := 25) ?hr ?_; (case hd => rfl); (case hg => rfl); (case hr => first | (go_simp; done) | (go_simp; rfl)); intro gA hgA wA hxA hbA; have GA := Lib.hid (show w.heap.size ≤ gA by rw [hgA]; exact B2.out.size); have GB := Lib.hid (show w2.heap.size ≤ gA by rw [hgA]; exact Nat.le_refl _); have BA := Lib.hid hbA; have XA := Lib.hid hxA; have q0 := (blk_cell hxA 0).trans rfl; have q1 := (blk_cell hxA 1).trans rfl; have z0 := blk_frozen hxA 0; have z1 := blk_frozen hxA 1; clear hgA hxA hbA))
 refine gen2 (φ := fun W => Code.wp _ _ _ _ W) (P := fun W => Below w.heap.size w W ∧ W.cell? ⟨gA, 0, none⟩ = some (.bool true) ∧ W.cell? ⟨gA, 1, none⟩ = some (.slice A2 xss2.length c2) ∧ Hid (Sh W A2 c2 xss2 [t1, t2])) ⟨below_set (below_set (below_step B2.out BA.out) GA.out) GA.out, (blk_cell (blk_set (blk_set XA.out 0 (.bool true)) 1 (.slice A2 xss2.length c2)) 0).trans rfl, (blk_cell (blk_set (blk_set XA.out 0 (.bool true)) 1 (.slice A2 xss2.length c2)) 1).trans rfl, Lib.hid (S2.out.below (below_set (below_set BA.out GB.out) GB.out))⟩ ?_
 rintro V ⟨hbV, yA0, yA1, SV⟩
 have BV := Lib.hid hbV
 clear hbV q0 q1 z0 z1 XA BA GA GB S2 B2
 go_wp2_with fail
 (go_at_call 9; refine (frozen_calls true A2 xss2.length c2 _).mono ?_; rintro e w3 ⟨rfl, hb3⟩)
 have B3 := Lib.hid (below_step BV.out hb3)
 have S3 := Lib.hid (SV.out.below hb3)
 have HL : xss2.length ≤ 1099511627776 := by rw [← L2.out]; decide
 replace yA0 := pw_cell_below hb3 yA0
 replace yA1 := pw_cell_below hb3 yA1
 clear hb3 BV SV
 go_wp2_with fail
 (go_at_call 11; refine (ids_calls true A2 c2 xss2 [t1, t2] _ S3.out HL).mono ?_; rintro e w4 ⟨v4, rfl, hr4, hb4⟩)
 have B4 := Lib.hid (below_step B3.out hb4)
 obtain ⟨A4, c4, e4, hc4, hC4⟩ := Kd.R_reads hr4
 have e4' : v4 = .slice A4 2 c4 := e4
 subst e4'
 have C4 := Lib.hid hC4
 clear hb4 hr4 hC4 e4 B3 S3 yA0 yA1 HL L2
 go_wp2_with fail
 have C5 : Hid (Kd.C (Kd.int .i64) (w4.alloc (.cells #[.int .i64 1, .int .i64 2] 3)) (some ⟨w4.heap.size, 0, none⟩) [1, 2].length [1, 2]) := Lib.hid (C_ints (by decide) (blk_new w4 _))
 have B5 := Lib.hid (below_alloc B4.out (.cells #[.int .i64 1, .int .i64 2] 3))
 (go_at_call 10; refine (chancelref03_Ints.calls k0 A4 c4 [1, 2] (some ⟨w4.heap.size, 0, none⟩) 2 [1, 2] true _ (Kd.C_below C4.out (below_alloc (Below.refl _ _) _)) hc4 C5.out (Nat.le_refl _) K0.out).mono ?_; rintro e w6 ⟨rfl, hb6⟩)
 have B6 := Lib.hid (below_step B5.out (below_drawn hb6))
 clear hb6 C4 C5 B4 B5 K0
 go_wp2_with fail
 (go_at_call 12; refine (chancellaw06_Small.calls k1 A c xs bs _ (Kd.C_below HR.out B6.out) hc K1.out).mono ?_; rintro e w7 ⟨rfl, hb7⟩)
 have B7 := Lib.hid (below_step B6.out hb7)
 clear hb7 B6 K1
 cases bs with
 | false =>
  go_wp2
  go_ret
  exact ⟨rfl, B7.out⟩
 | true =>
  obtain ⟨hl40, hz2⟩ := SM.out rfl
  have hn2 : xs.length ≤ 1099511627776 := by omega
  have HZ := Lib.hid hz2
  have L40 := Lib.hid hl40
  clear hz2 hl40 SM
  by_cases ho : okS xs
  ·have OK := Lib.hid ho
   clear ho
   obtain ⟨k3, hk3⟩ := Go.Proofs.YtkkjebjlgcggcaaDoorW.PrintWords.Ev.rounds (same6_ev xs hn2 HZ.out)
   have K3 := Lib.hid hk3
   clear hk3
   go_wp2_with fail
   (go_at_call 7; refine (shLoad_good f A c xs _ (HT.out.below B7.out) (Kd.C_below HR.out B7.out) HZ.out hn2 WF.out OK.out).mono ?_; rintro e w8 ⟨A8, c8, xss8, rfl, hs8, hb8⟩)
   have S8 := Lib.hid hs8
   have L8 := Lib.hid hs8.len
   have B8 := Lib.hid (below_step B7.out hb8)
   clear hs8 hb8 B7
   go_upto_region 7 with (first | ((with_reducible refine gate_dst (N := 7) rfl ?_); refine box_event ?hg (N := 7) ?hd (cs := #[.bool false, .slice none 0 0]) (t := 25) ?hr ?_; (case hd => rfl); (case hg => rfl); (case hr => first | (go_simp; done) | (go_simp; rfl)); intro gC hgC wC hxC hbC; have GA := Lib.hid (show w.heap.size ≤ gC by rw [hgC]; exact B8.out.size); have GB := Lib.hid (show w8.heap.size ≤ gC by rw [hgC]; exact Nat.le_refl _); have BA := Lib.hid hbC; have XA := Lib.hid hxC; have q0 := (blk_cell hxC 0).trans rfl; have q1 := (blk_cell hxC 1).trans rfl; have z0 := blk_frozen hxC 0; have z1 := blk_frozen hxC 1; clear hgC hxC hbC))
   refine gen2 (φ := fun W => Code.wp _ _ _ _ W) (P := fun W => Below w.heap.size w W ∧ W.cell? ⟨gC, 0, none⟩ = some (.bool f) ∧ W.cell? ⟨gC, 1, none⟩ = some (.slice A8 xss8.length c8) ∧ Hid (Sh W A8 c8 xss8 xs)) ⟨below_set (below_set (below_step B8.out BA.out) GA.out) GA.out, (blk_cell (blk_set (blk_set XA.out 0 (.bool f)) 1 (.slice A8 xss8.length c8)) 0).trans rfl, (blk_cell (blk_set (blk_set XA.out 0 (.bool f)) 1 (.slice A8 xss8.length c8)) 1).trans rfl, Lib.hid (S8.out.below (below_set (below_set BA.out GB.out) GB.out))⟩ ?_
   rintro U ⟨hbV, yC0, yC1, SU⟩
   have BU := Lib.hid hbV
   clear hbV q0 q1 z0 z1 XA BA GA GB S8 B8
   go_wp2_with fail
   (go_at_call 13; refine (right6_calls A c xs _ (Kd.C_below HR.out BU.out) hc HZ.out hn2).mono ?_; rintro e w9 ⟨b9, rfl, hi9, hb9⟩)
   have e9 : b9 = true := hi9.2 OK.out
   subst e9
   have B9 := Lib.hid (below_step BU.out hb9)
   have S9 := Lib.hid (SU.out.below hb9)
   have HL : xss8.length ≤ 1099511627776 := by rw [← L8.out]; exact hn2
   replace yC0 := pw_cell_below hb9 yC0
   replace yC1 := pw_cell_below hb9 yC1
   clear hb9 hi9 BU SU
   go_wp2_with fail
   (go_at_call 16; refine (shPlain_calls f A8 c8 xss8 xs _ S9.out HL HZ.out).mono ?_; rintro e w10 ⟨v10, rfl, hr10, hb10⟩)
   have B10 := Lib.hid (below_step B9.out hb10)
   have S10 := Lib.hid (S9.out.below hb10)
   obtain ⟨A10, c10, e10, hc10, hC10⟩ := Kd.R_reads hr10
   subst e10
   have C10 := Lib.hid hC10
   replace yC0 := pw_cell_below hb10 yC0
   replace yC1 := pw_cell_below hb10 yC1
   clear hb10 hr10 hC10 B9 S9
   go_wp2_with fail
   (go_at_call 15; refine (chancelref06_Same.calls k3 A10 c10 xs A c xs true _ C10.out hc10 (Kd.C_below HR.out B10.out) hc K3.out).mono ?_; rintro e w11 ⟨rfl, hb11⟩)
   have B11 := Lib.hid (below_step B10.out hb11)
   have S11 := Lib.hid (S10.out.below hb11)
   replace yC0 := pw_cell_below hb11 yC0
   replace yC1 := pw_cell_below hb11 yC1
   clear hb11 B10 S10 C10 K3
   go_wp2_with fail
   (go_at_call 9; refine (frozen_calls f A8 xss8.length c8 _).mono ?_; rintro e w12 ⟨rfl, hb12⟩)
   have B12 := Lib.hid (below_step B11.out hb12)
   have S12 := Lib.hid (S11.out.below hb12)
   replace yC0 := pw_cell_below hb12 yC0
   replace yC1 := pw_cell_below hb12 yC1
   clear hb12 B11 S11
   go_wp2_with fail
   (go_at_call 14; refine (segs_calls f A8 c8 xss8 xs _ S12.out HL).mono ?_; rintro e w13 ⟨v13, rfl, hr13, hb13⟩)
   have B13 := Lib.hid (below_step B12.out hb13)
   obtain ⟨A13, c13, e13⟩ := Kd.R_slice hr13
   subst e13
   have LE : xss8.length = xs.length := L8.out.symm
   clear hr13 hb13 B12 S12 yC0 yC1
   go_wp2
   go_ret
   refine ⟨?_, B13.out⟩
   simp [LE]
  ·have OK := Lib.hid ho
   clear ho
   go_wp2_with fail
   (go_at_call 7; refine (shLoad_bad f A c xs _ (HT.out.below B7.out) (Kd.C_below HR.out B7.out) HZ.out hn2 WF.out OK.out).mono ?_; rintro e w8 ⟨rfl, hb8⟩)
   have S8 := Lib.hid (sh_nil w8)
   have B8 := Lib.hid (below_step B7.out hb8)
   clear hb8 B7
   go_upto_region 7 with (first | ((with_reducible refine gate_dst (N := 7) rfl ?_); refine box_event ?hg (N := 7) ?hd (cs := #[.bool false, .slice none 0 0]) (t := 25) ?hr ?_; (case hd => rfl); (case hg => rfl); (case hr => first | (go_simp; done) | (go_simp; rfl)); intro gC hgC wC hxC hbC; have GA := Lib.hid (show w.heap.size ≤ gC by rw [hgC]; exact B8.out.size); have GB := Lib.hid (show w8.heap.size ≤ gC by rw [hgC]; exact Nat.le_refl _); have BA := Lib.hid hbC; have XA := Lib.hid hxC; have q0 := (blk_cell hxC 0).trans rfl; have q1 := (blk_cell hxC 1).trans rfl; have z0 := blk_frozen hxC 0; have z1 := blk_frozen hxC 1; clear hgC hxC hbC))
   refine gen2 (φ := fun W => Code.wp _ _ _ _ W) (P := fun W => Below w.heap.size w W ∧ W.cell? ⟨gC, 0, none⟩ = some (.bool false) ∧ W.cell? ⟨gC, 1, none⟩ = some (.slice none 0 0) ∧ Hid (Sh W none 0 ([] : List (List Value)) ([] : List G))) ⟨below_set (below_set (below_step B8.out BA.out) GA.out) GA.out, (blk_cell (blk_set (blk_set XA.out 0 (.bool false)) 1 (.slice none 0 0)) 0).trans rfl, (blk_cell (blk_set (blk_set XA.out 0 (.bool false)) 1 (.slice none 0 0)) 1).trans rfl, Lib.hid (S8.out.below (below_set (below_set BA.out GB.out) GB.out))⟩ ?_
   rintro U ⟨hbV, yC0, yC1, SU⟩
   have BU := Lib.hid hbV
   clear hbV q0 q1 z0 z1 XA BA GA GB S8 B8
   go_wp2_with fail
   (go_at_call 13; refine (right6_calls A c xs _ (Kd.C_below HR.out BU.out) hc HZ.out hn2).mono ?_; rintro e w9 ⟨b9, rfl, hi9, hb9⟩)
   have e9 : b9 = false := by cases b9 with | false => rfl | true => exact absurd (hi9.1 rfl) OK.out
   subst e9
   have B9 := Lib.hid (below_step BU.out hb9)
   have S9 := Lib.hid (SU.out.below hb9)
   replace yC0 := pw_cell_below hb9 yC0
   replace yC1 := pw_cell_below hb9 yC1
   clear hb9 hi9 BU SU
   go_wp2_with fail
   (go_at_call 14; refine (segs_calls false none 0 [] [] _ S9.out (by decide)).mono ?_; rintro e w10 ⟨v10, rfl, hr10, hb10⟩)
   have B10 := Lib.hid (below_step B9.out hb10)
   obtain ⟨A10, c10, e10⟩ := Kd.R_slice hr10
   have e10' : v10 = .slice A10 0 c10 := e10
   subst e10'
   replace yC0 := pw_cell_below hb10 yC0
   replace yC1 := pw_cell_below hb10 yC1
   clear hr10 hb10 e10 B9 S9
   go_wp2_with fail
   (go_at_call 9; refine (frozen_calls false none 0 0 _).mono ?_; rintro e w11 ⟨rfl, hb11⟩)
   have B11 := Lib.hid (below_step B10.out hb11)
   clear hb11 B10 yC0 yC1
   go_wp2
   go_ret
   exact ⟨rfl, B11.out⟩
end Go.Proofs.YtkkjebjlgcggcaaDoor.Seg
