/- Marks: the walk of the law MarksPut. Conditions: none beside the row's. -/
import Derived.Test.YtdgjjdpeaohebaaGMarksK11
namespace Go.Proofs.Ytdgjjdpeaohebaa.Mk
open Go.RowKit Go.Proofs.YtdgjjdpeaohebaaW.PrintWords Go.Proofs.YtdgjjdpeaohebaaW.PrintLast Go.Proofs.YtdgjjdpeaohebaaW.PrintMore Go.Proofs.Ytdgjjdpeaohebaa.PMarksTake Go.Proofs.Ytdgjjdpeaohebaa.Pure
set_option linter.unusedVariables false
set_option linter.unusedSimpArgs false
theorem toP_eq {a k p : Int} (ha : 0 ≤ a) (hk : 0 ≤ k ∧ k ≤ 300) (hp : 0 ≤ p ∧ p ≤ 2000) : toP a k p = if p > a then p + k else p := by
 unfold toP
 split
 ·exact IntWalk.i64_in _ (by omega)
 ·rfl
set_option maxRecDepth 1000000 in
set_option maxHeartbeats 8000000 in
theorem marksPut_walk (A0 : Option Addr) (c0 : Nat) (xs : List Sp) (B0 : Option Addr) (d0 : Nat) (ys : List SY) (n a b k m : Int) (w : World) (hr : Kd.C kSp w A0 xs.length xs) (hc : xs.length ≤ c0) (hs : Kd.C kY w B0 ys.length ys) (hd : ys.length ≤ d0) (hlx : xs.length ≤ 8796093022208) (hly : ys.length ≤ 8796093022208) :
  Calls Try.prog 6 #[.agg #[.slice A0 xs.length c0, .slice B0 ys.length d0, .int .i64 n, .int .i64 a, .int .i64 b], .int .i64 k, .int .i64 m] w fun e w' => e = .returned (.bool true) ∧ Below w.heap.size w w' := by
 have HR := Lib.hid hr
 have HS := Lib.hid hs
 clear hr hs
 obtain ⟨c3, hc3⟩ : ∃ c : Array Value, c = #[.slice A0 xs.length c0, .slice B0 ys.length d0, .int .i64 n, .int .i64 a, .int .i64 b] := ⟨_, rfl⟩
 have HC3 := Lib.hid hc3
 clear hc3
 go_enter Try.func6, Try.ntmps6
 go_upto_region 1 with fail
 refine gen2 (φ := fun W => Code.wp _ _ _ _ W) (P := fun W => Below w.heap.size w W ∧ W.heap[w.heap.size]? = some (.cells c3 33 (0, 0))) ⟨below_alloc (Below.refl _ _) _, by rw [HC3.out]; exact blk_new w _⟩ ?_
 rintro V0 ⟨hb0, h30⟩
 have B0_ := Lib.hid hb0
 have X3 := Lib.hid h30
 clear hb0 h30
 go_upto_region 2 with (first | (go_at_call 21; refine (put_calls none 0 [] none 0 [] 1 2 7 _ (Kd.C_nil kSp _) (Nat.le_refl _) (Kd.C_nil kY _) (Nat.le_refl _) (by decide) (by decide) (by decide) (by decide) (by simp)).mono ?_; rintro e w1 ha; obtain ⟨A1, c1, B1, d1, e1, h1, h2, hb1⟩ := ha; subst e1; have BP := Lib.hid hb1; have C1 := Lib.hid (show Kd.C kSp w1 A1 1 [(⟨7, 1, 3⟩ : Sp)] from (Kd.R_reads' h1).2.2); clear h1 h2 hb1; (try dsimp only [show (putL 1 2 7 ([] : List Sp)).length = 1 from rfl])) | ((with_reducible refine gate_dst (N := 7) rfl ?_); refine box_event ?hg (N := 7) ?hd (cs := #[.slice none 0 0, .slice none 0 0]) (t := 28) ?hr ?_; (case hd => rfl); (case hg => rfl); (case hr => first | (go_simp; done) | (go_simp; rfl)); intro g7 hg7 w7 hx7 hb7; have GA := Lib.hid (show TBm 28 w1 g7 #[.slice none 0 0, .slice none 0 0] w7 from ⟨hb7, by rw [hg7]; exact Nat.le_refl _, hx7⟩); have q0 := (blk_cell hx7 0).trans rfl; have q1 := (blk_cell hx7 1).trans rfl; have z0 := blk_frozen hx7 0; have z1 := blk_frozen hx7 1; clear hg7 hx7 hb7))
 refine gen2 (φ := fun W => Code.wp _ _ _ _ W) (P := fun W => TBm 28 w1 g7 #[.slice A1 1 c1, .slice B1 0 d1] W) ((GA.out.set 0 (.slice A1 1 c1)).set 1 (.slice B1 0 d1)) ?_
 clear q0 q1 z0 z1 GA
 rintro V1 hV1
 have BV := Lib.hid (below_step (below_step B0_.out BP.out) hV1.b)
 have Y3 := Lib.hid (blk_below (blk_below X3.out BP.out) hV1.b)
 obtain ⟨ad, e1, y0, y1, y2⟩ := at_S (j := 0) (x := ⟨7, 1, 3⟩) (Kd.C_below C1.out hV1.b) rfl (by decide)
 subst e1
 have x0 := (blk_cell hV1.hx 0).trans rfl
 have hx0 : ad.add (0 * 3) = ad := by rw [Nat.zero_mul]; unfold Addr.add; (repeat' split) <;> simp_all
 rw [hx0] at y0 y1 y2
 clear hV1 X3 B0_ C1 BP hx0
 go_upto_region 4 with fail
 clear y0 y1 y2 x0
 have Y3' := Y3.out
 rw [HC3.out] at Y3'
 have f0 := (blk_cell Y3' 0).trans rfl
 have f1 := (blk_cell Y3' 1).trans rfl
 have f2 := (blk_cell Y3' 2).trans rfl
 have f3 := (blk_cell Y3' 3).trans rfl
 have f4 := (blk_cell Y3' 4).trans rfl
 clear Y3'
 obtain ⟨cb, hcb⟩ : ∃ cb, cb = caseB xs ys n a b := ⟨_, rfl⟩
 have HCB := Lib.hid hcb
 clear hcb
 go_upto_region 5 with (first | (go_at_call 12; refine (right_calls A0 c0 xs B0 d0 ys n a b _ (Kd.C_below HR.out BV.out) hc (Kd.C_below HS.out BV.out) hd hlx hly).mono ?_; rintro e w2 ⟨v1, v2, rfl, m1, m2, hb2⟩; rw [← HCB.out]; obtain ⟨A1, c1, B1, d1, e1, m1⟩ := m1; obtain ⟨A2, c2, B2, d2, e2, m2⟩ := m2; subst e1; subst e2; have M1 := Lib.hid m1; have M2 := Lib.hid m2; clear m1 m2; have HB2 := Lib.hid hb2; clear hb2) | ((with_reducible refine gate_dst (N := 8) rfl ?_); refine box_event ?hg (N := 8) ?hd (cs := #[.slice none 0 0, .slice none 0 0]) (t := 28) ?hr ?_; (case hd => rfl); (case hg => rfl); (case hr => first | (go_simp; done) | (go_simp; rfl)); intro g8 hg8 w8 hx8 hb8; have G8 := Lib.hid (show TBm 28 w2 g8 #[.slice none 0 0, .slice none 0 0] w8 from ⟨hb8, by rw [hg8]; exact Nat.le_refl _, hx8⟩); have q80 := (blk_cell hx8 0).trans rfl; have z80 := blk_frozen hx8 0; have q81 := (blk_cell hx8 1).trans rfl; have z81 := blk_frozen hx8 1; clear hg8 hx8 hb8) | ((with_reducible refine gate_dst (N := 9) rfl ?_); refine box_event ?hg (N := 9) ?hd (cs := #[.slice none 0 0, .slice none 0 0]) (t := 30) ?hr ?_; (case hd => rfl); (case hg => rfl); (case hr => first | (go_simp; done) | (go_simp; rfl)); intro g9 hg9 w9 hx9 hb9; have G9 := Lib.hid (show TBm 30 w8 g9 #[.slice none 0 0, .slice none 0 0] w9 from ⟨hb9, by rw [hg9]; exact Nat.le_refl _, hx9⟩); have q90 := (blk_cell hx9 0).trans rfl; have z90 := blk_frozen hx9 0; have q91 := (blk_cell hx9 1).trans rfl; have z91 := blk_frozen hx9 1; have n89 : g8 ≠ g9 := Nat.ne_of_lt (Nat.lt_of_lt_of_le (blk_lt G8.out.hx) G9.out.lo); have n98 : g9 ≠ g8 := n89.symm; clear q80 q81 z80 z81; have q80 := (blk_cell (blk_below G8.out.hx G9.out.b) 0).trans rfl; have q81 := (blk_cell (blk_below G8.out.hx G9.out.b) 1).trans rfl; have z80 := blk_frozen (blk_below G8.out.hx G9.out.b) 0; have z81 := blk_frozen (blk_below G8.out.hx G9.out.b) 1; clear hg9 hx9 hb9))
 refine gen2 (φ := fun W => Code.wp _ _ _ _ W) (P := fun W => L3 w w.heap.size g8 g9 c3 #[.slice A1 xs.length c1, .slice B1 ys.length d1] #[.slice A2 xs.length c2, .slice B2 ys.length d2] W ∧ Below w2.heap.size w2 W) (by
  obtain ⟨t8, t9⟩ := two_set (blk_below G8.out.hx G9.out.b) G9.out.hx (.slice A1 xs.length c1) (.slice B1 ys.length d1) (.slice A2 xs.length c2) (.slice B2 ys.length d2)
  have l8 := G8.out.lo
  have l9 := G9.out.lo
  have b2 := below_set (below_set (below_set (below_set (below_step G8.out.b G9.out.b) l8 (j := 0) (v := .slice A1 xs.length c1)) l8 (j := 1) (v := .slice B1 ys.length d1)) (Nat.le_trans G8.out.b.size l9) (j := 0) (v := .slice A2 xs.length c2)) (Nat.le_trans G8.out.b.size l9) (j := 1) (v := .slice B2 ys.length d2)
  exact ⟨⟨below_step (below_step BV.out HB2.out) b2, blk_below (blk_below Y3.out HB2.out) b2, t8, t9⟩, b2⟩) ?_
 rintro W ⟨hW, hb⟩
 have HW := Lib.hid hW
 have HBW := Lib.hid (below_step HB2.out hb)
 have MX := Lib.hid (M1.out.below hb)
 have MW := Lib.hid (M2.out.below hb)
 clear hW hb f0 f1 f2 f3 f4 BV Y3 G8 G9 M1 M2 HB2 q80 q81 q90 q91 z80 z81 z90 z91 n89 n98
 cases cb with
 | false =>
  go_wp2
  go_ret
  exact ⟨rfl, HW.out.b⟩
 | true =>
  by_cases hk0 : k < 0
  ·have dk : decide (k < 0) = true := by simpa using hk0
   go_wp2
   go_ret
   exact ⟨rfl, HW.out.b⟩
  have dk : decide (k < 0) = false := by simpa using hk0
  by_cases hk3 : 300 < k
  ·have dk3 : decide (300 < k) = true := by simpa using hk3
   go_wp2
   go_ret
   exact ⟨rfl, HW.out.b⟩
  have dk3 : decide (300 < k) = false := by simpa using hk3
  obtain ⟨i1, i2, i3, i4, i5, i6, i7, i8⟩ := case_iff.1 HCB.out.symm
  obtain ⟨N, rfl⟩ := Int.eq_ofNat_of_zero_le i1
  obtain ⟨P, rfl⟩ := Int.eq_ofNat_of_zero_le i3
  obtain ⟨K, rfl⟩ := Int.eq_ofNat_of_zero_le (show 0 ≤ k by omega)
  obtain ⟨j1, j2⟩ := right_iff.1 i8
  have HX := Lib.hid (ok_each j1)
  have HJ1 := Lib.hid j1
  have HJ2 := Lib.hid j2
  have HI := Lib.hid (show N ≤ 2000 ∧ P ≤ N ∧ K ≤ 300 ∧ xs.length ≤ 2000 ∧ ys.length ≤ 300 by omega)
  obtain ⟨pl, hpl⟩ : ∃ l, l = putL (P : Int) (K : Int) m xs := ⟨_, rfl⟩
  obtain ⟨nz, hnz⟩ : ∃ l, l = normY (ys.map (mvY (toP (P : Int) (K : Int)))) := ⟨_, rfl⟩
  have HPL := Lib.hid hpl
  have HNZ := Lib.hid hnz
  have LP : Hid (pl.length ≤ 8000) := Lib.hid (by
   have h := putGo_len (P : Int) (K : Int) m xs [] false
   have h2 := addL_length (putGo (P : Int) (K : Int) m xs [] false).1 (freshS (P : Int) (K : Int) m)
   rw [hpl]
   unfold putL
   simp only [List.length_nil] at h
   have := HI.out
   split <;> omega)
  have LN : Hid (nz.length ≤ 8000) := Lib.hid (by
   have h := normY_len (ys.map (mvY (toP (P : Int) (K : Int))))
   rw [hnz]
   rw [List.length_map] at h
   have := HI.out
   omega)
  have RB : Hid (rightB ((N : Int) + (K : Int)) pl nz = true) := Lib.hid (right_iff.2 ⟨by rw [hpl]; exact (putL_ok j1 (by omega) (by omega) (by omega)).1, by
   rw [hnz]
   refine norm_right j2 (fun p h0 h1 => ?_)
   rw [toP_eq (by omega) (by omega) (by omega)]
   split <;> omega⟩)
  have Y3' := HW.out.h3
  rw [HC3.out] at Y3'
  have f2 := (blk_cell Y3' 2).trans rfl
  have f3 := (blk_cell Y3' 3).trans rfl
  have f4 := (blk_cell Y3' 4).trans rfl
  have r0 := (blk_cell HW.out.h8 0).trans rfl
  have r1 := (blk_cell HW.out.h8 1).trans rfl
  have wN : IntKind.i64.wrap ((N : Int) + (K : Int)) = (N : Int) + (K : Int) := IntWalk.i64_in _ (by omega)
  clear i1 i2 i3 i4 i5 i6 i7 i8 j1 j2 hpl hnz HCB hk0 hk3 Y3'
  go_upto_region 8 with (first | (go_at_call 21; refine (put_calls A1 c1 xs B1 d1 ys (P : Int) (K : Int) m _ MX.out.2.2.1 MX.out.1 MX.out.2.2.2 MX.out.2.1 (by have := HI.out; omega) (by have := HI.out; omega) (by have := HI.out; omega) (by have := HI.out; omega) (fun x hx => by have := HX.out x hx; have := HI.out; omega)).mono ?_; rintro e w4 ha; rw [← HPL.out, ← HNZ.out] at ha; obtain ⟨A4, c4, B4, d4, e4, m4, hb4⟩ := ha.is; subst e4; have M4 := Lib.hid m4; have HB4 := Lib.hid hb4; clear ha m4 hb4) | ((with_reducible refine gate_dst (N := 11) rfl ?_); refine box_event ?hg (N := 11) ?hd (cs := #[.slice none 0 0, .slice none 0 0]) (t := 28) ?hr ?_; (case hd => rfl); (case hg => rfl); (case hr => first | (go_simp; done) | (go_simp; rfl)); intro g11 hg11 w11 hx11 hb11; have G11 := Lib.hid (show TBm 28 w4 g11 #[.slice none 0 0, .slice none 0 0] w11 from ⟨hb11, by rw [hg11]; exact Nat.le_refl _, hx11⟩); have q110 := (blk_cell hx11 0).trans rfl; have z110 := blk_frozen hx11 0; have q111 := (blk_cell hx11 1).trans rfl; have z111 := blk_frozen hx11 1; clear hg11 hx11 hb11))
  refine gen2 (φ := fun W => Code.wp _ _ _ _ W) (P := fun W => TBm 28 w4 g11 #[.slice A4 pl.length c4, .slice B4 nz.length d4] W) ((G11.out.set 0 (.slice A4 pl.length c4)).set 1 (.slice B4 nz.length d4)) ?_
  rintro V hV
  have BV := Lib.hid (below_step HB4.out hV.b)
  have M4' := Lib.hid (M4.out.below hV.b)
  have MW' := Lib.hid (MW.out.below (below_step HB4.out hV.b))
  have BL := Lib.hid (below_step HW.out.b BV.out)
  have QS := Lib.hid (show SL V w.heap.size g11 g9 (N : Int) (P : Int) b (.slice A4 pl.length c4) (.slice B4 nz.length d4) (.slice A2 xs.length c2) (.slice B2 ys.length d2) V from
   ⟨pw_cell_below BV.out f2, pw_cell_below BV.out f3, pw_cell_below BV.out f4, (blk_cell hV.hx 0).trans rfl, (blk_cell hV.hx 1).trans rfl, (blk_cell (blk_below HW.out.h9 BV.out) 0).trans rfl, (blk_cell (blk_below HW.out.h9 BV.out) 1).trans rfl, Below.refl _ _⟩)
  clear hV f2 f3 f4 r0 r1 q110 q111 z110 z111 G11 M4 MW MX HW HB4 HBW HR HS
  go_region_held3 (fun w' => SL V w.heap.size g11 g9 (N : Int) (P : Int) b (.slice A4 pl.length c4) (.slice B4 nz.length d4) (.slice A2 xs.length c2) (.slice B2 ys.length d2) w')
   (first | (with_reducible assumption) | (with_reducible exact HS22.out) | (with_reducible exact HS17.out) | (with_reducible exact HS9.out) | exact QS.out.next (by (with_reducible repeat (first | exact Below.refl _ _ | apply pw_below_drewN | apply Below.drew | apply below_alloc))))
   (first
   | (go_at_call 22; (refine (refPut_calls A2 c2 xs B2 d2 ys N P K m _ ?ca MW'.out.1 ?cb MW'.out.2.1 ?cc ?cd ?ce ?cf ?cg HJ1.out).mono ?_); (case ca => exact (MW'.out.below (SL.b (‹SL V w.heap.size g11 g9 (N : Int) (P : Int) b (.slice A4 pl.length c4) (.slice B4 nz.length d4) (.slice A2 xs.length c2) (.slice B2 ys.length d2) _›))).2.2.1); (case cb => exact (MW'.out.below (SL.b (‹SL V w.heap.size g11 g9 (N : Int) (P : Int) b (.slice A4 pl.length c4) (.slice B4 nz.length d4) (.slice A2 xs.length c2) (.slice B2 ys.length d2) _›))).2.2.2); (case cc => have := HI.out; omega); (case cd => have := HI.out; omega); (case ce => have := HI.out; omega); (case cf => exact HI.out.2.1); (case cg => have := HI.out; omega); rintro e w5 ha5; rw [← HPL.out, ← HNZ.out] at ha5; obtain ⟨A5, c5, B5, d5, e5, m5, hb5⟩ := ha5.is; subst e5; have M5 := Lib.hid m5; have HS22 := Lib.hid (SL.next (‹SL V w.heap.size g11 g9 (N : Int) (P : Int) b (.slice A4 pl.length c4) (.slice B4 nz.length d4) (.slice A2 xs.length c2) (.slice B2 ys.length d2) _›) hb5); clear ha5 m5 hb5)
   | (go_at_call 17; (refine (same_calls A4 c4 B4 d4 A5 c5 B5 d5 pl nz _ ?da M4'.out.1 ?db M4'.out.2.1 ?dc M5.out.1 ?dd M5.out.2.1 ?de ?df).mono ?_); (case da => exact (M4'.out.below (SL.b (‹SL V w.heap.size g11 g9 (N : Int) (P : Int) b (.slice A4 pl.length c4) (.slice B4 nz.length d4) (.slice A2 xs.length c2) (.slice B2 ys.length d2) _›))).2.2.1); (case db => exact (M4'.out.below (SL.b (‹SL V w.heap.size g11 g9 (N : Int) (P : Int) b (.slice A4 pl.length c4) (.slice B4 nz.length d4) (.slice A2 xs.length c2) (.slice B2 ys.length d2) _›))).2.2.2); (case dc => first | exact M5.out.2.2.1 | exact (M5.out.below (by repeat (first | exact Below.refl _ _ | apply pw_below_drewN | apply Below.drew))).2.2.1); (case dd => first | exact M5.out.2.2.2 | exact (M5.out.below (by repeat (first | exact Below.refl _ _ | apply pw_below_drewN | apply Below.drew))).2.2.2); (case de => have := LP.out; omega); (case df => have := LN.out; omega); rintro e w6 ⟨rfl, hb6⟩; have HS17 := Lib.hid (SL.next (‹SL V w.heap.size g11 g9 (N : Int) (P : Int) b (.slice A4 pl.length c4) (.slice B4 nz.length d4) (.slice A2 xs.length c2) (.slice B2 ys.length d2) _›) hb6); clear hb6)
   | (go_at_call 9; (refine (rightM_calls A4 c4 B4 d4 pl nz ((N : Int) + (K : Int)) _ ?ea M4'.out.1 ?eb M4'.out.2.1 ?ec ?ed).mono ?_); (case ea => exact (M4'.out.below (SL.b (‹SL V w.heap.size g11 g9 (N : Int) (P : Int) b (.slice A4 pl.length c4) (.slice B4 nz.length d4) (.slice A2 xs.length c2) (.slice B2 ys.length d2) _›))).2.2.1); (case eb => exact (M4'.out.below (SL.b (‹SL V w.heap.size g11 g9 (N : Int) (P : Int) b (.slice A4 pl.length c4) (.slice B4 nz.length d4) (.slice A2 xs.length c2) (.slice B2 ys.length d2) _›))).2.2.2); (case ec => have := LP.out; omega); (case ed => have := LN.out; omega); rw [RB.out]; rintro e w7 ⟨rfl, hb7⟩; have HS9 := Lib.hid (SL.next (‹SL V w.heap.size g11 g9 (N : Int) (P : Int) b (.slice A4 pl.length c4) (.slice B4 nz.length d4) (.slice A2 xs.length c2) (.slice B2 ys.length d2) _›) hb7); clear hb7))
  all_goals
   go_wp2
   go_ret
   exact ⟨rfl, below_step BL.out (SL.b (by assumption))⟩
end Go.Proofs.Ytdgjjdpeaohebaa.Mk
