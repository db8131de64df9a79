/- The walk of the law SheetFinds: it answers true. Conditions: the sizes that every row has; Go's two tables of utf8 as they are laid. -/
import Derived.Test.YtkkjebjlgcggcaaDoorGF
namespace Go.Proofs.YtkkjebjlgcggcaaDoor.Seg
open Go.RowKit Go.Proofs.YtkkjebjlgcggcaaDoorPl Go.Maps Go.Proofs.YtkkjebjlgcggcaaDoorW.PrintWords Go.Proofs.YtkkjebjlgcggcaaDoorW.PrintLast Go.Proofs.YtkkjebjlgcggcaaDoorW.PrintMore Go.Proofs.YtkkjebjlgcggcaaDoor.Rope Go.Proofs.YtkkjebjlgcggcaaDoor.PSheetFinds Go.Proofs.YtkkjebjlgcggcaaDoor.Pure
set_option linter.unusedVariables false
set_option linter.unusedSimpArgs false
attribute [local go_sem] max2_int min2_int max_two min_two
/-- What holds where a segment and a sheet are kept. -/
structure FW (w : World) (gX : Nat) (x : G) (A2 : Option Addr) (c2 : Nat) (B2 : Option Addr) (d2 : Nat) (g7 : Nat) (f : Bool) (A : Option Addr) (c : Nat) (xss : List (List Value)) (xs : List G) (W : World) : Prop where
 b : Below w.heap.size w W
 hX : W.heap[gX]? = some (.cells (gC x A2 c2 B2 d2) 40 (0, 0))
 h7 : W.heap[g7]? = some (.cells #[.bool f, .slice A xss.length c] 25 (0, 0))
 s : Sh W A c xss xs
theorem FW.next {w W W' : World} {gX : Nat} {x : G} {A2 : Option Addr} {c2 : Nat} {B2 : Option Addr} {d2 : Nat} {g7 : Nat} {f : Bool} {A : Option Addr} {c : Nat} {xss : List (List Value)} {xs : List G} (h : FW w gX x A2 c2 B2 d2 g7 f A c xss xs W) (hb : Below W.heap.size W W') : FW w gX x A2 c2 B2 d2 g7 f A c xss xs W' :=
 ⟨below_step h.b hb, blk_below h.hX hb, blk_below h.h7 hb, h.s.below hb⟩
abbrev QF (V : World) (g : Nat) (y : G) (p A : Option Addr) (c : Nat) (B : Option Addr) (d : Nat) (ad : Addr) (kk : Nat) (A9 : Option Addr) (c9 : Nat) (A10 : Option Addr) (c10 : Nat) (w' : World) : Prop :=
 Q5 V g y p A c B d w' ∧ w'.cell? (ad.add (kk * 5)) = some (.int .i64 y.f0) ∧ w'.cell? ⟨(ad.add (kk * 5)).block, (ad.add (kk * 5)).off + 1, none⟩ = some (.int .i64 y.f1) ∧ w'.cell? ⟨(ad.add (kk * 5)).block, (ad.add (kk * 5)).off + 2, none⟩ = some (.string y.f2) ∧ w'.cell? ⟨(ad.add (kk * 5)).block, (ad.add (kk * 5)).off + 3, none⟩ = some (.slice A9 y.f3.length c9) ∧ w'.cell? ⟨(ad.add (kk * 5)).block, (ad.add (kk * 5)).off + 4, none⟩ = some (.slice A10 y.f4.length c10)
section
variable {V W W' : World} {g : Nat} {y : G} {p A : Option Addr} {c : Nat} {B : Option Addr} {d : Nat} {ad : Addr} {kk : Nat} {A9 : Option Addr} {c9 : Nat} {A10 : Option Addr} {c10 : Nat}
theorem QF.b (h : QF V g y p A c B d ad kk A9 c9 A10 c10 W) : Below V.heap.size V W := Q5.b h.1
theorem QF.next (h : QF V g y p A c B d ad kk A9 c9 A10 c10 W) (hb : Below W.heap.size W W') : QF V g y p A c B d ad kk A9 c9 A10 c10 W' := ⟨Q5.next h.1 hb, pw_cell_below hb h.2.1, pw_cell_below hb h.2.2.1, pw_cell_below hb h.2.2.2.1, pw_cell_below hb h.2.2.2.2.1, pw_cell_below hb h.2.2.2.2.2⟩
end
set_option maxRecDepth 1000000 in
set_option maxHeartbeats 16000000 in
theorem sheetFinds_walk (A : Option Addr) (c : Nat) (xs : List G) (x : G) (A2 : Option Addr) (c2 : Nat) (B2 : Option Addr) (d2 : Nat) (id : Int) (w : World) (hT : Tabs w) (hr : Kd.C kG w A xs.length xs) (hc : xs.length ≤ c) (hn : xs.length ≤ 2932031007402) (hz : ∀ x ∈ xs, x.f2.size ≤ 140737488355328 ∧ x.f3.length ≤ 140737488355328 ∧ x.f4.length ≤ 140737488355328) (hwf : ∀ x ∈ xs, (Lit.int .i64 x.f0).wf = true)
  (hg : GR w x A2 c2 B2 d2) (hzx : x.f2.size ≤ 140737488355328 ∧ x.f3.length ≤ 140737488355328 ∧ x.f4.length ≤ 140737488355328) :
  Calls Tryd.prog 4 #[.slice A xs.length c, .agg (gC x A2 c2 B2 d2), .int .i64 id] w fun e w' => e = .returned (.bool true) ∧ Below w.heap.size w w' := by
 obtain ⟨bs, hbs, hsm⟩ := smallS_ev xs hn hz
 obtain ⟨k1, hk1⟩ := Go.Proofs.YtkkjebjlgcggcaaDoorW.PrintWords.Ev.rounds hbs
 obtain ⟨bx, hbx, hsx⟩ := smallS_ev [x] (by (show (1 : Nat) ≤ 2932031007402); decide) (fun y hy => by rw [List.mem_singleton.1 hy]; exact hzx)
 obtain ⟨k2, hk2⟩ := Go.Proofs.YtkkjebjlgcggcaaDoorW.PrintWords.Ev.rounds hbx
 have HT := Lib.hid hT
 have HR := Lib.hid hr
 have HG := Lib.hid hg
 have K1 := Lib.hid hk1
 have K2 := Lib.hid hk2
 have SM := Lib.hid hsm
 have SX := Lib.hid hsx
 have WF := Lib.hid hwf
 clear hT hr hz hbs hk1 hsm hwf hg hzx hbx hk2 hsx
 go_enter Tryd.func4, Tryd.ntmps4
 go_upto_region 1 with (first | ((with_reducible refine gate_dst (N := 4) rfl ?_); refine box_event ?hg (N := 4) ?hd (cs := gC x A2 c2 B2 d2) (t := 40) ?hr ?_; (case hd => rfl); (case hg => rfl); (case hr => first | (go_simp; done) | (go_simp; rfl)); intro gX hgX wX hxX hbX; have B0 := Lib.hid hbX; have XX := Lib.hid hxX; clear hgX hxX hbX))
 go_wp2_with fail
 (go_at_call 8; refine (two_calls _).mono ?_; rintro e w1 ⟨A1, c1, rfl, hC1, hb1⟩)
 have B1 := Lib.hid (below_step B0.out hb1)
 have C1 := Lib.hid hC1
 have X1 := Lib.hid (blk_below XX.out hb1)
 clear hb1 hC1 XX B0
 go_wp2_with fail
 (go_at_call 7; refine (shLoad_good false A1 c1 [t1, t2] _ (HT.out.below B1.out) C1.out two_sz (by decide) two_wf two_ok).mono ?_; rintro e w2 ⟨A3, c3, xss3, rfl, hs2, hb2⟩)
 have S2 := Lib.hid hs2
 have B2_ := Lib.hid (below_step B1.out hb2)
 have X2 := Lib.hid (blk_below X1.out hb2)
 have L2 := Lib.hid hs2.len
 clear hs2 hb2 C1 B1 X1
 go_upto_region 2 with (first | ((with_reducible refine gate_dst (N := 7) rfl ?_); refine box_event ?hg (N := 7) ?hd (cs := #[.bool false, .slice none 0 0]) (t := 25) ?hr ?_; (case hd => rfl); (case hg => rfl); (case hr => first | (go_simp; done) | (go_simp; rfl)); intro gS hgS wS hxS hbS; have GA := Lib.hid (show w.heap.size ≤ gS by rw [hgS]; exact B2_.out.size); have GB := Lib.hid (show w2.heap.size ≤ gS by rw [hgS]; exact Nat.le_refl _); have NX := Lib.hid (show gX ≠ gS by rw [hgS]; exact Nat.ne_of_lt (blk_lt X2.out)); have BA := Lib.hid hbS; have XA := Lib.hid hxS; have q0 := (blk_cell hxS 0).trans rfl; have q1 := (blk_cell hxS 1).trans rfl; have z0 := blk_frozen hxS 0; have z1 := blk_frozen hxS 1; clear hgS hxS hbS))
 refine gen2 (φ := fun W => Code.wp _ _ _ _ W) (P := fun W => FW w gX x A2 c2 B2 d2 gS false A3 c3 xss3 [t1, t2] W) ⟨below_set (below_set (below_step B2_.out BA.out) GA.out) GA.out, blk_below X2.out (below_set (below_set BA.out GB.out) GB.out), by simpa using blk_set (blk_set XA.out 0 (.bool false)) 1 (.slice A3 xss3.length c3), S2.out.below (below_set (below_set BA.out GB.out) GB.out)⟩ ?_
 rintro V hV
 have PV := Lib.hid hV
 have y0 := (blk_cell hV.h7 0).trans rfl
 have y1 := (blk_cell hV.h7 1).trans rfl
 have GS := GA
 clear hV q0 q1 z0 z1 XA BA GA GB S2 B2_ X2
 have HL : xss3.length ≤ 1099511627776 := by rw [← L2.out]; decide
 go_wp2_with fail
 (go_at_call 17; refine (find_hit false A3 c3 xss3 [t1, t2] 2 1 t2 _ PV.out.s HL two_plc rfl).mono ?_; rintro e w3 ⟨p3, A4, c4, B4, d4, rfl, hs3, hb3⟩)
 have P3 := Lib.hid (PV.out.next hb3)
 have S3 := Lib.hid hs3
 clear hb3 hs3 PV y0 y1
 go_upto_region 3 with (first | ((with_reducible refine gate_dst (N := 9) rfl ?_); refine box_event ?hg (N := 9) ?hd (cs := #[.int .i64 0, .int .i64 0, .pointer none, .slice none 0 0, .slice none 0 0]) (t := 45) ?hr ?_; (case hd => rfl); (case hg => rfl); (case hr => first | (go_simp; done) | (go_simp; rfl)); intro gY hgY wY hxY hbY; have GY := Lib.hid (show w3.heap.size ≤ gY by rw [hgY]; exact Nat.le_refl _); have BY := Lib.hid hbY; have XY := Lib.hid hxY; have q0 := (blk_cell hxY 0).trans rfl; have q1 := (blk_cell hxY 1).trans rfl; have q2 := (blk_cell hxY 2).trans rfl; have q3 := (blk_cell hxY 3).trans rfl; have q4 := (blk_cell hxY 4).trans rfl; have z0 := blk_frozen hxY 0; have z1 := blk_frozen hxY 1; have z2 := blk_frozen hxY 2; have z3 := blk_frozen hxY 3; have z4 := blk_frozen hxY 4; clear hgY hxY hbY))
 refine gen2 (φ := fun W => Code.wp _ _ _ _ W) (P := fun W => Below w3.heap.size w3 W ∧ W.heap[gY]? = some (.cells #[.int .i64 t2.f0, .int .i64 t2.f1, .pointer p3, .slice A4 t2.f3.length c4, .slice B4 t2.f4.length d4] 45 (0, 0))) ⟨below_set (below_set (below_set (below_set (below_set BY.out GY.out) GY.out) GY.out) GY.out) GY.out, by simpa using blk_set (blk_set (blk_set (blk_set (blk_set XY.out 0 (.int .i64 t2.f0)) 1 (.int .i64 t2.f1)) 2 (.pointer p3)) 3 (.slice A4 t2.f3.length c4)) 4 (.slice B4 t2.f4.length d4)⟩ ?_
 clear q0 q1 q2 q3 q4 z0 z1 z2 z3 z4 XY BY GY
 rintro V4 ⟨hbV4, hxV4⟩
 have P4 := Lib.hid (P3.out.next hbV4)
 have RP := Lib.hid (S3.out.rp.below hbV4)
 have a0 := (blk_cell hxV4 0).trans rfl
 have a1 := (blk_cell hxV4 1).trans rfl
 have a2 := (blk_cell hxV4 2).trans rfl
 have a3 := (blk_cell hxV4 3).trans rfl
 have a4 := (blk_cell hxV4 4).trans rfl
 clear hbV4 hxV4 P3 S3
 go_wp2_with fail
 (go_at_call 18; refine (rope_segcalls t2 p3 A4 c4 B4 d4 _).mono ?_; rintro e w5 ⟨rfl, hb5⟩)
 have P5 := Lib.hid (P4.out.next hb5)
 have R5 := Lib.hid (RP.out.below hb5)
 clear hb5 P4 RP a0 a1 a2 a3 a4
 go_wp2_with fail
 (go_at_call 19; refine (text_rpS (s := ⟨#[98]⟩) R5.out).mono ?_; rintro e w6 ⟨rfl, hb6⟩)
 have P6 := Lib.hid (P5.out.next hb6)
 clear hb6 P5 R5
 go_wp2_with fail
 (go_at_call 12; refine (chancellaw06_Small.calls k1 A c xs bs _ (Kd.C_below HR.out P6.out.b) hc K1.out).mono ?_; rintro e w7 ⟨rfl, hb7⟩)
 have P7 := Lib.hid (P6.out.next hb7)
 clear hb7 P6 K1
 cases bs with
 | false =>
  go_wp2
  go_ret
  exact ⟨rfl, P7.out.b⟩
 | true =>
  obtain ⟨hl40, hz2⟩ := SM.out rfl
  have hn2 : xs.length ≤ 1099511627776 := by omega
  have HZ := Lib.hid hz2
  clear hz2 hl40 SM
  go_wp2_with fail
  (go_at_call 13; refine (right6_calls A c xs _ (Kd.C_below HR.out P7.out.b) hc HZ.out hn2).mono ?_; rintro e w8 ⟨b8, rfl, hi8, hb8⟩)
  have P8 := Lib.hid (P7.out.next hb8)
  clear hb8 P7
  cases b8 with
  | false =>
   go_wp2
   go_ret
   exact ⟨rfl, P8.out.b⟩
  | true =>
   have OK := Lib.hid (hi8.1 rfl)
   clear hi8
   have a0 := (blk_cell P8.out.hX 0).trans rfl
   have a1 := (blk_cell P8.out.hX 1).trans rfl
   have a2 := (blk_cell P8.out.hX 2).trans rfl
   have a3 := (blk_cell P8.out.hX 3).trans rfl
   have a4 := (blk_cell P8.out.hX 4).trans rfl
   go_wp2_with fail
   have C9 : Hid (Kd.C kG (w8.alloc (.cells (gC x A2 c2 B2 d2) 40)) (some ⟨w8.heap.size, 0, none⟩) [x].length [x]) := Lib.hid (C_oneG (blk_new w8 _) (HG.out.below (below_alloc P8.out.b _)))
   have P9 := Lib.hid (P8.out.next (below_alloc (Below.refl _ _) (.cells (gC x A2 c2 B2 d2) 40)))
   clear P8 a0 a1 a2 a3 a4
   (go_at_call 12; refine (chancellaw06_Small.calls k2 (some ⟨w8.heap.size, 0, none⟩) 1 [x] bx _ C9.out (Nat.le_refl _) K2.out).mono ?_; rintro e w10 ⟨rfl, hb10⟩)
   have P10 := Lib.hid (P9.out.next hb10)
   clear hb10 P9 K2 C9
   cases bx with
   | false =>
    go_wp2
    go_ret
    exact ⟨rfl, P10.out.b⟩
   | true =>
    have ZX := Lib.hid ((SX.out rfl).2 x (List.mem_singleton.2 rfl))
    clear SX
    have a0 := (blk_cell P10.out.hX 0).trans rfl
    have a1 := (blk_cell P10.out.hX 1).trans rfl
    have a2 := (blk_cell P10.out.hX 2).trans rfl
    have a3 := (blk_cell P10.out.hX 3).trans rfl
    have a4 := (blk_cell P10.out.hX 4).trans rfl
    go_wp2_with fail
    (go_at_call 20; refine (right5_calls x A2 c2 B2 d2 _ (HG.out.below P10.out.b) ZX.out).mono ?_; rintro e w11 ⟨rfl, hb11⟩)
    have P11 := Lib.hid (P10.out.next hb11)
    clear hb11 P10 a0 a1 a2 a3 a4
    cases hox : okB x with
    | false =>
     go_wp2
     go_ret
     exact ⟨rfl, P11.out.b⟩
    | true =>
     have OX := Lib.hid hox
     clear hox
     go_wp2_with fail
     (go_at_call 7; refine (shLoad_good false A c xs _ (HT.out.below P11.out.b) (Kd.C_below HR.out P11.out.b) HZ.out hn2 WF.out OK.out).mono ?_; rintro e w12 ⟨A6, c6, xss, rfl, hs12, hb12⟩)
     have P12 := Lib.hid (P11.out.next hb12)
     have S12 := Lib.hid hs12
     have LN := Lib.hid hs12.len
     have y0 := (blk_cell P12.out.h7 0).trans rfl
     have y1 := (blk_cell P12.out.h7 1).trans rfl
     have f0 := blk_frozen P12.out.h7 0
     have f1 := blk_frozen P12.out.h7 1
     clear hb12 hs12 P11
     go_upto_region 8 with (fail)
     refine gen2 (φ := fun W => Code.wp _ _ _ _ W) (P := fun W => FW w gX x A2 c2 B2 d2 gS false A6 c6 xss xs W) ⟨below_set (below_set P12.out.b GS.out) GS.out, (Below.heap_setCell _ ⟨gS, 1, none⟩ _ gX NX.out).trans ((Below.heap_setCell _ ⟨gS, 0, none⟩ _ gX NX.out).trans P12.out.hX), by simpa using blk_set (blk_set P12.out.h7 0 (.bool false)) 1 (.slice A6 xss.length c6), (S12.out.set P12.out.h7 0 _).set (blk_set P12.out.h7 0 _) 1 _⟩ ?_
     clear y0 y1 f0 f1 P12 S12
     rintro V8 hV8
     have P13 := Lib.hid hV8
     have y0 := (blk_cell hV8.h7 0).trans rfl
     have y1 := (blk_cell hV8.h7 1).trans rfl
     clear hV8
     have HL8 : xss.length ≤ 1099511627776 := by rw [← LN.out]; exact hn2
     obtain ⟨k4, hk4⟩ := Go.Proofs.YtkkjebjlgcggcaaDoorW.PrintWords.Ev.rounds (place_ev xs id hn2)
     rcases plc_cases xs id xs.length 0 rfl (Nat.zero_le _) with hp | ⟨kk, y, hp, hy, hyid⟩
     ·rw [hp] at hk4
      have K4 := Lib.hid hk4
      have PL := Lib.hid hp
      clear hk4 hp
      go_wp2_with fail
      (go_at_call 17; refine (find_miss false A6 c6 xss xs id _ P13.out.s HL8 PL.out).mono ?_; rintro e w14 ⟨rfl, hb14⟩)
      have P14 := Lib.hid (P13.out.next hb14)
      clear hb14 P13 y0 y1
      go_upto_region 9 with (first | ((with_reducible refine gate_dst (N := 11) rfl ?_); refine box_event ?hg (N := 11) ?hd (cs := #[.int .i64 0, .int .i64 0, .pointer none, .slice none 0 0, .slice none 0 0]) (t := 45) ?hr ?_; (case hd => rfl); (case hg => rfl); (case hr => first | (go_simp; done) | (go_simp; rfl)); intro gY hgY wY hxY hbY; have GY := Lib.hid (show w14.heap.size ≤ gY by rw [hgY]; exact Nat.le_refl _); have BY := Lib.hid hbY; have XY := Lib.hid hxY; have q0 := (blk_cell hxY 0).trans rfl; have q1 := (blk_cell hxY 1).trans rfl; have q2 := (blk_cell hxY 2).trans rfl; have q3 := (blk_cell hxY 3).trans rfl; have q4 := (blk_cell hxY 4).trans rfl; have z0 := blk_frozen hxY 0; have z1 := blk_frozen hxY 1; have z2 := blk_frozen hxY 2; have z3 := blk_frozen hxY 3; have z4 := blk_frozen hxY 4; clear hgY hxY hbY))
      refine gen2 (φ := fun W => Code.wp _ _ _ _ W) (P := fun W => Below w14.heap.size w14 W ∧ W.heap[gY]? = some (.cells #[.int .i64 0, .int .i64 0, .pointer none, .slice none 0 0, .slice none 0 0] 45 (0, 0))) ⟨below_set (below_set (below_set (below_set (below_set BY.out GY.out) GY.out) GY.out) GY.out) GY.out, by simpa using blk_set (blk_set (blk_set (blk_set (blk_set XY.out 0 (.int .i64 0)) 1 (.int .i64 0)) 2 (.pointer none)) 3 (.slice none 0 0)) 4 (.slice none 0 0)⟩ ?_
      clear q0 q1 q2 q3 q4 z0 z1 z2 z3 z4 XY BY GY
      rintro V15 ⟨hbV15, hxV15⟩
      have P15 := Lib.hid (P14.out.next hbV15)
      have XY := Lib.hid (show V15.heap[gY]? = some (.cells (sgC zG none none 0 none 0) 45 (0, 0)) from hxV15)
      clear hbV15 hxV15 P14
      go_wp2_with fail
      (go_at_call 21; refine (chancelref06_Place.calls k4 A c xs id (-1) _ (Kd.C_below HR.out P15.out.b) hc K4.out).mono ?_; rintro e w16 ⟨rfl, hb16⟩)
      have hb16' : Below V15.heap.size V15 w16 := by first | exact hb16 | exact below_drawn hb16
      have P16 := Lib.hid (P15.out.next hb16')
      have Y16 := Lib.hid (blk_below XY.out hb16')
      clear hb16 hb16' P15 XY
      obtain ⟨k5, hk5⟩ := Go.Proofs.YtkkjebjlgcggcaaDoorW.PrintWords.Ev.rounds (same5_ev zG zG_sz)
      have K5 := Lib.hid hk5
      have QS := Lib.hid (show Q5 w16 gY zG none none 0 none 0 w16 from Q5.of Y16.out (Below.refl _ _))
      clear hk5
      go_upto_region 10 with (fail)
      refine wp_region_noPanic ?_
      refine wp_region_held_drew (S := (fun w' => Q5 w16 gY zG none none 0 none 0 w')) ?hm_m ?hS_m (fun hHeld => ?_)
      case hm_m => kernel_rfl
      case hS_m => exact QS.out.next (by (with_reducible repeat (first | exact Below.refl _ _ | apply pw_below_drewN | apply Below.drew)))
      refine wpAnyH_take (i := 0) (oi := ?om0) (v := ?vm0) ?hi_m0 ?k1_m0 ?k2_m0 ?k3_m0 (fun _ _ _ h => h) (Or.inl ⟨?g_m0, ?y_m0⟩) (by assumption) ?r_m0
      case hi_m0 => (simp only [List.getElem?_toArray, List.getElem?_cons_succ, List.getElem?_cons_zero]; rfl)
      case k1_m0 => kernel_rfl
      case k2_m0 => kernel_rfl
      case k3_m0 => kernel_rfl
      case g_m0 => rfl
      case y_m0 => (intro w hSw; (try dsimp only at hSw); first | (go_simp; done) | (go_simp; with_reducible rfl))
      (try simp only [Act.put, List.setIfInBounds_toArray, List.set_cons_zero, List.set_cons_succ])
      refine wpAnyH_take (i := 1) (oi := ?om1) (v := ?vm1) ?hi_m1 ?k1_m1 ?k2_m1 ?k3_m1 (fun _ _ _ h => h) (Or.inl ⟨?g_m1, ?y_m1⟩) (by assumption) ?r_m1
      case hi_m1 => (simp only [List.getElem?_toArray, List.getElem?_cons_succ, List.getElem?_cons_zero]; rfl)
      case k1_m1 => kernel_rfl
      case k2_m1 => kernel_rfl
      case k3_m1 => kernel_rfl
      case g_m1 => rfl
      case y_m1 => (intro w hSw; (try dsimp only at hSw); first | (go_simp; done) | (go_simp; with_reducible rfl))
      (try simp only [Act.put, List.setIfInBounds_toArray, List.set_cons_zero, List.set_cons_succ])
      refine wpAnyH_take (i := 2) (oi := ?om2) (v := ?vm2) ?hi_m2 ?k1_m2 ?k2_m2 ?k3_m2 (fun _ _ _ h => h) (Or.inl ⟨?g_m2, ?y_m2⟩) (by assumption) ?r_m2
      case hi_m2 => (simp only [List.getElem?_toArray, List.getElem?_cons_succ, List.getElem?_cons_zero]; rfl)
      case k1_m2 => kernel_rfl
      case k2_m2 => kernel_rfl
      case k3_m2 => kernel_rfl
      case g_m2 => rfl
      case y_m2 => (intro w hSw; (try dsimp only at hSw); first | (go_simp; done) | (go_simp; with_reducible rfl))
      (try simp only [Act.put, List.setIfInBounds_toArray, List.set_cons_zero, List.set_cons_succ])
      refine wpAnyH_take (i := 3) (oi := ?om3) (v := ?vm3) ?hi_m3 ?k1_m3 ?k2_m3 ?k3_m3 (fun _ _ _ h => h) (Or.inl ⟨?g_m3, ?y_m3⟩) (by assumption) ?r_m3
      case hi_m3 => (simp only [List.getElem?_toArray, List.getElem?_cons_succ, List.getElem?_cons_zero]; rfl)
      case k1_m3 => kernel_rfl
      case k2_m3 => kernel_rfl
      case k3_m3 => kernel_rfl
      case g_m3 => rfl
      case y_m3 => (intro w hSw; (try dsimp only at hSw); first | (go_simp; done) | (go_simp; with_reducible rfl))
      (try simp only [Act.put, List.setIfInBounds_toArray, List.set_cons_zero, List.set_cons_succ])
      refine wpAnyH_take (i := 4) (oi := ?om4) (v := ?vm4) ?hi_m4 ?k1_m4 ?k2_m4 ?k3_m4 (fun _ _ _ h => h) (Or.inl ⟨?g_m4, ?y_m4⟩) (by assumption) ?r_m4
      case hi_m4 => (simp only [List.getElem?_toArray, List.getElem?_cons_succ, List.getElem?_cons_zero]; rfl)
      case k1_m4 => kernel_rfl
      case k2_m4 => kernel_rfl
      case k3_m4 => kernel_rfl
      case g_m4 => rfl
      case y_m4 => (intro w hSw; (try dsimp only at hSw); first | (go_simp; done) | (go_simp; with_reducible rfl))
      (try simp only [Act.put, List.setIfInBounds_toArray, List.set_cons_zero, List.set_cons_succ])
      refine wpAnyH_take (i := 5) (oi := ?om5) (v := ?vm5) ?hi_m5 ?k1_m5 ?k2_m5 ?k3_m5 (fun _ _ _ h => h) (Or.inl ⟨?g_m5, ?y_m5⟩) (by assumption) ?r_m5
      case hi_m5 => (simp only [List.getElem?_toArray, List.getElem?_cons_succ, List.getElem?_cons_zero]; rfl)
      case k1_m5 => kernel_rfl
      case k2_m5 => kernel_rfl
      case k3_m5 => kernel_rfl
      case g_m5 => rfl
      case y_m5 => (intro w hSw; (try dsimp only at hSw); first | (go_simp; done) | (go_simp; with_reducible rfl))
      (try simp only [Act.put, List.setIfInBounds_toArray, List.set_cons_zero, List.set_cons_succ])
      refine wpAnyH_take (i := 6) (oi := ?om6) (v := ?vm6) ?hi_m6 ?k1_m6 ?k2_m6 ?k3_m6 (fun _ _ _ h => h) (Or.inl ⟨?g_m6, ?y_m6⟩) (by assumption) ?r_m6
      case hi_m6 => (simp only [List.getElem?_toArray, List.getElem?_cons_succ, List.getElem?_cons_zero]; rfl)
      case k1_m6 => kernel_rfl
      case k2_m6 => kernel_rfl
      case k3_m6 => kernel_rfl
      case g_m6 => rfl
      case y_m6 => (intro w hSw; (try dsimp only at hSw); first | (go_simp; done) | (go_simp; with_reducible rfl))
      (try simp only [Act.put, List.setIfInBounds_toArray, List.set_cons_zero, List.set_cons_succ])
      refine wpAnyH_take (i := 7) (oi := ?om7) (v := undef) ?hi_m7 ?k1_m7 ?k2_m7 ?k3_m7 (fun _ _ _ h => h) (Or.inr ⟨?g_m7, rfl⟩) (by assumption) ?r_m7
      case hi_m7 => (simp only [List.getElem?_toArray, List.getElem?_cons_succ, List.getElem?_cons_zero]; rfl)
      case k1_m7 => kernel_rfl
      case k2_m7 => kernel_rfl
      case k3_m7 => kernel_rfl
      case g_m7 => rfl
      (try simp only [Act.put, List.setIfInBounds_toArray, List.set_cons_zero, List.set_cons_succ])
      refine wpAnyH_take (i := 8) (oi := ?om8) (v := undef) ?hi_m8 ?k1_m8 ?k2_m8 ?k3_m8 (fun _ _ _ h => h) (Or.inr ⟨?g_m8, rfl⟩) (by assumption) ?r_m8
      case hi_m8 => (simp only [List.getElem?_toArray, List.getElem?_cons_succ, List.getElem?_cons_zero]; rfl)
      case k1_m8 => kernel_rfl
      case k2_m8 => kernel_rfl
      case k3_m8 => kernel_rfl
      case g_m8 => rfl
      (try simp only [Act.put, List.setIfInBounds_toArray, List.set_cons_zero, List.set_cons_succ])
      refine wpAnyH_take (i := 9) (oi := ?om9) (v := undef) ?hi_m9 ?k1_m9 ?k2_m9 ?k3_m9 (fun _ _ _ h => h) (Or.inr ⟨?g_m9, rfl⟩) (by assumption) ?r_m9
      case hi_m9 => (simp only [List.getElem?_toArray, List.getElem?_cons_succ, List.getElem?_cons_zero]; rfl)
      case k1_m9 => kernel_rfl
      case k2_m9 => kernel_rfl
      case k3_m9 => kernel_rfl
      case g_m9 => rfl
      (try simp only [Act.put, List.setIfInBounds_toArray, List.set_cons_zero, List.set_cons_succ])
      refine wpAnyH_take (i := 10) (oi := ?om10) (v := undef) ?hi_m10 ?k1_m10 ?k2_m10 ?k3_m10 (fun _ _ _ h => h) (Or.inr ⟨?g_m10, rfl⟩) (by assumption) ?r_m10
      case hi_m10 => (simp only [List.getElem?_toArray, List.getElem?_cons_succ, List.getElem?_cons_zero]; rfl)
      case k1_m10 => kernel_rfl
      case k2_m10 => kernel_rfl
      case k3_m10 => kernel_rfl
      case g_m10 => rfl
      (try simp only [Act.put, List.setIfInBounds_toArray, List.set_cons_zero, List.set_cons_succ])
      refine wpAnyH_take (i := 11) (oi := ?om11) (v := undef) ?hi_m11 ?k1_m11 ?k2_m11 ?k3_m11 (fun _ _ _ h => h) (Or.inr ⟨?g_m11, rfl⟩) (by assumption) ?r_m11
      case hi_m11 => (simp only [List.getElem?_toArray, List.getElem?_cons_succ, List.getElem?_cons_zero]; rfl)
      case k1_m11 => kernel_rfl
      case k2_m11 => kernel_rfl
      case k3_m11 => kernel_rfl
      case g_m11 => rfl
      (try simp only [Act.put, List.setIfInBounds_toArray, List.set_cons_zero, List.set_cons_succ])
      refine wpAnyH_take (i := 12) (oi := ?om12) (v := undef) ?hi_m12 ?k1_m12 ?k2_m12 ?k3_m12 (fun _ _ _ h => h) (Or.inr ⟨?g_m12, rfl⟩) (by assumption) ?r_m12
      case hi_m12 => (simp only [List.getElem?_toArray, List.getElem?_cons_succ, List.getElem?_cons_zero]; rfl)
      case k1_m12 => kernel_rfl
      case k2_m12 => kernel_rfl
      case k3_m12 => kernel_rfl
      case g_m12 => rfl
      (try simp only [Act.put, List.setIfInBounds_toArray, List.set_cons_zero, List.set_cons_succ])
      refine wpAnyH_take (i := 13) (oi := ?om13) (v := undef) ?hi_m13 ?k1_m13 ?k2_m13 ?k3_m13 (fun _ _ _ h => h) (Or.inr ⟨?g_m13, rfl⟩) (by assumption) ?r_m13
      case hi_m13 => (simp only [List.getElem?_toArray, List.getElem?_cons_succ, List.getElem?_cons_zero]; rfl)
      case k1_m13 => kernel_rfl
      case k2_m13 => kernel_rfl
      case k3_m13 => kernel_rfl
      case g_m13 => rfl
      (try simp only [Act.put, List.setIfInBounds_toArray, List.set_cons_zero, List.set_cons_succ])
      refine wpAnyH_take (i := 14) (oi := ?om14) (v := undef) ?hi_m14 ?k1_m14 ?k2_m14 ?k3_m14 (fun _ _ _ h => h) (Or.inr ⟨?g_m14, rfl⟩) (by assumption) ?r_m14
      case hi_m14 => (simp only [List.getElem?_toArray, List.getElem?_cons_succ, List.getElem?_cons_zero]; rfl)
      case k1_m14 => kernel_rfl
      case k2_m14 => kernel_rfl
      case k3_m14 => kernel_rfl
      case g_m14 => rfl
      (try simp only [Act.put, List.setIfInBounds_toArray, List.set_cons_zero, List.set_cons_succ])
      refine wpAnyH_take (i := 15) (oi := ?om15) (v := undef) ?hi_m15 ?k1_m15 ?k2_m15 ?k3_m15 (fun _ _ _ h => h) (Or.inr ⟨?g_m15, rfl⟩) (by assumption) ?r_m15
      case hi_m15 => (simp only [List.getElem?_toArray, List.getElem?_cons_succ, List.getElem?_cons_zero]; rfl)
      case k1_m15 => kernel_rfl
      case k2_m15 => kernel_rfl
      case k3_m15 => kernel_rfl
      case g_m15 => rfl
      (try simp only [Act.put, List.setIfInBounds_toArray, List.set_cons_zero, List.set_cons_succ])
      refine wpAnyH_take (i := 16) (oi := ?om16) (v := ?vm16) ?hi_m16 ?k1_m16 ?k2_m16 ?k3_m16 (fun _ _ _ h => h) (Or.inl ⟨?g_m16, ?y_m16⟩) (by assumption) ?r_m16
      case hi_m16 => (simp only [List.getElem?_toArray, List.getElem?_cons_succ, List.getElem?_cons_zero]; rfl)
      case k1_m16 => kernel_rfl
      case k2_m16 => kernel_rfl
      case k3_m16 => kernel_rfl
      case g_m16 => rfl
      case y_m16 => (intro w hSw; (try dsimp only at hSw); first | (go_simp; done) | (go_simp; with_reducible rfl))
      (try simp only [Act.put, List.setIfInBounds_toArray, List.set_cons_zero, List.set_cons_succ])
      refine wpAnyH_take (i := 17) (oi := ?om17) (v := ?vm17) ?hi_m17 ?k1_m17 ?k2_m17 ?k3_m17 (fun _ _ _ h => h) (Or.inl ⟨?g_m17, ?y_m17⟩) (by assumption) ?r_m17
      case hi_m17 => (simp only [List.getElem?_toArray, List.getElem?_cons_succ, List.getElem?_cons_zero]; rfl)
      case k1_m17 => kernel_rfl
      case k2_m17 => kernel_rfl
      case k3_m17 => kernel_rfl
      case g_m17 => rfl
      case y_m17 => (intro w hSw; (try dsimp only at hSw); first | (go_simp; done) | (go_simp; with_reducible rfl))
      (try simp only [Act.put, List.setIfInBounds_toArray, List.set_cons_zero, List.set_cons_succ])
      refine wpAnyH_take (i := 18) (oi := ?om18) (v := ?vm18) ?hi_m18 ?k1_m18 ?k2_m18 ?k3_m18 (fun _ _ _ h => h) (Or.inl ⟨?g_m18, ?y_m18⟩) (by assumption) ?r_m18
      case hi_m18 => (simp only [List.getElem?_toArray, List.getElem?_cons_succ, List.getElem?_cons_zero]; rfl)
      case k1_m18 => kernel_rfl
      case k2_m18 => kernel_rfl
      case k3_m18 => kernel_rfl
      case g_m18 => rfl
      case y_m18 => (intro w hSw; (try dsimp only at hSw); first | (go_simp; done) | (go_simp; with_reducible rfl))
      (try simp only [Act.put, List.setIfInBounds_toArray, List.set_cons_zero, List.set_cons_succ])
      refine wpAnyH_take (i := 19) (oi := ?om19) (v := ?vm19) ?hi_m19 ?k1_m19 ?k2_m19 ?k3_m19 (fun _ _ _ h => h) (Or.inl ⟨?g_m19, ?y_m19⟩) (by assumption) ?r_m19
      case hi_m19 => (simp only [List.getElem?_toArray, List.getElem?_cons_succ, List.getElem?_cons_zero]; rfl)
      case k1_m19 => kernel_rfl
      case k2_m19 => kernel_rfl
      case k3_m19 => kernel_rfl
      case g_m19 => rfl
      case y_m19 => (intro w hSw; (try dsimp only at hSw); first | (go_simp; done) | (go_simp; with_reducible rfl))
      (try simp only [Act.put, List.setIfInBounds_toArray, List.set_cons_zero, List.set_cons_succ])
      refine wpAnyH_take (i := 20) (oi := ?om20) (v := ?vm20) ?hi_m20 ?k1_m20 ?k2_m20 ?k3_m20 (fun _ _ _ h => h) (Or.inl ⟨?g_m20, ?y_m20⟩) (by assumption) ?r_m20
      case hi_m20 => (simp only [List.getElem?_toArray, List.getElem?_cons_succ, List.getElem?_cons_zero]; rfl)
      case k1_m20 => kernel_rfl
      case k2_m20 => kernel_rfl
      case k3_m20 => kernel_rfl
      case g_m20 => rfl
      case y_m20 => (intro w hSw; (try dsimp only at hSw); first | (go_simp; done) | (go_simp; with_reducible rfl))
      (try simp only [Act.put, List.setIfInBounds_toArray, List.set_cons_zero, List.set_cons_succ])
      refine wpAnyH_take (i := 21) (oi := ?om21) (v := ?vm21) ?hi_m21 ?k1_m21 ?k2_m21 ?k3_m21 (fun _ _ _ h => h) (Or.inl ⟨?g_m21, ?y_m21⟩) (by assumption) ?r_m21
      case hi_m21 => (simp only [List.getElem?_toArray, List.getElem?_cons_succ, List.getElem?_cons_zero]; rfl)
      case k1_m21 => kernel_rfl
      case k2_m21 => kernel_rfl
      case k3_m21 => kernel_rfl
      case g_m21 => rfl
      case y_m21 => (intro w hSw; (try dsimp only at hSw); first | (go_simp; done) | (go_simp; with_reducible rfl))
      (try simp only [Act.put, List.setIfInBounds_toArray, List.set_cons_zero, List.set_cons_succ])
      refine wpAnyH_take (i := 22) (oi := ?om22) (v := ?vm22) ?hi_m22 ?k1_m22 ?k2_m22 ?k3_m22 (fun _ _ _ h => h) (Or.inl ⟨?g_m22, ?y_m22⟩) (by assumption) ?r_m22
      case hi_m22 => (simp only [List.getElem?_toArray, List.getElem?_cons_succ, List.getElem?_cons_zero]; rfl)
      case k1_m22 => kernel_rfl
      case k2_m22 => kernel_rfl
      case k3_m22 => kernel_rfl
      case g_m22 => rfl
      case y_m22 => (intro w hSw; (try dsimp only at hSw); first | (go_simp; done) | (go_simp; with_reducible rfl))
      (try simp only [Act.put, List.setIfInBounds_toArray, List.set_cons_zero, List.set_cons_succ])
      refine wpAnyH_take (i := 24) (oi := ?om24) (v := ?vm24) ?hi_m24 ?k1_m24 ?k2_m24 ?k3_m24 (fun _ _ _ h => h) (Or.inl ⟨?g_m24, ?y_m24⟩) (by assumption) ?r_m24
      case hi_m24 => (simp only [List.getElem?_toArray, List.getElem?_cons_succ, List.getElem?_cons_zero]; rfl)
      case k1_m24 => kernel_rfl
      case k2_m24 => kernel_rfl
      case k3_m24 => kernel_rfl
      case g_m24 => rfl
      case y_m24 => (intro w hSw; (try dsimp only at hSw); first | (go_simp; done) | (go_simp; with_reducible rfl))
      (try simp only [Act.put, List.setIfInBounds_toArray, List.set_cons_zero, List.set_cons_succ])
      refine wpAnyH_ready (rs := [23]) ?k1_m23 (by simp) ?r_m23
      case k1_m23 => kernel_rfl
      refine AllReadyH.cons (o := ?om23) ?hi_m23 (fun K hK => ?s_m23) ?m_m23
      case hi_m23 => (simp only [List.getElem?_toArray, List.getElem?_cons_succ, List.getElem?_cons_zero]; rfl)
      case m_m23 => exact AllReadyH.nil
      go_simp
      (go_at_call 23; (refine (plainG_calls zG none none 0 none 0 _ (zG_sp _) zG_sz).mono ?_); rintro e w17 ⟨A17, c17, B17, d17, rfl, hr3, hr4, hb17⟩; have R3 := Lib.hid (Kd.R_reads' hr3); have R4 := Lib.hid (Kd.R_reads' hr4); have HS1 := Lib.hid (Q5.next (V := w16) (gX := gY) (x := zG) (p := none) (A := none) (c := 0) (B := none) (d := 0) (by assumption) hb17); clear hr3 hr4 hb17)
      (try go_wp2_with fail)
      refine hK.out _ _ HS1.out (fun hHeld => ?_)
      clear hK K
      (try simp only [Act.put, List.setIfInBounds_toArray, List.set_cons_zero, List.set_cons_succ])
      refine wpAnyH_ready (rs := [25]) ?k1_m25 (by simp) ?r_m25
      case k1_m25 => kernel_rfl
      refine AllReadyH.cons (o := ?om25) ?hi_m25 (fun K hK => ?s_m25) ?m_m25
      case hi_m25 => (simp only [List.getElem?_toArray, List.getElem?_cons_succ, List.getElem?_cons_zero]; rfl)
      case m_m25 => exact AllReadyH.nil
      go_simp
      (go_at_call 22; (refine (chancelref05_Same.calls k5 zG.f0 zG.f1 zG.f2 A17 c17 zG.f3 B17 d17 zG.f4 zG.f0 zG.f1 zG.f2 none 0 zG.f3 none 0 zG.f4 true _ ?h1 R3.out.2.1 ?h2 R4.out.2.1 (Kd.C_nil _ _) (Nat.le_refl _) (Kd.C_nil _ _) (Nat.le_refl _) K5.out).mono ?_); (case h1 => exact Kd.C_below R3.out.2.2 (by (with_reducible repeat (first | exact Below.refl _ _ | apply pw_below_drewN | apply Below.drew)))); (case h2 => exact Kd.C_below R4.out.2.2 (by (with_reducible repeat (first | exact Below.refl _ _ | apply pw_below_drewN | apply Below.drew)))); rintro e w18 ⟨rfl, hb18⟩; have HS2 := Lib.hid (Q5.next (V := w16) (gX := gY) (x := zG) (p := none) (A := none) (c := 0) (B := none) (d := 0) (by assumption) hb18); clear hb18)
      (try go_wp2_with fail)
      refine hK.out _ _ HS2.out (fun hHeld => ?_)
      clear hK K
      (try simp only [Act.put, List.setIfInBounds_toArray, List.set_cons_zero, List.set_cons_succ])
      refine wpAnyH_take (i := 26) (oi := ?om26) (v := ?vm26) ?hi_m26 ?k1_m26 ?k2_m26 ?k3_m26 (fun _ _ _ h => h) (Or.inl ⟨?g_m26, ?y_m26⟩) (by assumption) ?r_m26
      case hi_m26 => (simp only [List.getElem?_toArray, List.getElem?_cons_succ, List.getElem?_cons_zero]; rfl)
      case k1_m26 => kernel_rfl
      case k2_m26 => kernel_rfl
      case k3_m26 => kernel_rfl
      case g_m26 => rfl
      case y_m26 => (intro w hSw; (try dsimp only at hSw); first | (go_simp; done) | (go_simp; with_reducible rfl))
      (try simp only [Act.put, List.setIfInBounds_toArray, List.set_cons_zero, List.set_cons_succ])
      refine wpAnyH_take (i := 27) (oi := ?om27) (v := ?vm27) ?hi_m27 ?k1_m27 ?k2_m27 ?k3_m27 (fun _ _ _ h => h) (Or.inl ⟨?g_m27, ?y_m27⟩) (by assumption) ?r_m27
      case hi_m27 => (simp only [List.getElem?_toArray, List.getElem?_cons_succ, List.getElem?_cons_zero]; rfl)
      case k1_m27 => kernel_rfl
      case k2_m27 => kernel_rfl
      case k3_m27 => kernel_rfl
      case g_m27 => rfl
      case y_m27 => (intro w hSw; (try dsimp only at hSw); first | (go_simp; done) | (go_simp; with_reducible rfl))
      (try simp only [Act.put, List.setIfInBounds_toArray, List.set_cons_zero, List.set_cons_succ])
      refine wpAnyH_take (i := 28) (oi := ?om28) (v := ?vm28) ?hi_m28 ?k1_m28 ?k2_m28 ?k3_m28 (fun _ _ _ h => h) (Or.inl ⟨?g_m28, ?y_m28⟩) (by assumption) ?r_m28
      case hi_m28 => (simp only [List.getElem?_toArray, List.getElem?_cons_succ, List.getElem?_cons_zero]; rfl)
      case k1_m28 => kernel_rfl
      case k2_m28 => kernel_rfl
      case k3_m28 => kernel_rfl
      case g_m28 => rfl
      case y_m28 => (intro w hSw; (try dsimp only at hSw); first | (go_simp; done) | (go_simp; with_reducible rfl))
      (try simp only [Act.put, List.setIfInBounds_toArray, List.set_cons_zero, List.set_cons_succ])
      refine wpAnyH_done (by kernel_rfl) ?_ _
      refine NoPanic.normal ?_
      have P18 := Lib.hid (P16.out.next (Q5.b HS2.out))
      clear HS1 HS2 R3 R4 QS hHeld P16 Y16 K5
      have a0 := (blk_cell P18.out.hX 0).trans rfl
      have a1 := (blk_cell P18.out.hX 1).trans rfl
      have a2 := (blk_cell P18.out.hX 2).trans rfl
      have a3 := (blk_cell P18.out.hX 3).trans rfl
      have a4 := (blk_cell P18.out.hX 4).trans rfl
      go_wp2_with fail
      (go_at_call 24; refine (segLoad_good x A2 c2 B2 d2 _ (HT.out.below P18.out.b) (HG.out.below P18.out.b) ZX.out OX.out).mono ?_; rintro e w19 ⟨pz, Az, cz, Bz, dz, rfl, hs19, hb19⟩)
      have P19 := Lib.hid (P18.out.next hb19)
      have S19 := Lib.hid hs19
      clear hb19 hs19 P18 a0 a1 a2 a3 a4
      go_upto_region 13 with (first | ((with_reducible refine gate_dst (N := 14) rfl ?_); refine box_event ?hg (N := 14) ?hd (cs := #[.int .i64 0, .int .i64 0, .pointer none, .slice none 0 0, .slice none 0 0]) (t := 45) ?hr ?_; (case hd => rfl); (case hg => rfl); (case hr => first | (go_simp; done) | (go_simp; rfl)); intro gZ hgZ wZ hxZ hbZ; have GZ := Lib.hid (show w19.heap.size ≤ gZ by rw [hgZ]; exact Nat.le_refl _); have BZ := Lib.hid hbZ; have XZ := Lib.hid hxZ; have q0 := (blk_cell hxZ 0).trans rfl; have q1 := (blk_cell hxZ 1).trans rfl; have q2 := (blk_cell hxZ 2).trans rfl; have q3 := (blk_cell hxZ 3).trans rfl; have q4 := (blk_cell hxZ 4).trans rfl; have z0 := blk_frozen hxZ 0; have z1 := blk_frozen hxZ 1; have z2 := blk_frozen hxZ 2; have z3 := blk_frozen hxZ 3; have z4 := blk_frozen hxZ 4; clear hgZ hxZ hbZ))
      refine gen2 (φ := fun W => Code.wp _ _ _ _ W) (P := fun W => Below w19.heap.size w19 W ∧ W.heap[gZ]? = some (.cells #[.int .i64 x.f0, .int .i64 x.f1, .pointer pz, .slice Az x.f3.length cz, .slice Bz x.f4.length dz] 45 (0, 0))) ⟨below_set (below_set (below_set (below_set (below_set BZ.out GZ.out) GZ.out) GZ.out) GZ.out) GZ.out, by simpa using blk_set (blk_set (blk_set (blk_set (blk_set XZ.out 0 (.int .i64 x.f0)) 1 (.int .i64 x.f1)) 2 (.pointer pz)) 3 (.slice Az x.f3.length cz)) 4 (.slice Bz x.f4.length dz)⟩ ?_
      clear q0 q1 q2 q3 q4 z0 z1 z2 z3 z4 XZ BZ GZ
      rintro V20 ⟨hbV20, hxV20⟩
      have P20 := Lib.hid (P19.out.next hbV20)
      have S20 := Lib.hid (S19.out.below hbV20)
      obtain ⟨ys, hly, hzy, hsc, hrc⟩ := set_both xs x hn2 HZ.out ZX.out
      have LYS := Lib.hid hly
      have ZYS := Lib.hid hzy
      have SC := Lib.hid hsc
      have RC := Lib.hid hrc
      obtain ⟨k6, hk6⟩ := Go.Proofs.YtkkjebjlgcggcaaDoorW.PrintWords.Ev.rounds (same6_ev ys (by rw [hly]; exact hn2) hzy)
      obtain ⟨k7, hk7⟩ := Go.Proofs.YtkkjebjlgcggcaaDoorW.PrintWords.Ev.rounds (same6_ev xs hn2 HZ.out)
      have K6 := Lib.hid hk6
      have K7 := Lib.hid hk7
      have QT := Lib.hid (show SF V20 gS false A6 xss.length c6 gX x A2 c2 B2 d2 gZ pz Az cz Bz dz V20 from SF.of P20.out.h7 P20.out.hX (Q5.of hxV20 (Below.refl _ _)))
      clear hly hzy hsc hrc hk6 hk7 hbV20 hxV20 P19 S19
      go_upto_region 13 with (fail)
      refine wp_region_noPanic ?_
      refine wp_region_held_drew (S := (fun w' => SF V20 gS false A6 xss.length c6 gX x A2 c2 B2 d2 gZ pz Az cz Bz dz w')) ?hm_t ?hS_t (fun hHeld => ?_)
      case hm_t => kernel_rfl
      case hS_t => exact QT.out.next (by (with_reducible repeat (first | exact Below.refl _ _ | apply pw_below_drewN | apply Below.drew)))
      refine wpAnyH_take (i := 0) (oi := ?ot0) (v := ?vt0) ?hi_t0 ?k1_t0 ?k2_t0 ?k3_t0 (fun _ _ _ h => h) (Or.inl ⟨?g_t0, ?y_t0⟩) (by assumption) ?r_t0
      case hi_t0 => (simp only [List.getElem?_toArray, List.getElem?_cons_succ, List.getElem?_cons_zero]; rfl)
      case k1_t0 => kernel_rfl
      case k2_t0 => kernel_rfl
      case k3_t0 => kernel_rfl
      case g_t0 => rfl
      case y_t0 => (intro w hSw; (try dsimp only at hSw); first | (go_simp; done) | (go_simp; with_reducible rfl))
      (try simp only [Act.put, List.setIfInBounds_toArray, List.set_cons_zero, List.set_cons_succ])
      refine wpAnyH_take (i := 1) (oi := ?ot1) (v := ?vt1) ?hi_t1 ?k1_t1 ?k2_t1 ?k3_t1 (fun _ _ _ h => h) (Or.inl ⟨?g_t1, ?y_t1⟩) (by assumption) ?r_t1
      case hi_t1 => (simp only [List.getElem?_toArray, List.getElem?_cons_succ, List.getElem?_cons_zero]; rfl)
      case k1_t1 => kernel_rfl
      case k2_t1 => kernel_rfl
      case k3_t1 => kernel_rfl
      case g_t1 => rfl
      case y_t1 => (intro w hSw; (try dsimp only at hSw); first | (go_simp; done) | (go_simp; with_reducible rfl))
      (try simp only [Act.put, List.setIfInBounds_toArray, List.set_cons_zero, List.set_cons_succ])
      refine wpAnyH_take (i := 4) (oi := ?ot4) (v := ?vt4) ?hi_t4 ?k1_t4 ?k2_t4 ?k3_t4 (fun _ _ _ h => h) (Or.inl ⟨?g_t4, ?y_t4⟩) (by assumption) ?r_t4
      case hi_t4 => (simp only [List.getElem?_toArray, List.getElem?_cons_succ, List.getElem?_cons_zero]; rfl)
      case k1_t4 => kernel_rfl
      case k2_t4 => kernel_rfl
      case k3_t4 => kernel_rfl
      case g_t4 => rfl
      case y_t4 => (intro w hSw; (try dsimp only at hSw); first | (go_simp; done) | (go_simp; with_reducible rfl))
      (try simp only [Act.put, List.setIfInBounds_toArray, List.set_cons_zero, List.set_cons_succ])
      refine wpAnyH_take (i := 5) (oi := ?ot5) (v := ?vt5) ?hi_t5 ?k1_t5 ?k2_t5 ?k3_t5 (fun _ _ _ h => h) (Or.inl ⟨?g_t5, ?y_t5⟩) (by assumption) ?r_t5
      case hi_t5 => (simp only [List.getElem?_toArray, List.getElem?_cons_succ, List.getElem?_cons_zero]; rfl)
      case k1_t5 => kernel_rfl
      case k2_t5 => kernel_rfl
      case k3_t5 => kernel_rfl
      case g_t5 => rfl
      case y_t5 => (intro w hSw; (try dsimp only at hSw); first | (go_simp; done) | (go_simp; with_reducible rfl))
      (try simp only [Act.put, List.setIfInBounds_toArray, List.set_cons_zero, List.set_cons_succ])
      refine wpAnyH_ready (rs := [2]) ?k1_t2 (by simp) ?r_t2
      case k1_t2 => kernel_rfl
      refine AllReadyH.cons (o := ?ot2) ?hi_t2 (fun K hK => ?s_t2) ?m_t2
      case hi_t2 => (simp only [List.getElem?_toArray, List.getElem?_cons_succ, List.getElem?_cons_zero]; rfl)
      case m_t2 => exact AllReadyH.nil
      go_simp
      (go_at_call 25; (refine (SC.out false A6 c6 xss pz Az cz Bz dz _ ?ca1 ?cb1).mono ?_); (case ca1 => exact P20.out.s.below (SF.b (V := V20) (g7 := gS) (f := false) (A := A6) (n := xss.length) (c := c6) (gX := gX) (x := x) (A2 := A2) (c2 := c2) (B2 := B2) (d2 := d2) (gZ := gZ) (p := pz) (A3 := Az) (c3 := cz) (B3 := Bz) (d3 := dz) (by assumption))); (case cb1 => exact S20.out.below (SF.b (V := V20) (g7 := gS) (f := false) (A := A6) (n := xss.length) (c := c6) (gX := gX) (x := x) (A2 := A2) (c2 := c2) (B2 := B2) (d2 := d2) (gZ := gZ) (p := pz) (A3 := Az) (c3 := cz) (B3 := Bz) (d3 := dz) (by assumption))); rintro e w21 ⟨A21, c21, yss, rfl, hs21, hb21⟩; have SH21 := Lib.hid hs21; have LY := Lib.hid hs21.len; clear hs21; have HT1 := Lib.hid (SF.next (V := V20) (g7 := gS) (f := false) (A := A6) (n := xss.length) (c := c6) (gX := gX) (x := x) (A2 := A2) (c2 := c2) (B2 := B2) (d2 := d2) (gZ := gZ) (p := pz) (A3 := Az) (c3 := cz) (B3 := Bz) (d3 := dz) (by assumption) hb21); clear hb21)
      (try go_wp2_with fail)
      refine hK.out _ _ HT1.out (fun hHeld => ?_)
      clear hK K
      (try simp only [Act.put, List.setIfInBounds_toArray, List.set_cons_zero, List.set_cons_succ])
      refine wpAnyH_ready (rs := [3]) ?k1_t3 (by simp) ?r_t3
      case k1_t3 => kernel_rfl
      refine AllReadyH.cons (o := ?ot3) ?hi_t3 (fun K hK => ?s_t3) ?m_t3
      case hi_t3 => (simp only [List.getElem?_toArray, List.getElem?_cons_succ, List.getElem?_cons_zero]; rfl)
      case m_t3 => exact AllReadyH.nil
      go_simp
      (go_at_call 16; (refine (shPlain_calls false A21 c21 yss ys _ SH21.out (by rw [← LY.out, LYS.out]; exact hn2) ZYS.out).mono ?_); rintro e w22 ⟨v22, rfl, hr22, hb22⟩; obtain ⟨A22, c22, e22, hc22, hC22⟩ := Kd.R_reads hr22; subst e22; have C22 := Lib.hid hC22; clear hr22 hC22; have HT2 := Lib.hid (SF.next (V := V20) (g7 := gS) (f := false) (A := A6) (n := xss.length) (c := c6) (gX := gX) (x := x) (A2 := A2) (c2 := c2) (B2 := B2) (d2 := d2) (gZ := gZ) (p := pz) (A3 := Az) (c3 := cz) (B3 := Bz) (d3 := dz) (by assumption) hb22); clear hb22)
      (try go_wp2_with fail)
      refine hK.out _ _ HT2.out (fun hHeld => ?_)
      clear hK K
      (try simp only [Act.put, List.setIfInBounds_toArray, List.set_cons_zero, List.set_cons_succ])
      refine wpAnyH_ready (rs := [6]) ?k1_t6 (by simp) ?r_t6
      case k1_t6 => kernel_rfl
      refine AllReadyH.cons (o := ?ot6) ?hi_t6 (fun K hK => ?s_t6) ?m_t6
      case hi_t6 => (simp only [List.getElem?_toArray, List.getElem?_cons_succ, List.getElem?_cons_zero]; rfl)
      case m_t6 => exact AllReadyH.nil
      go_simp
      (go_at_call 26; (refine (RC.out A c A2 c2 B2 d2 _ ?ca3 hc ?cb3).mono ?_); (case ca3 => exact Kd.C_below HR.out (below_step P20.out.b (SF.b (V := V20) (g7 := gS) (f := false) (A := A6) (n := xss.length) (c := c6) (gX := gX) (x := x) (A2 := A2) (c2 := c2) (B2 := B2) (d2 := d2) (gZ := gZ) (p := pz) (A3 := Az) (c3 := cz) (B3 := Bz) (d3 := dz) (by assumption)))); (case cb3 => exact HG.out.below (below_step P20.out.b (SF.b (V := V20) (g7 := gS) (f := false) (A := A6) (n := xss.length) (c := c6) (gX := gX) (x := x) (A2 := A2) (c2 := c2) (B2 := B2) (d2 := d2) (gZ := gZ) (p := pz) (A3 := Az) (c3 := cz) (B3 := Bz) (d3 := dz) (by assumption)))); rintro e w23 ⟨A23, c23, rfl, hc23, hC23, hb23⟩; have C23 := Lib.hid hC23; have C22b := Lib.hid (Kd.C_below C22.out hb23); clear hC23 C22; have HT3 := Lib.hid (SF.next (V := V20) (g7 := gS) (f := false) (A := A6) (n := xss.length) (c := c6) (gX := gX) (x := x) (A2 := A2) (c2 := c2) (B2 := B2) (d2 := d2) (gZ := gZ) (p := pz) (A3 := Az) (c3 := cz) (B3 := Bz) (d3 := dz) (by assumption) hb23); clear hb23)
      (try go_wp2_with fail)
      refine hK.out _ _ HT3.out (fun hHeld => ?_)
      clear hK K
      (try simp only [Act.put, List.setIfInBounds_toArray, List.set_cons_zero, List.set_cons_succ])
      refine wpAnyH_ready (rs := [7]) ?k1_t7 (by simp) ?r_t7
      case k1_t7 => kernel_rfl
      refine AllReadyH.cons (o := ?ot7) ?hi_t7 (fun K hK => ?s_t7) ?m_t7
      case hi_t7 => (simp only [List.getElem?_toArray, List.getElem?_cons_succ, List.getElem?_cons_zero]; rfl)
      case m_t7 => exact AllReadyH.nil
      go_simp
      (go_at_call 15; (refine (chancelref06_Same.calls k6 A22 c22 ys A23 c23 ys true _ C22b.out hc22 C23.out hc23 K6.out).mono ?_); rintro e w24 ⟨rfl, hb24⟩; have HT4 := Lib.hid (SF.next (V := V20) (g7 := gS) (f := false) (A := A6) (n := xss.length) (c := c6) (gX := gX) (x := x) (A2 := A2) (c2 := c2) (B2 := B2) (d2 := d2) (gZ := gZ) (p := pz) (A3 := Az) (c3 := cz) (B3 := Bz) (d3 := dz) (by assumption) hb24); clear hb24)
      (try go_wp2_with fail)
      refine hK.out _ _ HT4.out (fun hHeld => ?_)
      clear hK K
      (try simp only [Act.put, List.setIfInBounds_toArray, List.set_cons_zero, List.set_cons_succ])
      refine wpAnyH_take (i := 8) (oi := ?ot8) (v := ?vt8) ?hi_t8 ?k1_t8 ?k2_t8 ?k3_t8 (fun _ _ _ h => h) (Or.inl ⟨?g_t8, ?y_t8⟩) (by assumption) ?r_t8
      case hi_t8 => (simp only [List.getElem?_toArray, List.getElem?_cons_succ, List.getElem?_cons_zero]; rfl)
      case k1_t8 => kernel_rfl
      case k2_t8 => kernel_rfl
      case k3_t8 => kernel_rfl
      case g_t8 => rfl
      case y_t8 => (intro w hSw; (try dsimp only at hSw); first | (go_simp; done) | (go_simp; with_reducible rfl))
      (try simp only [Act.put, List.setIfInBounds_toArray, List.set_cons_zero, List.set_cons_succ])
      refine wpAnyH_take (i := 9) (oi := ?ot9) (v := ?vt9) ?hi_t9 ?k1_t9 ?k2_t9 ?k3_t9 (fun _ _ _ h => h) (Or.inl ⟨?g_t9, ?y_t9⟩) (by assumption) ?r_t9
      case hi_t9 => (simp only [List.getElem?_toArray, List.getElem?_cons_succ, List.getElem?_cons_zero]; rfl)
      case k1_t9 => kernel_rfl
      case k2_t9 => kernel_rfl
      case k3_t9 => kernel_rfl
      case g_t9 => rfl
      case y_t9 => (intro w hSw; (try dsimp only at hSw); first | (go_simp; done) | (go_simp; with_reducible rfl))
      (try simp only [Act.put, List.setIfInBounds_toArray, List.set_cons_zero, List.set_cons_succ])
      refine wpAnyH_take (i := 11) (oi := ?ot11) (v := ?vt11) ?hi_t11 ?k1_t11 ?k2_t11 ?k3_t11 (fun _ _ _ h => h) (Or.inl ⟨?g_t11, ?y_t11⟩) (by assumption) ?r_t11
      case hi_t11 => (simp only [List.getElem?_toArray, List.getElem?_cons_succ, List.getElem?_cons_zero]; rfl)
      case k1_t11 => kernel_rfl
      case k2_t11 => kernel_rfl
      case k3_t11 => kernel_rfl
      case g_t11 => rfl
      case y_t11 => (intro w hSw; (try dsimp only at hSw); first | (go_simp; done) | (go_simp; with_reducible rfl))
      (try simp only [Act.put, List.setIfInBounds_toArray, List.set_cons_zero, List.set_cons_succ])
      refine wpAnyH_ready (rs := [10]) ?k1_t10 (by simp) ?r_t10
      case k1_t10 => kernel_rfl
      refine AllReadyH.cons (o := ?ot10) ?hi_t10 (fun K hK => ?s_t10) ?m_t10
      case hi_t10 => (simp only [List.getElem?_toArray, List.getElem?_cons_succ, List.getElem?_cons_zero]; rfl)
      case m_t10 => exact AllReadyH.nil
      go_simp
      (go_at_call 16; (refine (shPlain_calls false A6 c6 xss xs _ ?ca5 HL8 HZ.out).mono ?_); (case ca5 => exact P20.out.s.below (SF.b (V := V20) (g7 := gS) (f := false) (A := A6) (n := xss.length) (c := c6) (gX := gX) (x := x) (A2 := A2) (c2 := c2) (B2 := B2) (d2 := d2) (gZ := gZ) (p := pz) (A3 := Az) (c3 := cz) (B3 := Bz) (d3 := dz) (by assumption))); rintro e w25 ⟨v25, rfl, hr25, hb25⟩; obtain ⟨A25, c25, e25, hc25, hC25⟩ := Kd.R_reads hr25; subst e25; have C25 := Lib.hid hC25; clear hr25 hC25; have HT5 := Lib.hid (SF.next (V := V20) (g7 := gS) (f := false) (A := A6) (n := xss.length) (c := c6) (gX := gX) (x := x) (A2 := A2) (c2 := c2) (B2 := B2) (d2 := d2) (gZ := gZ) (p := pz) (A3 := Az) (c3 := cz) (B3 := Bz) (d3 := dz) (by assumption) hb25); clear hb25)
      (try go_wp2_with fail)
      refine hK.out _ _ HT5.out (fun hHeld => ?_)
      clear hK K
      (try simp only [Act.put, List.setIfInBounds_toArray, List.set_cons_zero, List.set_cons_succ])
      refine wpAnyH_ready (rs := [12]) ?k1_t12 (by simp) ?r_t12
      case k1_t12 => kernel_rfl
      refine AllReadyH.cons (o := ?ot12) ?hi_t12 (fun K hK => ?s_t12) ?m_t12
      case hi_t12 => (simp only [List.getElem?_toArray, List.getElem?_cons_succ, List.getElem?_cons_zero]; rfl)
      case m_t12 => exact AllReadyH.nil
      go_simp
      (go_at_call 15; (refine (chancelref06_Same.calls k7 A25 c25 xs A c xs true _ C25.out hc25 ?ca6 hc K7.out).mono ?_); (case ca6 => exact Kd.C_below HR.out (below_step P20.out.b (SF.b (V := V20) (g7 := gS) (f := false) (A := A6) (n := xss.length) (c := c6) (gX := gX) (x := x) (A2 := A2) (c2 := c2) (B2 := B2) (d2 := d2) (gZ := gZ) (p := pz) (A3 := Az) (c3 := cz) (B3 := Bz) (d3 := dz) (by assumption)))); rintro e w26 ⟨rfl, hb26⟩; have HT6 := Lib.hid (SF.next (V := V20) (g7 := gS) (f := false) (A := A6) (n := xss.length) (c := c6) (gX := gX) (x := x) (A2 := A2) (c2 := c2) (B2 := B2) (d2 := d2) (gZ := gZ) (p := pz) (A3 := Az) (c3 := cz) (B3 := Bz) (d3 := dz) (by assumption) hb26); clear hb26)
      (try go_wp2_with fail)
      refine hK.out _ _ HT6.out (fun hHeld => ?_)
      clear hK K
      (try simp only [Act.put, List.setIfInBounds_toArray, List.set_cons_zero, List.set_cons_succ])
      refine wpAnyH_take (i := 13) (oi := ?ot13) (v := ?vt13) ?hi_t13 ?k1_t13 ?k2_t13 ?k3_t13 (fun _ _ _ h => h) (Or.inl ⟨?g_t13, ?y_t13⟩) (by assumption) ?r_t13
      case hi_t13 => (simp only [List.getElem?_toArray, List.getElem?_cons_succ, List.getElem?_cons_zero]; rfl)
      case k1_t13 => kernel_rfl
      case k2_t13 => kernel_rfl
      case k3_t13 => kernel_rfl
      case g_t13 => rfl
      case y_t13 => (intro w hSw; (try dsimp only at hSw); first | (go_simp; done) | (go_simp; with_reducible rfl))
      (try simp only [Act.put, List.setIfInBounds_toArray, List.set_cons_zero, List.set_cons_succ])
      refine wpAnyH_take (i := 14) (oi := ?ot14) (v := ?vt14) ?hi_t14 ?k1_t14 ?k2_t14 ?k3_t14 (fun _ _ _ h => h) (Or.inl ⟨?g_t14, ?y_t14⟩) (by assumption) ?r_t14
      case hi_t14 => (simp only [List.getElem?_toArray, List.getElem?_cons_succ, List.getElem?_cons_zero]; rfl)
      case k1_t14 => kernel_rfl
      case k2_t14 => kernel_rfl
      case k3_t14 => kernel_rfl
      case g_t14 => rfl
      case y_t14 => (intro w hSw; (try dsimp only at hSw); first | (go_simp; done) | (go_simp; with_reducible rfl))
      (try simp only [Act.put, List.setIfInBounds_toArray, List.set_cons_zero, List.set_cons_succ])
      refine wpAnyH_done (by kernel_rfl) ?_ _
      refine NoPanic.normal ?_
      have B26 := Lib.hid (below_step P20.out.b (SF.b HT6.out))
      clear HT1 HT2 HT3 HT4 HT5 HT6 QT P20 S20 SC RC hHeld
      go_wp2
      go_ret
      exact ⟨rfl, B26.out⟩
     ·rw [hp] at hk4
      have K4 := Lib.hid hk4
      have PL := Lib.hid hp
      have HY := Lib.hid hy
      have hlt := (List.getElem?_eq_some_iff.1 hy).1
      clear hk4 hp hy hyid
      go_wp2_with fail
      (go_at_call 17; refine (find_hit false A6 c6 xss xs id kk y _ P13.out.s HL8 PL.out HY.out).mono ?_; rintro e w14 ⟨p, A7, c7, B7, d7, rfl, hs14, hb14⟩)
      have P14 := Lib.hid (P13.out.next hb14)
      have S14 := Lib.hid hs14
      clear hb14 hs14 P13 y0 y1
      go_upto_region 9 with (first | ((with_reducible refine gate_dst (N := 11) rfl ?_); refine box_event ?hg (N := 11) ?hd (cs := #[.int .i64 0, .int .i64 0, .pointer none, .slice none 0 0, .slice none 0 0]) (t := 45) ?hr ?_; (case hd => rfl); (case hg => rfl); (case hr => first | (go_simp; done) | (go_simp; rfl)); intro gY hgY wY hxY hbY; have GY := Lib.hid (show w14.heap.size ≤ gY by rw [hgY]; exact Nat.le_refl _); have BY := Lib.hid hbY; have XY := Lib.hid hxY; have q0 := (blk_cell hxY 0).trans rfl; have q1 := (blk_cell hxY 1).trans rfl; have q2 := (blk_cell hxY 2).trans rfl; have q3 := (blk_cell hxY 3).trans rfl; have q4 := (blk_cell hxY 4).trans rfl; have z0 := blk_frozen hxY 0; have z1 := blk_frozen hxY 1; have z2 := blk_frozen hxY 2; have z3 := blk_frozen hxY 3; have z4 := blk_frozen hxY 4; clear hgY hxY hbY))
      refine gen2 (φ := fun W => Code.wp _ _ _ _ W) (P := fun W => Below w14.heap.size w14 W ∧ W.heap[gY]? = some (.cells #[.int .i64 y.f0, .int .i64 y.f1, .pointer p, .slice A7 y.f3.length c7, .slice B7 y.f4.length d7] 45 (0, 0))) ⟨below_set (below_set (below_set (below_set (below_set BY.out GY.out) GY.out) GY.out) GY.out) GY.out, by simpa using blk_set (blk_set (blk_set (blk_set (blk_set XY.out 0 (.int .i64 y.f0)) 1 (.int .i64 y.f1)) 2 (.pointer p)) 3 (.slice A7 y.f3.length c7)) 4 (.slice B7 y.f4.length d7)⟩ ?_
      clear q0 q1 q2 q3 q4 z0 z1 z2 z3 z4 XY BY GY
      rintro V15 ⟨hbV15, hxV15⟩
      have P15 := Lib.hid (P14.out.next hbV15)
      have S15 := Lib.hid (S14.out.below hbV15)
      have XY := Lib.hid hxV15
      clear hbV15 hxV15 P14 S14
      go_wp2_with fail
      (go_at_call 21; refine (chancelref06_Place.calls k4 A c xs id (kk : Int) _ (Kd.C_below HR.out P15.out.b) hc K4.out).mono ?_; rintro e w16 ⟨rfl, hb16⟩)
      have hb16' : Below V15.heap.size V15 w16 := by first | exact hb16 | exact below_drawn hb16
      have P16 := Lib.hid (P15.out.next hb16')
      have S16 := Lib.hid (S15.out.below hb16')
      have Y16 := Lib.hid (blk_below XY.out hb16')
      clear hb16 hb16' P15 S15 XY
      obtain ⟨k5, hk5⟩ := Go.Proofs.YtkkjebjlgcggcaaDoorW.PrintWords.Ev.rounds (same5_ev y (HZ.out y (List.mem_of_getElem? HY.out)))
      have K5 := Lib.hid hk5
      obtain ⟨ad, A9, c9, A10, c10, e9, y0, y1, y2, y3, y4, hgr9⟩ := at_G (Kd.C_below HR.out P16.out.b) HY.out hlt
      have G9 := Lib.hid hgr9
      subst e9
      have QS := Lib.hid (show QF w16 gY y p A7 c7 B7 d7 ad kk A9 c9 A10 c10 w16 from ⟨Q5.of Y16.out (Below.refl _ _), y0, y1, y2, y3, y4⟩)
      clear hk5 hgr9 y0 y1 y2 y3 y4
      have hm0 : ((kk : Int) < 0) = False := eq_false (by omega)
      have d1 : decide ((0 : Int) ≤ (kk : Int)) = true := by simp
      have b1 : (0 : Int) ≤ (kk : Int) := by omega
      have b2 : (kk : Int) < (xs.length : Int) := by omega
      go_upto_region 10 with (fail)
      refine wp_region_noPanic ?_
      refine wp_region_held_drew (S := (fun w' => QF w16 gY y p A7 c7 B7 d7 ad kk A9 c9 A10 c10 w')) ?hm_h ?hS_h (fun hHeld => ?_)
      case hm_h => kernel_rfl
      case hS_h => exact QS.out.next (by (with_reducible repeat (first | exact Below.refl _ _ | apply pw_below_drewN | apply Below.drew)))
      refine wpAnyH_take (i := 0) (oi := ?oh0) (v := ?vh0) ?hi_h0 ?k1_h0 ?k2_h0 ?k3_h0 (fun _ _ _ h => h) (Or.inl ⟨?g_h0, ?y_h0⟩) (by assumption) ?r_h0
      case hi_h0 => (simp only [List.getElem?_toArray, List.getElem?_cons_succ, List.getElem?_cons_zero]; rfl)
      case k1_h0 => kernel_rfl
      case k2_h0 => kernel_rfl
      case k3_h0 => kernel_rfl
      case g_h0 => rfl
      case y_h0 => (intro w hSw; (try dsimp only at hSw); first | (go_simp; done) | (go_simp; with_reducible rfl))
      (try simp only [Act.put, List.setIfInBounds_toArray, List.set_cons_zero, List.set_cons_succ])
      refine wpAnyH_take (i := 1) (oi := ?oh1) (v := ?vh1) ?hi_h1 ?k1_h1 ?k2_h1 ?k3_h1 (fun _ _ _ h => h) (Or.inl ⟨?g_h1, ?y_h1⟩) (by assumption) ?r_h1
      case hi_h1 => (simp only [List.getElem?_toArray, List.getElem?_cons_succ, List.getElem?_cons_zero]; rfl)
      case k1_h1 => kernel_rfl
      case k2_h1 => kernel_rfl
      case k3_h1 => kernel_rfl
      case g_h1 => rfl
      case y_h1 => (intro w hSw; (try dsimp only at hSw); first | (go_simp; done) | (go_simp; with_reducible rfl))
      (try simp only [Act.put, List.setIfInBounds_toArray, List.set_cons_zero, List.set_cons_succ])
      refine wpAnyH_take (i := 2) (oi := ?oh2) (v := ?vh2) ?hi_h2 ?k1_h2 ?k2_h2 ?k3_h2 (fun _ _ _ h => h) (Or.inl ⟨?g_h2, ?y_h2⟩) (by assumption) ?r_h2
      case hi_h2 => (simp only [List.getElem?_toArray, List.getElem?_cons_succ, List.getElem?_cons_zero]; rfl)
      case k1_h2 => kernel_rfl
      case k2_h2 => kernel_rfl
      case k3_h2 => kernel_rfl
      case g_h2 => rfl
      case y_h2 => (intro w hSw; (try dsimp only at hSw); first | (go_simp; done) | (go_simp; with_reducible rfl))
      (try simp only [Act.put, List.setIfInBounds_toArray, List.set_cons_zero, List.set_cons_succ])
      refine wpAnyH_take (i := 3) (oi := ?oh3) (v := ?vh3) ?hi_h3 ?k1_h3 ?k2_h3 ?k3_h3 (fun _ _ _ h => h) (Or.inl ⟨?g_h3, ?y_h3⟩) (by assumption) ?r_h3
      case hi_h3 => (simp only [List.getElem?_toArray, List.getElem?_cons_succ, List.getElem?_cons_zero]; rfl)
      case k1_h3 => kernel_rfl
      case k2_h3 => kernel_rfl
      case k3_h3 => kernel_rfl
      case g_h3 => rfl
      case y_h3 => (intro w hSw; (try dsimp only at hSw); first | (go_simp; done) | (go_simp; with_reducible rfl))
      (try simp only [Act.put, List.setIfInBounds_toArray, List.set_cons_zero, List.set_cons_succ])
      refine wpAnyH_take (i := 4) (oi := ?oh4) (v := ?vh4) ?hi_h4 ?k1_h4 ?k2_h4 ?k3_h4 (fun _ _ _ h => h) (Or.inl ⟨?g_h4, ?y_h4⟩) (by assumption) ?r_h4
      case hi_h4 => (simp only [List.getElem?_toArray, List.getElem?_cons_succ, List.getElem?_cons_zero]; rfl)
      case k1_h4 => kernel_rfl
      case k2_h4 => kernel_rfl
      case k3_h4 => kernel_rfl
      case g_h4 => rfl
      case y_h4 => (intro w hSw; (try dsimp only at hSw); first | (go_simp; done) | (go_simp; with_reducible rfl))
      (try simp only [Act.put, List.setIfInBounds_toArray, List.set_cons_zero, List.set_cons_succ])
      refine wpAnyH_take (i := 5) (oi := ?oh5) (v := ?vh5) ?hi_h5 ?k1_h5 ?k2_h5 ?k3_h5 (fun _ _ _ h => h) (Or.inl ⟨?g_h5, ?y_h5⟩) (by assumption) ?r_h5
      case hi_h5 => (simp only [List.getElem?_toArray, List.getElem?_cons_succ, List.getElem?_cons_zero]; rfl)
      case k1_h5 => kernel_rfl
      case k2_h5 => kernel_rfl
      case k3_h5 => kernel_rfl
      case g_h5 => rfl
      case y_h5 => (intro w hSw; (try dsimp only at hSw); first | (go_simp; done) | (go_simp; with_reducible rfl))
      (try simp only [Act.put, List.setIfInBounds_toArray, List.set_cons_zero, List.set_cons_succ])
      refine wpAnyH_take (i := 6) (oi := ?oh6) (v := ?vh6) ?hi_h6 ?k1_h6 ?k2_h6 ?k3_h6 (fun _ _ _ h => h) (Or.inl ⟨?g_h6, ?y_h6⟩) (by assumption) ?r_h6
      case hi_h6 => (simp only [List.getElem?_toArray, List.getElem?_cons_succ, List.getElem?_cons_zero]; rfl)
      case k1_h6 => kernel_rfl
      case k2_h6 => kernel_rfl
      case k3_h6 => kernel_rfl
      case g_h6 => rfl
      case y_h6 => (intro w hSw; (try dsimp only at hSw); first | (go_simp; done) | (go_simp; with_reducible rfl))
      (try simp only [Act.put, List.setIfInBounds_toArray, List.set_cons_zero, List.set_cons_succ])
      refine wpAnyH_take (i := 7) (oi := ?oh7) (v := ?vh7) ?hi_h7 ?k1_h7 ?k2_h7 ?k3_h7 (fun _ _ _ h => h) (Or.inl ⟨?g_h7, ?y_h7⟩) (by assumption) ?r_h7
      case hi_h7 => (simp only [List.getElem?_toArray, List.getElem?_cons_succ, List.getElem?_cons_zero]; rfl)
      case k1_h7 => kernel_rfl
      case k2_h7 => kernel_rfl
      case k3_h7 => kernel_rfl
      case g_h7 => rfl
      case y_h7 => (intro w hSw; (try dsimp only at hSw); first | (go_simp; done) | (go_simp; with_reducible rfl))
      (try simp only [Act.put, List.setIfInBounds_toArray, List.set_cons_zero, List.set_cons_succ])
      refine wpAnyH_take (i := 9) (oi := ?oh9) (v := ?vh9) ?hi_h9 ?k1_h9 ?k2_h9 ?k3_h9 (fun _ _ _ h => h) (Or.inl ⟨?g_h9, ?y_h9⟩) (by assumption) ?r_h9
      case hi_h9 => (simp only [List.getElem?_toArray, List.getElem?_cons_succ, List.getElem?_cons_zero]; rfl)
      case k1_h9 => kernel_rfl
      case k2_h9 => kernel_rfl
      case k3_h9 => kernel_rfl
      case g_h9 => rfl
      case y_h9 => (intro w hSw; (try dsimp only at hSw); first | (go_simp; done) | (go_simp; with_reducible rfl))
      (try simp only [Act.put, List.setIfInBounds_toArray, List.set_cons_zero, List.set_cons_succ])
      refine wpAnyH_take (i := 10) (oi := ?oh10) (v := ?vh10) ?hi_h10 ?k1_h10 ?k2_h10 ?k3_h10 (fun _ _ _ h => h) (Or.inl ⟨?g_h10, ?y_h10⟩) (by assumption) ?r_h10
      case hi_h10 => (simp only [List.getElem?_toArray, List.getElem?_cons_succ, List.getElem?_cons_zero]; rfl)
      case k1_h10 => kernel_rfl
      case k2_h10 => kernel_rfl
      case k3_h10 => kernel_rfl
      case g_h10 => rfl
      case y_h10 => (intro w hSw; (try dsimp only at hSw); first | (go_simp; done) | (go_simp; with_reducible rfl))
      (try simp only [Act.put, List.setIfInBounds_toArray, List.set_cons_zero, List.set_cons_succ])
      refine wpAnyH_take (i := 11) (oi := ?oh11) (v := ?vh11) ?hi_h11 ?k1_h11 ?k2_h11 ?k3_h11 (fun _ _ _ h => h) (Or.inl ⟨?g_h11, ?y_h11⟩) (by assumption) ?r_h11
      case hi_h11 => (simp only [List.getElem?_toArray, List.getElem?_cons_succ, List.getElem?_cons_zero]; rfl)
      case k1_h11 => kernel_rfl
      case k2_h11 => kernel_rfl
      case k3_h11 => kernel_rfl
      case g_h11 => rfl
      case y_h11 => (intro w hSw; (try dsimp only at hSw); first | (go_simp; done) | (go_simp; with_reducible rfl))
      (try simp only [Act.put, List.setIfInBounds_toArray, List.set_cons_zero, List.set_cons_succ])
      refine wpAnyH_take (i := 12) (oi := ?oh12) (v := ?vh12) ?hi_h12 ?k1_h12 ?k2_h12 ?k3_h12 (fun _ _ _ h => h) (Or.inl ⟨?g_h12, ?y_h12⟩) (by assumption) ?r_h12
      case hi_h12 => (simp only [List.getElem?_toArray, List.getElem?_cons_succ, List.getElem?_cons_zero]; rfl)
      case k1_h12 => kernel_rfl
      case k2_h12 => kernel_rfl
      case k3_h12 => kernel_rfl
      case g_h12 => rfl
      case y_h12 => (intro w hSw; (try dsimp only at hSw); first | (go_simp; done) | (go_simp; with_reducible rfl))
      (try simp only [Act.put, List.setIfInBounds_toArray, List.set_cons_zero, List.set_cons_succ])
      refine wpAnyH_take (i := 13) (oi := ?oh13) (v := ?vh13) ?hi_h13 ?k1_h13 ?k2_h13 ?k3_h13 (fun _ _ _ h => h) (Or.inl ⟨?g_h13, ?y_h13⟩) (by assumption) ?r_h13
      case hi_h13 => (simp only [List.getElem?_toArray, List.getElem?_cons_succ, List.getElem?_cons_zero]; rfl)
      case k1_h13 => kernel_rfl
      case k2_h13 => kernel_rfl
      case k3_h13 => kernel_rfl
      case g_h13 => rfl
      case y_h13 => (intro w hSw; (try dsimp only at hSw); first | (go_simp; done) | (go_simp; with_reducible rfl))
      (try simp only [Act.put, List.setIfInBounds_toArray, List.set_cons_zero, List.set_cons_succ])
      refine wpAnyH_ready (rs := [8]) ?k1_h8 (by simp) ?r_h8
      case k1_h8 => kernel_rfl
      refine AllReadyH.cons (o := ?oh8) ?hi_h8 (fun K hK => ?s_h8) ?m_h8
      case hi_h8 => (simp only [List.getElem?_toArray, List.getElem?_cons_succ, List.getElem?_cons_zero]; rfl)
      case m_h8 => exact AllReadyH.nil
      go_simp
      (go_at_call 23; (refine (plainG_calls y p A7 c7 B7 d7 _ ?ca (HZ.out y (List.mem_of_getElem? HY.out))).mono ?_); (case ca => exact S16.out.below (QF.b (V := w16) (g := gY) (y := y) (p := p) (A := A7) (c := c7) (B := B7) (d := d7) (ad := ad) (kk := kk) (A9 := A9) (c9 := c9) (A10 := A10) (c10 := c10) (by assumption))); rintro e w17 ⟨A17, c17, B17, d17, rfl, hr3, hr4, hb17⟩; have R3 := Lib.hid (Kd.R_reads' hr3); have R4 := Lib.hid (Kd.R_reads' hr4); have HS1 := Lib.hid (QF.next (V := w16) (g := gY) (y := y) (p := p) (A := A7) (c := c7) (B := B7) (d := d7) (ad := ad) (kk := kk) (A9 := A9) (c9 := c9) (A10 := A10) (c10 := c10) (by assumption) hb17); clear hr3 hr4 hb17)
      (try go_wp2_with fail)
      refine hK.out _ _ HS1.out (fun hHeld => ?_)
      clear hK K
      (try simp only [Act.put, List.setIfInBounds_toArray, List.set_cons_zero, List.set_cons_succ])
      refine wpAnyH_ready (rs := [14]) ?k1_h14 (by simp) ?r_h14
      case k1_h14 => kernel_rfl
      refine AllReadyH.cons (o := ?oh14) ?hi_h14 (fun K hK => ?s_h14) ?m_h14
      case hi_h14 => (simp only [List.getElem?_toArray, List.getElem?_cons_succ, List.getElem?_cons_zero]; rfl)
      case m_h14 => exact AllReadyH.nil
      go_simp
      (go_at_call 22; (refine (chancelref05_Same.calls k5 y.f0 y.f1 y.f2 A17 c17 y.f3 B17 d17 y.f4 y.f0 y.f1 y.f2 A9 c9 y.f3 A10 c10 y.f4 true _ ?h1 R3.out.2.1 ?h2 R4.out.2.1 ?h3 G9.out.c3 ?h4 G9.out.c4 K5.out).mono ?_); (case h1 => exact Kd.C_below R3.out.2.2 (by (with_reducible repeat (first | exact Below.refl _ _ | apply pw_below_drewN | apply Below.drew)))); (case h2 => exact Kd.C_below R4.out.2.2 (by (with_reducible repeat (first | exact Below.refl _ _ | apply pw_below_drewN | apply Below.drew)))); (case h3 => exact Kd.C_below G9.out.r3 (QF.b (V := w16) (g := gY) (y := y) (p := p) (A := A7) (c := c7) (B := B7) (d := d7) (ad := ad) (kk := kk) (A9 := A9) (c9 := c9) (A10 := A10) (c10 := c10) (by assumption))); (case h4 => exact Kd.C_below G9.out.r4 (QF.b (V := w16) (g := gY) (y := y) (p := p) (A := A7) (c := c7) (B := B7) (d := d7) (ad := ad) (kk := kk) (A9 := A9) (c9 := c9) (A10 := A10) (c10 := c10) (by assumption))); rintro e w18 ⟨rfl, hb18⟩; have HS2 := Lib.hid (QF.next (V := w16) (g := gY) (y := y) (p := p) (A := A7) (c := c7) (B := B7) (d := d7) (ad := ad) (kk := kk) (A9 := A9) (c9 := c9) (A10 := A10) (c10 := c10) (by assumption) hb18); clear hb18)
      (try go_wp2_with fail)
      refine hK.out _ _ HS2.out (fun hHeld => ?_)
      clear hK K
      (try simp only [Act.put, List.setIfInBounds_toArray, List.set_cons_zero, List.set_cons_succ])
      refine wpAnyH_take (i := 15) (oi := ?oh15) (v := ?vh15) ?hi_h15 ?k1_h15 ?k2_h15 ?k3_h15 (fun _ _ _ h => h) (Or.inl ⟨?g_h15, ?y_h15⟩) (by assumption) ?r_h15
      case hi_h15 => (simp only [List.getElem?_toArray, List.getElem?_cons_succ, List.getElem?_cons_zero]; rfl)
      case k1_h15 => kernel_rfl
      case k2_h15 => kernel_rfl
      case k3_h15 => kernel_rfl
      case g_h15 => rfl
      case y_h15 => (intro w hSw; (try dsimp only at hSw); first | (go_simp; done) | (go_simp; with_reducible rfl))
      (try simp only [Act.put, List.setIfInBounds_toArray, List.set_cons_zero, List.set_cons_succ])
      refine wpAnyH_take (i := 16) (oi := ?oh16) (v := ?vh16) ?hi_h16 ?k1_h16 ?k2_h16 ?k3_h16 (fun _ _ _ h => h) (Or.inl ⟨?g_h16, ?y_h16⟩) (by assumption) ?r_h16
      case hi_h16 => (simp only [List.getElem?_toArray, List.getElem?_cons_succ, List.getElem?_cons_zero]; rfl)
      case k1_h16 => kernel_rfl
      case k2_h16 => kernel_rfl
      case k3_h16 => kernel_rfl
      case g_h16 => rfl
      case y_h16 => (intro w hSw; (try dsimp only at hSw); first | (go_simp; done) | (go_simp; with_reducible rfl))
      (try simp only [Act.put, List.setIfInBounds_toArray, List.set_cons_zero, List.set_cons_succ])
      refine wpAnyH_take (i := 17) (oi := ?oh17) (v := ?vh17) ?hi_h17 ?k1_h17 ?k2_h17 ?k3_h17 (fun _ _ _ h => h) (Or.inl ⟨?g_h17, ?y_h17⟩) (by assumption) ?r_h17
      case hi_h17 => (simp only [List.getElem?_toArray, List.getElem?_cons_succ, List.getElem?_cons_zero]; rfl)
      case k1_h17 => kernel_rfl
      case k2_h17 => kernel_rfl
      case k3_h17 => kernel_rfl
      case g_h17 => rfl
      case y_h17 => (intro w hSw; (try dsimp only at hSw); first | (go_simp; done) | (go_simp; with_reducible rfl))
      (try simp only [Act.put, List.setIfInBounds_toArray, List.set_cons_zero, List.set_cons_succ])
      refine wpAnyH_take (i := 18) (oi := ?oh18) (v := ?vh18) ?hi_h18 ?k1_h18 ?k2_h18 ?k3_h18 (fun _ _ _ h => h) (Or.inl ⟨?g_h18, ?y_h18⟩) (by assumption) ?r_h18
      case hi_h18 => (simp only [List.getElem?_toArray, List.getElem?_cons_succ, List.getElem?_cons_zero]; rfl)
      case k1_h18 => kernel_rfl
      case k2_h18 => kernel_rfl
      case k3_h18 => kernel_rfl
      case g_h18 => rfl
      case y_h18 => (intro w hSw; (try dsimp only at hSw); first | (go_simp; done) | (go_simp; with_reducible rfl))
      (try simp only [Act.put, List.setIfInBounds_toArray, List.set_cons_zero, List.set_cons_succ])
      refine wpAnyH_take (i := 19) (oi := ?oh19) (v := ?vh19) ?hi_h19 ?k1_h19 ?k2_h19 ?k3_h19 (fun _ _ _ h => h) (Or.inl ⟨?g_h19, ?y_h19⟩) (by assumption) ?r_h19
      case hi_h19 => (simp only [List.getElem?_toArray, List.getElem?_cons_succ, List.getElem?_cons_zero]; rfl)
      case k1_h19 => kernel_rfl
      case k2_h19 => kernel_rfl
      case k3_h19 => kernel_rfl
      case g_h19 => rfl
      case y_h19 => (intro w hSw; (try dsimp only at hSw); first | (go_simp; done) | (go_simp; with_reducible rfl))
      (try simp only [Act.put, List.setIfInBounds_toArray, List.set_cons_zero, List.set_cons_succ])
      refine wpAnyH_take (i := 20) (oi := ?oh20) (v := ?vh20) ?hi_h20 ?k1_h20 ?k2_h20 ?k3_h20 (fun _ _ _ h => h) (Or.inl ⟨?g_h20, ?y_h20⟩) (by assumption) ?r_h20
      case hi_h20 => (simp only [List.getElem?_toArray, List.getElem?_cons_succ, List.getElem?_cons_zero]; rfl)
      case k1_h20 => kernel_rfl
      case k2_h20 => kernel_rfl
      case k3_h20 => kernel_rfl
      case g_h20 => rfl
      case y_h20 => (intro w hSw; (try dsimp only at hSw); first | (go_simp; done) | (go_simp; with_reducible rfl))
      (try simp only [Act.put, List.setIfInBounds_toArray, List.set_cons_zero, List.set_cons_succ])
      refine wpAnyH_take (i := 21) (oi := ?oh21) (v := ?vh21) ?hi_h21 ?k1_h21 ?k2_h21 ?k3_h21 (fun _ _ _ h => h) (Or.inl ⟨?g_h21, ?y_h21⟩) (by assumption) ?r_h21
      case hi_h21 => (simp only [List.getElem?_toArray, List.getElem?_cons_succ, List.getElem?_cons_zero]; rfl)
      case k1_h21 => kernel_rfl
      case k2_h21 => kernel_rfl
      case k3_h21 => kernel_rfl
      case g_h21 => rfl
      case y_h21 => (intro w hSw; (try dsimp only at hSw); first | (go_simp; done) | (go_simp; with_reducible rfl))
      (try simp only [Act.put, List.setIfInBounds_toArray, List.set_cons_zero, List.set_cons_succ])
      refine wpAnyH_take (i := 22) (oi := ?oh22) (v := undef) ?hi_h22 ?k1_h22 ?k2_h22 ?k3_h22 (fun _ _ _ h => h) (Or.inr ⟨?g_h22, rfl⟩) (by assumption) ?r_h22
      case hi_h22 => (simp only [List.getElem?_toArray, List.getElem?_cons_succ, List.getElem?_cons_zero]; rfl)
      case k1_h22 => kernel_rfl
      case k2_h22 => kernel_rfl
      case k3_h22 => kernel_rfl
      case g_h22 => rfl
      (try simp only [Act.put, List.setIfInBounds_toArray, List.set_cons_zero, List.set_cons_succ])
      refine wpAnyH_take (i := 23) (oi := ?oh23) (v := undef) ?hi_h23 ?k1_h23 ?k2_h23 ?k3_h23 (fun _ _ _ h => h) (Or.inr ⟨?g_h23, rfl⟩) (by assumption) ?r_h23
      case hi_h23 => (simp only [List.getElem?_toArray, List.getElem?_cons_succ, List.getElem?_cons_zero]; rfl)
      case k1_h23 => kernel_rfl
      case k2_h23 => kernel_rfl
      case k3_h23 => kernel_rfl
      case g_h23 => rfl
      (try simp only [Act.put, List.setIfInBounds_toArray, List.set_cons_zero, List.set_cons_succ])
      refine wpAnyH_take (i := 24) (oi := ?oh24) (v := undef) ?hi_h24 ?k1_h24 ?k2_h24 ?k3_h24 (fun _ _ _ h => h) (Or.inr ⟨?g_h24, rfl⟩) (by assumption) ?r_h24
      case hi_h24 => (simp only [List.getElem?_toArray, List.getElem?_cons_succ, List.getElem?_cons_zero]; rfl)
      case k1_h24 => kernel_rfl
      case k2_h24 => kernel_rfl
      case k3_h24 => kernel_rfl
      case g_h24 => rfl
      (try simp only [Act.put, List.setIfInBounds_toArray, List.set_cons_zero, List.set_cons_succ])
      refine wpAnyH_take (i := 25) (oi := ?oh25) (v := undef) ?hi_h25 ?k1_h25 ?k2_h25 ?k3_h25 (fun _ _ _ h => h) (Or.inr ⟨?g_h25, rfl⟩) (by assumption) ?r_h25
      case hi_h25 => (simp only [List.getElem?_toArray, List.getElem?_cons_succ, List.getElem?_cons_zero]; rfl)
      case k1_h25 => kernel_rfl
      case k2_h25 => kernel_rfl
      case k3_h25 => kernel_rfl
      case g_h25 => rfl
      (try simp only [Act.put, List.setIfInBounds_toArray, List.set_cons_zero, List.set_cons_succ])
      refine wpAnyH_take (i := 26) (oi := ?oh26) (v := undef) ?hi_h26 ?k1_h26 ?k2_h26 ?k3_h26 (fun _ _ _ h => h) (Or.inr ⟨?g_h26, rfl⟩) (by assumption) ?r_h26
      case hi_h26 => (simp only [List.getElem?_toArray, List.getElem?_cons_succ, List.getElem?_cons_zero]; rfl)
      case k1_h26 => kernel_rfl
      case k2_h26 => kernel_rfl
      case k3_h26 => kernel_rfl
      case g_h26 => rfl
      (try simp only [Act.put, List.setIfInBounds_toArray, List.set_cons_zero, List.set_cons_succ])
      refine wpAnyH_take (i := 27) (oi := ?oh27) (v := ?vh27) ?hi_h27 ?k1_h27 ?k2_h27 ?k3_h27 (fun _ _ _ h => h) (Or.inl ⟨?g_h27, ?y_h27⟩) (by assumption) ?r_h27
      case hi_h27 => (simp only [List.getElem?_toArray, List.getElem?_cons_succ, List.getElem?_cons_zero]; rfl)
      case k1_h27 => kernel_rfl
      case k2_h27 => kernel_rfl
      case k3_h27 => kernel_rfl
      case g_h27 => rfl
      case y_h27 => (intro w hSw; (try dsimp only at hSw); first | (go_simp; done) | (go_simp; with_reducible rfl))
      (try simp only [Act.put, List.setIfInBounds_toArray, List.set_cons_zero, List.set_cons_succ])
      refine wpAnyH_take (i := 28) (oi := ?oh28) (v := ?vh28) ?hi_h28 ?k1_h28 ?k2_h28 ?k3_h28 (fun _ _ _ h => h) (Or.inl ⟨?g_h28, ?y_h28⟩) (by assumption) ?r_h28
      case hi_h28 => (simp only [List.getElem?_toArray, List.getElem?_cons_succ, List.getElem?_cons_zero]; rfl)
      case k1_h28 => kernel_rfl
      case k2_h28 => kernel_rfl
      case k3_h28 => kernel_rfl
      case g_h28 => rfl
      case y_h28 => (intro w hSw; (try dsimp only at hSw); first | (go_simp; done) | (go_simp; with_reducible rfl))
      (try simp only [Act.put, List.setIfInBounds_toArray, List.set_cons_zero, List.set_cons_succ])
      refine wpAnyH_done (by kernel_rfl) ?_ _
      refine NoPanic.normal ?_
      have P18 := Lib.hid (P16.out.next (QF.b HS2.out))
      clear HS1 HS2 R3 R4 QS hHeld P16 S16 Y16 G9 K5
      have a0 := (blk_cell P18.out.hX 0).trans rfl
      have a1 := (blk_cell P18.out.hX 1).trans rfl
      have a2 := (blk_cell P18.out.hX 2).trans rfl
      have a3 := (blk_cell P18.out.hX 3).trans rfl
      have a4 := (blk_cell P18.out.hX 4).trans rfl
      go_wp2_with fail
      (go_at_call 24; refine (segLoad_good x A2 c2 B2 d2 _ (HT.out.below P18.out.b) (HG.out.below P18.out.b) ZX.out OX.out).mono ?_; rintro e w19 ⟨pz, Az, cz, Bz, dz, rfl, hs19, hb19⟩)
      have P19 := Lib.hid (P18.out.next hb19)
      have S19 := Lib.hid hs19
      clear hb19 hs19 P18 a0 a1 a2 a3 a4
      go_upto_region 13 with (first | ((with_reducible refine gate_dst (N := 14) rfl ?_); refine box_event ?hg (N := 14) ?hd (cs := #[.int .i64 0, .int .i64 0, .pointer none, .slice none 0 0, .slice none 0 0]) (t := 45) ?hr ?_; (case hd => rfl); (case hg => rfl); (case hr => first | (go_simp; done) | (go_simp; rfl)); intro gZ hgZ wZ hxZ hbZ; have GZ := Lib.hid (show w19.heap.size ≤ gZ by rw [hgZ]; exact Nat.le_refl _); have BZ := Lib.hid hbZ; have XZ := Lib.hid hxZ; have q0 := (blk_cell hxZ 0).trans rfl; have q1 := (blk_cell hxZ 1).trans rfl; have q2 := (blk_cell hxZ 2).trans rfl; have q3 := (blk_cell hxZ 3).trans rfl; have q4 := (blk_cell hxZ 4).trans rfl; have z0 := blk_frozen hxZ 0; have z1 := blk_frozen hxZ 1; have z2 := blk_frozen hxZ 2; have z3 := blk_frozen hxZ 3; have z4 := blk_frozen hxZ 4; clear hgZ hxZ hbZ))
      refine gen2 (φ := fun W => Code.wp _ _ _ _ W) (P := fun W => Below w19.heap.size w19 W ∧ W.heap[gZ]? = some (.cells #[.int .i64 x.f0, .int .i64 x.f1, .pointer pz, .slice Az x.f3.length cz, .slice Bz x.f4.length dz] 45 (0, 0))) ⟨below_set (below_set (below_set (below_set (below_set BZ.out GZ.out) GZ.out) GZ.out) GZ.out) GZ.out, by simpa using blk_set (blk_set (blk_set (blk_set (blk_set XZ.out 0 (.int .i64 x.f0)) 1 (.int .i64 x.f1)) 2 (.pointer pz)) 3 (.slice Az x.f3.length cz)) 4 (.slice Bz x.f4.length dz)⟩ ?_
      clear q0 q1 q2 q3 q4 z0 z1 z2 z3 z4 XZ BZ GZ
      rintro V20 ⟨hbV20, hxV20⟩
      have P20 := Lib.hid (P19.out.next hbV20)
      have S20 := Lib.hid (S19.out.below hbV20)
      obtain ⟨ys, hly, hzy, hsc, hrc⟩ := set_both xs x hn2 HZ.out ZX.out
      have LYS := Lib.hid hly
      have ZYS := Lib.hid hzy
      have SC := Lib.hid hsc
      have RC := Lib.hid hrc
      obtain ⟨k6, hk6⟩ := Go.Proofs.YtkkjebjlgcggcaaDoorW.PrintWords.Ev.rounds (same6_ev ys (by rw [hly]; exact hn2) hzy)
      obtain ⟨k7, hk7⟩ := Go.Proofs.YtkkjebjlgcggcaaDoorW.PrintWords.Ev.rounds (same6_ev xs hn2 HZ.out)
      have K6 := Lib.hid hk6
      have K7 := Lib.hid hk7
      have QT := Lib.hid (show SF V20 gS false A6 xss.length c6 gX x A2 c2 B2 d2 gZ pz Az cz Bz dz V20 from SF.of P20.out.h7 P20.out.hX (Q5.of hxV20 (Below.refl _ _)))
      clear hly hzy hsc hrc hk6 hk7 hbV20 hxV20 P19 S19
      go_upto_region 13 with (fail)
      refine wp_region_noPanic ?_
      refine wp_region_held_drew (S := (fun w' => SF V20 gS false A6 xss.length c6 gX x A2 c2 B2 d2 gZ pz Az cz Bz dz w')) ?hm_u ?hS_u (fun hHeld => ?_)
      case hm_u => kernel_rfl
      case hS_u => exact QT.out.next (by (with_reducible repeat (first | exact Below.refl _ _ | apply pw_below_drewN | apply Below.drew)))
      refine wpAnyH_take (i := 0) (oi := ?ou0) (v := ?vu0) ?hi_u0 ?k1_u0 ?k2_u0 ?k3_u0 (fun _ _ _ h => h) (Or.inl ⟨?g_u0, ?y_u0⟩) (by assumption) ?r_u0
      case hi_u0 => (simp only [List.getElem?_toArray, List.getElem?_cons_succ, List.getElem?_cons_zero]; rfl)
      case k1_u0 => kernel_rfl
      case k2_u0 => kernel_rfl
      case k3_u0 => kernel_rfl
      case g_u0 => rfl
      case y_u0 => (intro w hSw; (try dsimp only at hSw); first | (go_simp; done) | (go_simp; with_reducible rfl))
      (try simp only [Act.put, List.setIfInBounds_toArray, List.set_cons_zero, List.set_cons_succ])
      refine wpAnyH_take (i := 1) (oi := ?ou1) (v := ?vu1) ?hi_u1 ?k1_u1 ?k2_u1 ?k3_u1 (fun _ _ _ h => h) (Or.inl ⟨?g_u1, ?y_u1⟩) (by assumption) ?r_u1
      case hi_u1 => (simp only [List.getElem?_toArray, List.getElem?_cons_succ, List.getElem?_cons_zero]; rfl)
      case k1_u1 => kernel_rfl
      case k2_u1 => kernel_rfl
      case k3_u1 => kernel_rfl
      case g_u1 => rfl
      case y_u1 => (intro w hSw; (try dsimp only at hSw); first | (go_simp; done) | (go_simp; with_reducible rfl))
      (try simp only [Act.put, List.setIfInBounds_toArray, List.set_cons_zero, List.set_cons_succ])
      refine wpAnyH_take (i := 4) (oi := ?ou4) (v := ?vu4) ?hi_u4 ?k1_u4 ?k2_u4 ?k3_u4 (fun _ _ _ h => h) (Or.inl ⟨?g_u4, ?y_u4⟩) (by assumption) ?r_u4
      case hi_u4 => (simp only [List.getElem?_toArray, List.getElem?_cons_succ, List.getElem?_cons_zero]; rfl)
      case k1_u4 => kernel_rfl
      case k2_u4 => kernel_rfl
      case k3_u4 => kernel_rfl
      case g_u4 => rfl
      case y_u4 => (intro w hSw; (try dsimp only at hSw); first | (go_simp; done) | (go_simp; with_reducible rfl))
      (try simp only [Act.put, List.setIfInBounds_toArray, List.set_cons_zero, List.set_cons_succ])
      refine wpAnyH_take (i := 5) (oi := ?ou5) (v := ?vu5) ?hi_u5 ?k1_u5 ?k2_u5 ?k3_u5 (fun _ _ _ h => h) (Or.inl ⟨?g_u5, ?y_u5⟩) (by assumption) ?r_u5
      case hi_u5 => (simp only [List.getElem?_toArray, List.getElem?_cons_succ, List.getElem?_cons_zero]; rfl)
      case k1_u5 => kernel_rfl
      case k2_u5 => kernel_rfl
      case k3_u5 => kernel_rfl
      case g_u5 => rfl
      case y_u5 => (intro w hSw; (try dsimp only at hSw); first | (go_simp; done) | (go_simp; with_reducible rfl))
      (try simp only [Act.put, List.setIfInBounds_toArray, List.set_cons_zero, List.set_cons_succ])
      refine wpAnyH_ready (rs := [2]) ?k1_u2 (by simp) ?r_u2
      case k1_u2 => kernel_rfl
      refine AllReadyH.cons (o := ?ou2) ?hi_u2 (fun K hK => ?s_u2) ?m_u2
      case hi_u2 => (simp only [List.getElem?_toArray, List.getElem?_cons_succ, List.getElem?_cons_zero]; rfl)
      case m_u2 => exact AllReadyH.nil
      go_simp
      (go_at_call 25; (refine (SC.out false A6 c6 xss pz Az cz Bz dz _ ?ca1 ?cb1).mono ?_); (case ca1 => exact P20.out.s.below (SF.b (V := V20) (g7 := gS) (f := false) (A := A6) (n := xss.length) (c := c6) (gX := gX) (x := x) (A2 := A2) (c2 := c2) (B2 := B2) (d2 := d2) (gZ := gZ) (p := pz) (A3 := Az) (c3 := cz) (B3 := Bz) (d3 := dz) (by assumption))); (case cb1 => exact S20.out.below (SF.b (V := V20) (g7 := gS) (f := false) (A := A6) (n := xss.length) (c := c6) (gX := gX) (x := x) (A2 := A2) (c2 := c2) (B2 := B2) (d2 := d2) (gZ := gZ) (p := pz) (A3 := Az) (c3 := cz) (B3 := Bz) (d3 := dz) (by assumption))); rintro e w21 ⟨A21, c21, yss, rfl, hs21, hb21⟩; have SH21 := Lib.hid hs21; have LY := Lib.hid hs21.len; clear hs21; have HT1 := Lib.hid (SF.next (V := V20) (g7 := gS) (f := false) (A := A6) (n := xss.length) (c := c6) (gX := gX) (x := x) (A2 := A2) (c2 := c2) (B2 := B2) (d2 := d2) (gZ := gZ) (p := pz) (A3 := Az) (c3 := cz) (B3 := Bz) (d3 := dz) (by assumption) hb21); clear hb21)
      (try go_wp2_with fail)
      refine hK.out _ _ HT1.out (fun hHeld => ?_)
      clear hK K
      (try simp only [Act.put, List.setIfInBounds_toArray, List.set_cons_zero, List.set_cons_succ])
      refine wpAnyH_ready (rs := [3]) ?k1_u3 (by simp) ?r_u3
      case k1_u3 => kernel_rfl
      refine AllReadyH.cons (o := ?ou3) ?hi_u3 (fun K hK => ?s_u3) ?m_u3
      case hi_u3 => (simp only [List.getElem?_toArray, List.getElem?_cons_succ, List.getElem?_cons_zero]; rfl)
      case m_u3 => exact AllReadyH.nil
      go_simp
      (go_at_call 16; (refine (shPlain_calls false A21 c21 yss ys _ SH21.out (by rw [← LY.out, LYS.out]; exact hn2) ZYS.out).mono ?_); rintro e w22 ⟨v22, rfl, hr22, hb22⟩; obtain ⟨A22, c22, e22, hc22, hC22⟩ := Kd.R_reads hr22; subst e22; have C22 := Lib.hid hC22; clear hr22 hC22; have HT2 := Lib.hid (SF.next (V := V20) (g7 := gS) (f := false) (A := A6) (n := xss.length) (c := c6) (gX := gX) (x := x) (A2 := A2) (c2 := c2) (B2 := B2) (d2 := d2) (gZ := gZ) (p := pz) (A3 := Az) (c3 := cz) (B3 := Bz) (d3 := dz) (by assumption) hb22); clear hb22)
      (try go_wp2_with fail)
      refine hK.out _ _ HT2.out (fun hHeld => ?_)
      clear hK K
      (try simp only [Act.put, List.setIfInBounds_toArray, List.set_cons_zero, List.set_cons_succ])
      refine wpAnyH_ready (rs := [6]) ?k1_u6 (by simp) ?r_u6
      case k1_u6 => kernel_rfl
      refine AllReadyH.cons (o := ?ou6) ?hi_u6 (fun K hK => ?s_u6) ?m_u6
      case hi_u6 => (simp only [List.getElem?_toArray, List.getElem?_cons_succ, List.getElem?_cons_zero]; rfl)
      case m_u6 => exact AllReadyH.nil
      go_simp
      (go_at_call 26; (refine (RC.out (some ad) c A2 c2 B2 d2 _ ?ca3 hc ?cb3).mono ?_); (case ca3 => exact Kd.C_below HR.out (below_step P20.out.b (SF.b (V := V20) (g7 := gS) (f := false) (A := A6) (n := xss.length) (c := c6) (gX := gX) (x := x) (A2 := A2) (c2 := c2) (B2 := B2) (d2 := d2) (gZ := gZ) (p := pz) (A3 := Az) (c3 := cz) (B3 := Bz) (d3 := dz) (by assumption)))); (case cb3 => exact HG.out.below (below_step P20.out.b (SF.b (V := V20) (g7 := gS) (f := false) (A := A6) (n := xss.length) (c := c6) (gX := gX) (x := x) (A2 := A2) (c2 := c2) (B2 := B2) (d2 := d2) (gZ := gZ) (p := pz) (A3 := Az) (c3 := cz) (B3 := Bz) (d3 := dz) (by assumption)))); rintro e w23 ⟨A23, c23, rfl, hc23, hC23, hb23⟩; have C23 := Lib.hid hC23; have C22b := Lib.hid (Kd.C_below C22.out hb23); clear hC23 C22; have HT3 := Lib.hid (SF.next (V := V20) (g7 := gS) (f := false) (A := A6) (n := xss.length) (c := c6) (gX := gX) (x := x) (A2 := A2) (c2 := c2) (B2 := B2) (d2 := d2) (gZ := gZ) (p := pz) (A3 := Az) (c3 := cz) (B3 := Bz) (d3 := dz) (by assumption) hb23); clear hb23)
      (try go_wp2_with fail)
      refine hK.out _ _ HT3.out (fun hHeld => ?_)
      clear hK K
      (try simp only [Act.put, List.setIfInBounds_toArray, List.set_cons_zero, List.set_cons_succ])
      refine wpAnyH_ready (rs := [7]) ?k1_u7 (by simp) ?r_u7
      case k1_u7 => kernel_rfl
      refine AllReadyH.cons (o := ?ou7) ?hi_u7 (fun K hK => ?s_u7) ?m_u7
      case hi_u7 => (simp only [List.getElem?_toArray, List.getElem?_cons_succ, List.getElem?_cons_zero]; rfl)
      case m_u7 => exact AllReadyH.nil
      go_simp
      (go_at_call 15; (refine (chancelref06_Same.calls k6 A22 c22 ys A23 c23 ys true _ C22b.out hc22 C23.out hc23 K6.out).mono ?_); rintro e w24 ⟨rfl, hb24⟩; have HT4 := Lib.hid (SF.next (V := V20) (g7 := gS) (f := false) (A := A6) (n := xss.length) (c := c6) (gX := gX) (x := x) (A2 := A2) (c2 := c2) (B2 := B2) (d2 := d2) (gZ := gZ) (p := pz) (A3 := Az) (c3 := cz) (B3 := Bz) (d3 := dz) (by assumption) hb24); clear hb24)
      (try go_wp2_with fail)
      refine hK.out _ _ HT4.out (fun hHeld => ?_)
      clear hK K
      (try simp only [Act.put, List.setIfInBounds_toArray, List.set_cons_zero, List.set_cons_succ])
      refine wpAnyH_take (i := 8) (oi := ?ou8) (v := ?vu8) ?hi_u8 ?k1_u8 ?k2_u8 ?k3_u8 (fun _ _ _ h => h) (Or.inl ⟨?g_u8, ?y_u8⟩) (by assumption) ?r_u8
      case hi_u8 => (simp only [List.getElem?_toArray, List.getElem?_cons_succ, List.getElem?_cons_zero]; rfl)
      case k1_u8 => kernel_rfl
      case k2_u8 => kernel_rfl
      case k3_u8 => kernel_rfl
      case g_u8 => rfl
      case y_u8 => (intro w hSw; (try dsimp only at hSw); first | (go_simp; done) | (go_simp; with_reducible rfl))
      (try simp only [Act.put, List.setIfInBounds_toArray, List.set_cons_zero, List.set_cons_succ])
      refine wpAnyH_take (i := 9) (oi := ?ou9) (v := ?vu9) ?hi_u9 ?k1_u9 ?k2_u9 ?k3_u9 (fun _ _ _ h => h) (Or.inl ⟨?g_u9, ?y_u9⟩) (by assumption) ?r_u9
      case hi_u9 => (simp only [List.getElem?_toArray, List.getElem?_cons_succ, List.getElem?_cons_zero]; rfl)
      case k1_u9 => kernel_rfl
      case k2_u9 => kernel_rfl
      case k3_u9 => kernel_rfl
      case g_u9 => rfl
      case y_u9 => (intro w hSw; (try dsimp only at hSw); first | (go_simp; done) | (go_simp; with_reducible rfl))
      (try simp only [Act.put, List.setIfInBounds_toArray, List.set_cons_zero, List.set_cons_succ])
      refine wpAnyH_take (i := 11) (oi := ?ou11) (v := ?vu11) ?hi_u11 ?k1_u11 ?k2_u11 ?k3_u11 (fun _ _ _ h => h) (Or.inl ⟨?g_u11, ?y_u11⟩) (by assumption) ?r_u11
      case hi_u11 => (simp only [List.getElem?_toArray, List.getElem?_cons_succ, List.getElem?_cons_zero]; rfl)
      case k1_u11 => kernel_rfl
      case k2_u11 => kernel_rfl
      case k3_u11 => kernel_rfl
      case g_u11 => rfl
      case y_u11 => (intro w hSw; (try dsimp only at hSw); first | (go_simp; done) | (go_simp; with_reducible rfl))
      (try simp only [Act.put, List.setIfInBounds_toArray, List.set_cons_zero, List.set_cons_succ])
      refine wpAnyH_ready (rs := [10]) ?k1_u10 (by simp) ?r_u10
      case k1_u10 => kernel_rfl
      refine AllReadyH.cons (o := ?ou10) ?hi_u10 (fun K hK => ?s_u10) ?m_u10
      case hi_u10 => (simp only [List.getElem?_toArray, List.getElem?_cons_succ, List.getElem?_cons_zero]; rfl)
      case m_u10 => exact AllReadyH.nil
      go_simp
      (go_at_call 16; (refine (shPlain_calls false A6 c6 xss xs _ ?ca5 HL8 HZ.out).mono ?_); (case ca5 => exact P20.out.s.below (SF.b (V := V20) (g7 := gS) (f := false) (A := A6) (n := xss.length) (c := c6) (gX := gX) (x := x) (A2 := A2) (c2 := c2) (B2 := B2) (d2 := d2) (gZ := gZ) (p := pz) (A3 := Az) (c3 := cz) (B3 := Bz) (d3 := dz) (by assumption))); rintro e w25 ⟨v25, rfl, hr25, hb25⟩; obtain ⟨A25, c25, e25, hc25, hC25⟩ := Kd.R_reads hr25; subst e25; have C25 := Lib.hid hC25; clear hr25 hC25; have HT5 := Lib.hid (SF.next (V := V20) (g7 := gS) (f := false) (A := A6) (n := xss.length) (c := c6) (gX := gX) (x := x) (A2 := A2) (c2 := c2) (B2 := B2) (d2 := d2) (gZ := gZ) (p := pz) (A3 := Az) (c3 := cz) (B3 := Bz) (d3 := dz) (by assumption) hb25); clear hb25)
      (try go_wp2_with fail)
      refine hK.out _ _ HT5.out (fun hHeld => ?_)
      clear hK K
      (try simp only [Act.put, List.setIfInBounds_toArray, List.set_cons_zero, List.set_cons_succ])
      refine wpAnyH_ready (rs := [12]) ?k1_u12 (by simp) ?r_u12
      case k1_u12 => kernel_rfl
      refine AllReadyH.cons (o := ?ou12) ?hi_u12 (fun K hK => ?s_u12) ?m_u12
      case hi_u12 => (simp only [List.getElem?_toArray, List.getElem?_cons_succ, List.getElem?_cons_zero]; rfl)
      case m_u12 => exact AllReadyH.nil
      go_simp
      (go_at_call 15; (refine (chancelref06_Same.calls k7 A25 c25 xs (some ad) c xs true _ C25.out hc25 ?ca6 hc K7.out).mono ?_); (case ca6 => exact Kd.C_below HR.out (below_step P20.out.b (SF.b (V := V20) (g7 := gS) (f := false) (A := A6) (n := xss.length) (c := c6) (gX := gX) (x := x) (A2 := A2) (c2 := c2) (B2 := B2) (d2 := d2) (gZ := gZ) (p := pz) (A3 := Az) (c3 := cz) (B3 := Bz) (d3 := dz) (by assumption)))); rintro e w26 ⟨rfl, hb26⟩; have HT6 := Lib.hid (SF.next (V := V20) (g7 := gS) (f := false) (A := A6) (n := xss.length) (c := c6) (gX := gX) (x := x) (A2 := A2) (c2 := c2) (B2 := B2) (d2 := d2) (gZ := gZ) (p := pz) (A3 := Az) (c3 := cz) (B3 := Bz) (d3 := dz) (by assumption) hb26); clear hb26)
      (try go_wp2_with fail)
      refine hK.out _ _ HT6.out (fun hHeld => ?_)
      clear hK K
      (try simp only [Act.put, List.setIfInBounds_toArray, List.set_cons_zero, List.set_cons_succ])
      refine wpAnyH_take (i := 13) (oi := ?ou13) (v := ?vu13) ?hi_u13 ?k1_u13 ?k2_u13 ?k3_u13 (fun _ _ _ h => h) (Or.inl ⟨?g_u13, ?y_u13⟩) (by assumption) ?r_u13
      case hi_u13 => (simp only [List.getElem?_toArray, List.getElem?_cons_succ, List.getElem?_cons_zero]; rfl)
      case k1_u13 => kernel_rfl
      case k2_u13 => kernel_rfl
      case k3_u13 => kernel_rfl
      case g_u13 => rfl
      case y_u13 => (intro w hSw; (try dsimp only at hSw); first | (go_simp; done) | (go_simp; with_reducible rfl))
      (try simp only [Act.put, List.setIfInBounds_toArray, List.set_cons_zero, List.set_cons_succ])
      refine wpAnyH_take (i := 14) (oi := ?ou14) (v := ?vu14) ?hi_u14 ?k1_u14 ?k2_u14 ?k3_u14 (fun _ _ _ h => h) (Or.inl ⟨?g_u14, ?y_u14⟩) (by assumption) ?r_u14
      case hi_u14 => (simp only [List.getElem?_toArray, List.getElem?_cons_succ, List.getElem?_cons_zero]; rfl)
      case k1_u14 => kernel_rfl
      case k2_u14 => kernel_rfl
      case k3_u14 => kernel_rfl
      case g_u14 => rfl
      case y_u14 => (intro w hSw; (try dsimp only at hSw); first | (go_simp; done) | (go_simp; with_reducible rfl))
      (try simp only [Act.put, List.setIfInBounds_toArray, List.set_cons_zero, List.set_cons_succ])
      refine wpAnyH_done (by kernel_rfl) ?_ _
      refine NoPanic.normal ?_
      have B26 := Lib.hid (below_step P20.out.b (SF.b HT6.out))
      clear HT1 HT2 HT3 HT4 HT5 HT6 QT P20 S20 SC RC hHeld
      go_wp2
      go_ret
      exact ⟨rfl, B26.out⟩
end Go.Proofs.YtkkjebjlgcggcaaDoor.Seg
