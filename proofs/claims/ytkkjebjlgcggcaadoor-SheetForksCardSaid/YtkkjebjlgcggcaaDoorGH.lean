/- The walk of the law SheetForks: it answers true. Conditions: the sizes that every row has; Go's two tables of utf8 as they are laid. -/
import Derived.Test.YtkkjebjlgcggcaaDoorGG
import Derived.Test.YtkkjebjlgcggcaaDoorGE
namespace Go.Proofs.YtkkjebjlgcggcaaDoor.Seg
open Go.RowKit Go.Proofs.YtkkjebjlgcggcaaDoorPl Go.Maps Go.Proofs.YtkkjebjlgcggcaaDoorW.PrintWords Go.Proofs.YtkkjebjlgcggcaaDoorW.PrintLast Go.Proofs.YtkkjebjlgcggcaaDoorW.PrintMore Go.Proofs.YtkkjebjlgcggcaaDoor.Rope Go.Proofs.YtkkjebjlgcggcaaDoor.PSheetForks Go.Proofs.YtkkjebjlgcggcaaDoor.Pure
set_option linter.unusedVariables false
set_option linter.unusedSimpArgs false
/-- What holds where a sheet is kept. -/
structure FA (w : World) (g7 : Nat) (f : Bool) (A : Option Addr) (c : Nat) (xss : List (List Value)) (xs : List G) (W : World) : Prop where
 b : Below w.heap.size w W
 h7 : W.heap[g7]? = some (.cells #[.bool f, .slice A xss.length c] 25 (0, 0))
 s : Sh W A c xss xs
theorem FA.next {w W W' : World} {g7 : Nat} {f : Bool} {A : Option Addr} {c : Nat} {xss : List (List Value)} {xs : List G} (h : FA w g7 f A c xss xs W) (hb : Below W.heap.size W W') : FA w g7 f A c xss xs W' :=
 ⟨below_step h.b hb, blk_below h.h7 hb, h.s.below hb⟩
theorem FA.grown {w W W' : World} {g7 : Nat} {f : Bool} {A : Option Addr} {c : Nat} {xss : List (List Value)} {xs : List G} (h : FA w g7 f A c xss xs W) {base : Nat} {ok : Nat → Prop} {v : Value} {ys : List Int} (hr : (Kd.int .i64).R 3 W base ok v ys) (hg : W.grownBy W' v.ownBlock) (hb : Below w.heap.size w W') : FA w g7 f A c xss xs W' :=
 ⟨hb, (R_typeD hr hg (by decide) _ _ h.h7).trans h.h7, h.s.grown hr hg (by decide) (by decide) (by decide) (by decide)⟩
/-- What holds all along the loop. -/
structure LK (w : World) (g7 : Nat) (A : Option Addr) (c : Nat) (xss : List (List Value)) (xs : List G) (g9 : Nat) (A9 : Option Addr) (c9 : Nat) (fss : List (List Value)) (fs : List G) (A1 : Option Addr) (c1 : Nat) (yss : List (List Value)) (ys : List G) (v : Value) (is : List Int) (W : World) : Prop where
 f7 : FA w g7 false A c xss xs W
 f9 : FA w g9 true A9 c9 fss fs W
 sh : Sh W A1 c1 yss ys
 row : Kd.R (Kd.int .i64) 3 W w.heap.size (fun _ => True) v is
theorem LK.next {w W W' : World} {g7 : Nat} {A : Option Addr} {c : Nat} {xss : List (List Value)} {xs : List G} {g9 : Nat} {A9 : Option Addr} {c9 : Nat} {fss : List (List Value)} {fs : List G} {A1 : Option Addr} {c1 : Nat} {yss : List (List Value)} {ys : List G} {v : Value} {is : List Int} (h : LK w g7 A c xss xs g9 A9 c9 fss fs A1 c1 yss ys v is W) (hb : Below W.heap.size W W') : LK w g7 A c xss xs g9 A9 c9 fss fs A1 c1 yss ys v is W' :=
 ⟨h.f7.next hb, h.f9.next hb, h.sh.below hb, Kd.R_below h.row hb⟩
theorem LK.more {w W W' : World} {g7 : Nat} {A : Option Addr} {c : Nat} {xss : List (List Value)} {xs : List G} {g9 : Nat} {A9 : Option Addr} {c9 : Nat} {fss : List (List Value)} {fs : List G} {A1 : Option Addr} {c1 : Nat} {yss : List (List Value)} {ys : List G} {v v' : Value} {is is' : List Int} (h : LK w g7 A c xss xs g9 A9 c9 fss fs A1 c1 yss ys v is W) (hr : Kd.R (Kd.int .i64) 3 W' w.heap.size (fun _ => True) v' is') (hg : W.grownBy W' v.ownBlock) (hb : Below w.heap.size w W') : LK w g7 A c xss xs g9 A9 c9 fss fs A1 c1 yss ys v' is' W' :=
 ⟨h.f7.grown h.row hg hb, h.f9.grown h.row hg hb, h.sh.grown h.row hg (by decide) (by decide) (by decide) (by decide), hr⟩
theorem fork_sz {first : Int} {xs : List G} (hz : ∀ x ∈ xs, Sz x) : ∀ x ∈ forkG first xs, Sz x := fun y hy => by
 obtain ⟨j, hj⟩ := List.getElem?_of_mem hy
 have hl := (List.getElem?_eq_some_iff.1 hj).1
 rw [fork_len] at hl
 obtain ⟨x, hx⟩ : ∃ x, xs[j]? = some x := ⟨_, List.getElem?_eq_getElem hl⟩
 rw [fork_get (first := first) hx] at hj
 injection hj with hj
 have h := hz x (List.mem_of_getElem? hx)
 rw [← hj]
 exact ⟨h.s2, by show (0 : Nat) ≤ _; omega, by show (0 : Nat) ≤ _; omega⟩
set_option maxRecDepth 1000000 in
set_option maxHeartbeats 16000000 in
theorem sheetForks_walk (A : Option Addr) (c : Nat) (xs : List G) (first mark : Int) (w : World) (hT : Tabs w) (hr : Kd.C kG w A xs.length xs) (hc : xs.length ≤ c) (hn : xs.length ≤ 2932031007402) (hz : ∀ x ∈ xs, x.f2.size ≤ 140737488355328 ∧ x.f3.length ≤ 140737488355328 ∧ x.f4.length ≤ 140737488355328) (hwf : ∀ x ∈ xs, (Lit.int .i64 x.f0).wf = true) :
  Calls Tryd.prog 6 #[.slice A xs.length c, .int .i64 first, .int .i64 mark] w fun e w' => e = .returned (.bool true) ∧ Below w.heap.size w w' := by
 obtain ⟨bs, hbs, hsm⟩ := smallS_ev xs hn hz
 obtain ⟨k1, hk1⟩ := Go.Proofs.YtkkjebjlgcggcaaDoorW.PrintWords.Ev.rounds hbs
 obtain ⟨k0, hk0⟩ := Go.Proofs.YtkkjebjlgcggcaaDoorW.PrintWords.Ev.rounds (ints_ev [7, 8] (by decide))
 have HT := Lib.hid hT
 have HR := Lib.hid hr
 have K0 := Lib.hid hk0
 have K1 := Lib.hid hk1
 have SM := Lib.hid hsm
 have WF := Lib.hid hwf
 clear hT hr hz hbs hk1 hk0 hsm hwf
 go_enter Tryd.func6, Tryd.ntmps6
 go_wp2_with fail
 (go_at_call 8; refine (two_calls _).mono ?_; rintro e w1 ⟨A1, c1, rfl, hC1, hb1⟩)
 have B1 := Lib.hid hb1
 have C1 := Lib.hid hC1
 clear hb1 hC1
 go_wp2_with fail
 (go_at_call 7; refine (shLoad_good false A1 c1 [t1, t2] _ (HT.out.below B1.out) C1.out two_sz (by decide) two_wf two_ok).mono ?_; rintro e w2 ⟨A3, c3, xss3, rfl, hs2, hb2⟩)
 have S2 := Lib.hid hs2
 have B2_ := Lib.hid (below_step B1.out hb2)
 have L2 := Lib.hid hs2.len
 clear hs2 hb2 C1 B1
 go_upto_region 2 with (first | ((with_reducible refine gate_dst (N := 7) rfl ?_); refine box_event ?hg (N := 7) ?hd (cs := #[.bool false, .slice none 0 0]) (t := 25) ?hr ?_; (case hd => rfl); (case hg => rfl); (case hr => first | (go_simp; done) | (go_simp; rfl)); intro gS hgS wS hxS hbS; have GA := Lib.hid (show w.heap.size ≤ gS by rw [hgS]; exact B2_.out.size); have GB := Lib.hid (show w2.heap.size ≤ gS by rw [hgS]; exact Nat.le_refl _); have BA := Lib.hid hbS; have XA := Lib.hid hxS; have q0 := (blk_cell hxS 0).trans rfl; have q1 := (blk_cell hxS 1).trans rfl; have z0 := blk_frozen hxS 0; have z1 := blk_frozen hxS 1; clear hgS hxS hbS))
 refine gen2 (φ := fun W => Code.wp _ _ _ _ W) (P := fun W => FA w gS false A3 c3 xss3 [t1, t2] W) ⟨below_set (below_set (below_step B2_.out BA.out) GA.out) GA.out, by simpa using blk_set (blk_set XA.out 0 (.bool false)) 1 (.slice A3 xss3.length c3), S2.out.below (below_set (below_set BA.out GB.out) GB.out)⟩ ?_
 rintro V hV
 have PV := Lib.hid hV
 have y0 := (blk_cell hV.h7 0).trans rfl
 have y1 := (blk_cell hV.h7 1).trans rfl
 have GS := GA
 clear hV q0 q1 z0 z1 XA BA GA GB S2 B2_
 have HL : Hid (xss3.length ≤ 1000) := Lib.hid (by rw [← L2.out]; decide)
 go_wp2_with fail
 (go_at_call 30; refine (fork_calls false true 7 A3 c3 xss3 [t1, t2] _ PV.out.s HL.out (by decide) (by decide)).mono ?_; rintro e w3 ⟨A4, c4, yss4, rfl, hs3, hb3⟩)
 have P3 := Lib.hid (PV.out.next hb3)
 have S3 := Lib.hid hs3
 clear hs3 hb3 PV y0 y1
 go_wp2_with fail
 (go_at_call 11; refine (ids_calls true A4 c4 yss4 (forkG 7 [t1, t2]) _ S3.out (by rw [← S3.out.len]; decide)).mono ?_; rintro e w31 ⟨v31, rfl, hr31, hb31⟩)
 have P2 := Lib.hid (P3.out.next hb31)
 obtain ⟨A31, c31, e31, hc31, hC31⟩ := Kd.R_reads hr31
 have e31' : v31 = .slice A31 2 c31 := e31
 subst e31'
 have C31 := Lib.hid (show Kd.C (Kd.int .i64) w31 A31 [7, 8].length [7, 8] from hC31)
 clear hb31 hr31 hC31 e31 P3 S3
 go_wp2_with fail
 have C32 : Hid (Kd.C (Kd.int .i64) (w31.alloc (.cells #[.int .i64 7, .int .i64 8] 3)) (some ⟨w31.heap.size, 0, none⟩) [7, 8].length [7, 8]) := Lib.hid (C_ints (by decide) (blk_new w31 _))
 have P4_ := Lib.hid (P2.out.next (below_alloc (Below.refl _ _) (.cells #[.int .i64 7, .int .i64 8] 3)))
 (go_at_call 10; refine (chancelref03_Ints.calls k0 A31 c31 [7, 8] (some ⟨w31.heap.size, 0, none⟩) 2 [7, 8] true _ (Kd.C_below C31.out (below_alloc (Below.refl _ _) _)) hc31 C32.out (Nat.le_refl _) K0.out).mono ?_; rintro e w32 ⟨rfl, hb32⟩)
 have P4 := Lib.hid (P4_.out.next (below_drawn hb32))
 clear hb32 C31 C32 P2 P4_ K0
 go_wp2_with fail
 (go_at_call 12; refine (chancellaw06_Small.calls k1 A c xs bs _ (Kd.C_below HR.out P4.out.b) hc K1.out).mono ?_; rintro e w33 ⟨rfl, hb33⟩)
 have P5 := Lib.hid (P4.out.next hb33)
 clear hb33 P4 K1
 cases bs with
 | false =>
  go_wp2
  go_ret
  exact ⟨rfl, P5.out.b⟩
 | true =>
  obtain ⟨hl40, hz2⟩ := SM.out rfl
  have hn2 : xs.length ≤ 1099511627776 := by omega
  have HZ := Lib.hid hz2
  have L40 := Lib.hid hl40
  clear hz2 hl40 SM
  go_wp2_with fail
  (go_at_call 13; refine (right6_calls A c xs _ (Kd.C_below HR.out P5.out.b) hc HZ.out hn2).mono ?_; rintro e w34 ⟨b34, rfl, hi34, hb34⟩)
  have P6 := Lib.hid (P5.out.next hb34)
  clear hb34 P5
  cases b34 with
  | false =>
   go_wp2
   go_ret
   exact ⟨rfl, P6.out.b⟩
  | true =>
   have OK := Lib.hid (hi34.1 rfl)
   clear hi34
   by_cases hf0 : first < 0
   ·have d1 : decide (first < 0) = true := by simpa using hf0
    go_wp2
    go_ret
    exact ⟨rfl, P6.out.b⟩
   ·have d1 : decide (first < 0) = false := by simpa using hf0
    by_cases hf1 : first > 1099511627776
    ·have d2 : decide ((1099511627776 : Int) < first) = true := by simpa using hf1
     go_wp2
     go_ret
     exact ⟨rfl, P6.out.b⟩
    ·have d2 : decide ((1099511627776 : Int) < first) = false := by simpa using hf1
     have F0 := Lib.hid (show 0 ≤ first by omega)
     have F1 := Lib.hid (show first ≤ 1099511627776 by omega)
     clear hf0 hf1
     go_wp2_with fail
     (go_at_call 7; refine (shLoad_good false A c xs _ (HT.out.below P6.out.b) (Kd.C_below HR.out P6.out.b) HZ.out hn2 WF.out OK.out).mono ?_; rintro e w36 ⟨A6, c6, xss, rfl, hs36, hb36⟩)
     have P8 := Lib.hid (P6.out.next hb36)
     have S36 := Lib.hid hs36
     have LN := Lib.hid hs36.len
     have y0 := (blk_cell P8.out.h7 0).trans rfl
     have y1 := (blk_cell P8.out.h7 1).trans rfl
     have f0 := blk_frozen P8.out.h7 0
     have f1 := blk_frozen P8.out.h7 1
     clear hb36 hs36 P6 d1 d2
     go_upto_region 7 with (fail)
     refine gen2 (φ := fun W => Code.wp _ _ _ _ W) (P := fun W => FA w gS false A6 c6 xss xs W) ⟨below_set (below_set P8.out.b GS.out) GS.out, by simpa using blk_set (blk_set P8.out.h7 0 (.bool false)) 1 (.slice A6 xss.length c6), (S36.out.set P8.out.h7 0 _).set (blk_set P8.out.h7 0 _) 1 _⟩ ?_
     clear y0 y1 f0 f1 P8 S36
     rintro V2 hV2
     have P9 := Lib.hid hV2
     have y0 := (blk_cell hV2.h7 0).trans rfl
     have y1 := (blk_cell hV2.h7 1).trans rfl
     have HX : Hid (xss.length ≤ 1000) := Lib.hid (by rw [← LN.out]; have := L40.out; omega)
     have HX2 : Hid (xss.length ≤ 1099511627776) := Lib.hid (by rw [← LN.out]; exact hn2)
     clear hV2
     go_wp2_with fail
     (go_at_call 30; refine (fork_calls false true first A6 c6 xss xs _ P9.out.s HX.out F0.out F1.out).mono ?_; rintro e w37 ⟨A9, c9, fss, rfl, hs37, hb37⟩)
     have P10 := Lib.hid (P9.out.next hb37)
     have S37 := Lib.hid hs37
     have LF := Lib.hid hs37.len
     clear hs37 hb37 P9 y0 y1
     go_upto_region 8 with (first | ((with_reducible refine gate_dst (N := 9) rfl ?_); refine box_event ?hg (N := 9) ?hd (cs := #[.bool false, .slice none 0 0]) (t := 25) ?hr ?_; (case hd => rfl); (case hg => rfl); (case hr => first | (go_simp; done) | (go_simp; rfl)); intro gF hgF wF hxF hbF; have GA := Lib.hid (show w.heap.size ≤ gF by rw [hgF]; exact P10.out.b.size); have GB := Lib.hid (show w37.heap.size ≤ gF by rw [hgF]; exact Nat.le_refl _); have BA := Lib.hid hbF; have XA := Lib.hid hxF; have q0 := (blk_cell hxF 0).trans rfl; have q1 := (blk_cell hxF 1).trans rfl; have z0 := blk_frozen hxF 0; have z1 := blk_frozen hxF 1; clear hgF hxF hbF))
     refine gen2 (φ := fun W => Code.wp _ _ _ _ W) (P := fun W => FA w gS false A6 c6 xss xs W ∧ FA w gF true A9 c9 fss (forkG first xs) W) ⟨P10.out.next (below_set (below_set BA.out GB.out) GB.out), ⟨below_set (below_set (below_step P10.out.b BA.out) GA.out) GA.out, by simpa using blk_set (blk_set XA.out 0 (.bool true)) 1 (.slice A9 fss.length c9), S37.out.below (below_set (below_set BA.out GB.out) GB.out)⟩⟩ ?_
     clear q0 q1 z0 z1 XA BA GA GB S37 P10
     rintro V3 ⟨h7, h9⟩
     have P7 := Lib.hid h7
     have P9 := Lib.hid h9
     have y0 := (blk_cell h7.h7 0).trans rfl
     have y1 := (blk_cell h7.h7 1).trans rfl
     clear h7 h9
     go_wp2_with fail
     (go_at_call 31; refine (with_calls false A6 c6 xss xs mark _ P7.out.s HX2.out HZ.out).mono ?_; rintro e w38 ⟨A10, c10, yss, rfl, hs38, hb38⟩)
     have LV := Lib.hid (show LK w gS A6 c6 xss xs gF A9 c9 fss (forkG first xs) A10 c10 yss (xs.filter fun x => hasG x mark) (.slice none 0 0) [] w38 from ⟨P7.out.next hb38, P9.out.next hb38, hs38, Kd.R_nil _ _ _ _ _⟩)
     have LY := Lib.hid hs38.len
     have LY2 := Lib.hid (show yss.length ≤ 40 by rw [← hs38.len]; exact Nat.le_trans (List.length_filter_le _ _) L40.out)
     clear hs38 hb38 P7 P9 y0 y1
     have hrw := fun W (hb : Below w.heap.size w W) => refWith_calls A c xs mark W (Kd.C_below HR.out hb) hc HZ.out hn2
     unfold RetW at hrw
     generalize (xs.filter fun x => hasG x mark) = ys at LV LY hrw
     obtain ⟨is, his⟩ : ∃ is, is = ys.map (·.f0) := ⟨_, rfl⟩
     rw [← his] at hrw
     have RWC := Lib.hid hrw
     have IS := Lib.hid his
     clear hrw his
     go_wp2
     go_loopw [52, 10] (fun s52 s10 wr => ∃ (kk : Nat) (v : Value), kk ≤ yss.length ∧ s52 = .int .i64 (kk : Int) ∧ v = s10 ∧ Hid (LK w gS A6 c6 xss xs gF A9 c9 fss (forkG first xs) A10 c10 yss ys v ((ys.take kk).map (·.f0)) wr)) (fun s52 _ _ => yss.length - cntV s52)
     case atStart => exact ⟨0, _, Nat.zero_le _, rfl, rfl, by simpa using LV⟩
     case round =>
      obtain ⟨kk, v, hkk, rfl, ev, LW⟩ := hrel
      subst ev
      by_cases hlt : kk < yss.length
      ·have d1 : decide ((kk : Int) < (yss.length : Int)) = true := by simp; omega
       have b1 : (0 : Int) ≤ (kk : Int) := by omega
       have b2 : (kk : Int) < (yss.length : Int) := by omega
       obtain ⟨cs, hcs⟩ : ∃ cs, yss[kk]? = some cs := ⟨_, List.getElem?_eq_getElem hlt⟩
       obtain ⟨x, hx⟩ : ∃ x, ys[kk]? = some x := ⟨_, List.getElem?_eq_getElem (by rw [LY.out]; exact hlt)⟩
       obtain ⟨p, A1_, c1_, B1, d1_, ecs, hsp⟩ := LW.out.sh.sgs.2 kk cs x hcs hx
       subst ecs
       obtain ⟨ad, e0, y0, y1, y2, y3, y4⟩ := at_Q LW.out.sh.row hcs hlt
       subst e0
       have TK := Lib.hid (take_ids hx)
       have hY2 := LY2.out
       have LN2 : Hid (((ys.take kk).map (·.f0)).length = kk) := Lib.hid (by have := LY.out; rw [List.length_map, List.length_take]; omega)
       clear hcs hx hsp
       go_upto_region 12 with (first | ((with_reducible refine gate_dst (N := 12) rfl ?_); refine box_event ?hg (N := 12) ?hd (cs := #[.int .i64 0, .int .i64 0, .pointer none, .slice none 0 0, .slice none 0 0]) (t := 45) ?hr ?_; (case hd => rfl); (case hg => rfl); (case hr => first | (go_simp; done) | (go_simp; rfl)); intro gB hgB wB hxB hbB; have GB := Lib.hid (show wr.heap.size ≤ gB by rw [hgB]; exact Nat.le_refl _); have BB := Lib.hid hbB; have XB := Lib.hid hxB; have q0 := (blk_cell hxB 0).trans rfl; have q1 := (blk_cell hxB 1).trans rfl; have q2 := (blk_cell hxB 2).trans rfl; have q3 := (blk_cell hxB 3).trans rfl; have q4 := (blk_cell hxB 4).trans rfl; have z0 := blk_frozen hxB 0; have z1 := blk_frozen hxB 1; have z2 := blk_frozen hxB 2; have z3 := blk_frozen hxB 3; have z4 := blk_frozen hxB 4; clear hgB hxB hbB))
       refine gen2 (φ := fun W => Code.wp _ _ _ _ W) (P := fun W => Below wr.heap.size wr W ∧ W.heap[gB]? = some (.cells #[.int .i64 x.f0, .int .i64 x.f1, .pointer p, .slice A1_ x.f3.length c1_, .slice B1 x.f4.length d1_] 45 (0, 0))) ⟨below_set (below_set (below_set (below_set (below_set BB.out GB.out) GB.out) GB.out) GB.out) GB.out, by simpa using blk_set (blk_set (blk_set (blk_set (blk_set XB.out 0 (.int .i64 x.f0)) 1 (.int .i64 x.f1)) 2 (.pointer p)) 3 (.slice A1_ x.f3.length c1_)) 4 (.slice B1 x.f4.length d1_)⟩ ?_
       clear q0 q1 q2 q3 q4 z0 z1 z2 z3 z4 XB BB GB
       rintro V5 ⟨hbV5, hxV5⟩
       have L5 := Lib.hid (LW.out.next hbV5)
       have a0 := (blk_cell hxV5 0).trans rfl
       have a1 := (blk_cell hxV5 1).trans rfl
       have a2 := (blk_cell hxV5 2).trans rfl
       have a3 := (blk_cell hxV5 3).trans rfl
       have a4 := (blk_cell hxV5 4).trans rfl
       clear hbV5 hxV5 LW y0 y1 y2 y3 y4
       go_wp2_with fail
       (go_at_call 32; refine (id_calls x p A1_ c1_ B1 d1_ _).mono ?_; rintro e w40 ⟨rfl, hb40⟩)
       have L6 := Lib.hid (L5.out.next hb40)
       clear hb40 L5 a0 a1 a2 a3 a4
       go_wp2_with (first | ((with_reducible refine gate_builtin (b := .append) (xs := #[.tmp 56, .tmp 59]) rfl ?_); at_builtin; go_must (refine Kd.R_append (Kd.int .i64) (w0 := w) w.heap.size rfl (.tmp 56) (.tmp 59) 31 3 (.int .i64 0) 8 rfl Tryd.underlying31 infoC3 rfl (by decide) (by decide) v ((ys.take kk).map (·.f0)) x.f0 [.int .i64 x.f0] (fun _ => True) (fun _ => False) rfl rfl rfl (fun _ hk => hk.elim) (fun _ _ => trivial) ?aO ?aB ?aS ?aL ?_); (case aO => exact L6.out.row); (case aB => exact L6.out.f7.b); (case aS => exact L6.out.f7.b.size); (case aL => have := LN2.out; have := LY2.out; omega); intro v8 w8 ho8 hb8 hg8 hat8; have L8 := Lib.hid (L6.out.more ho8 hg8 hb8); clear ho8 hb8 hg8 hat8))
       go_roundw
       case rel => exact ⟨kk + 1, _, by omega, by go_num, rfl, by rw [TK.out]; exact L8⟩
       case measure =>
        simp only [cntV]
        omega
      ·have d1 : decide ((kk : Int) < (yss.length : Int)) = false := by simp; omega
       obtain rfl : kk = yss.length := by omega
       rw [List.take_of_length_le (by rw [LY.out]; exact Nat.le_refl _)] at LW
       have RI := LW.out.row
       rw [← IS.out] at RI
       obtain ⟨A11, c11, e11, h11, hC11⟩ := Kd.R_reads RI
       subst e11
       have C11 := Lib.hid hC11
       have P7 := Lib.hid LW.out.f7
       have P9 := Lib.hid LW.out.f9
       have x0 := (blk_cell P9.out.h7 0).trans rfl
       have x1 := (blk_cell P9.out.h7 1).trans rfl
       obtain ⟨k2, hk2⟩ := Go.Proofs.YtkkjebjlgcggcaaDoorW.PrintWords.Ev.rounds (refFork_ev xs first (by have := L40.out; omega) F0.out F1.out)
       obtain ⟨k3, hk3⟩ := Go.Proofs.YtkkjebjlgcggcaaDoorW.PrintWords.Ev.rounds (same6_ev (forkG first xs) (by rw [fork_len]; exact hn2) (fork_sz HZ.out))
       obtain ⟨k4, hk4⟩ := Go.Proofs.YtkkjebjlgcggcaaDoorW.PrintWords.Ev.rounds (same6_ev xs hn2 HZ.out)
       obtain ⟨k5, hk5⟩ := Go.Proofs.YtkkjebjlgcggcaaDoorW.PrintWords.Ev.rounds (ints_ev is (by rw [IS.out, List.length_map, LY.out]; have := LY2.out; omega))
       have K2 := Lib.hid hk2
       have K3 := Lib.hid hk3
       have K4 := Lib.hid hk4
       have K5 := Lib.hid hk5
       clear hC11 LW hk2 hk3 hk4 hk5 RI
       go_wp2_with fail
       (go_at_call 16; refine (shPlain_calls true A9 c9 fss (forkG first xs) _ P9.out.s (by rw [← LF.out, fork_len]; exact hn2) (fork_sz HZ.out)).mono ?_; rintro e w52 ⟨v52, rfl, hr52, hb52⟩)
       obtain ⟨A52, c52, e52, hc52, hC52⟩ := Kd.R_reads hr52
       subst e52
       have C52 := Lib.hid hC52
       have Q7 := Lib.hid (P7.out.next hb52)
       have Q9 := Lib.hid (P9.out.next hb52)
       have D11 := Lib.hid (Kd.C_below C11.out hb52)
       clear hr52 hC52 hb52 P7 P9 C11 x0 x1
       go_wp2_with fail
       (go_at_call 33; refine (chancelref06_Fork.calls k2 A c xs first (forkG first xs) _ (Kd.C_below HR.out Q7.out.b) hc K2.out).mono ?_; rintro e w53 ⟨v53, rfl, hr53, hb53⟩)
       obtain ⟨A53, c53, e53, hc53, hC53⟩ := Kd.R_reads (Kd.S_R hr53)
       subst e53
       have C53 := Lib.hid hC53
       have D52 := Lib.hid (Kd.C_below C52.out hb53)
       have P7 := Lib.hid (Q7.out.next hb53)
       have P9 := Lib.hid (Q9.out.next hb53)
       have C11 := Lib.hid (Kd.C_below D11.out hb53)
       clear hr53 hC53 hb53 Q7 Q9 D11 C52
       go_wp2_with fail
       (go_at_call 15; refine (chancelref06_Same.calls k3 A52 c52 (forkG first xs) A53 c53 (forkG first xs) true _ D52.out hc52 C53.out hc53 K3.out).mono ?_; rintro e w54 ⟨rfl, hb54⟩)
       have Q7 := Lib.hid (P7.out.next hb54)
       have Q9 := Lib.hid (P9.out.next hb54)
       have D11 := Lib.hid (Kd.C_below C11.out hb54)
       have x0 := (blk_cell Q9.out.h7 0).trans rfl
       have x1 := (blk_cell Q9.out.h7 1).trans rfl
       clear hb54 P7 P9 C11 D52 C53
       go_wp2_with fail
       (go_at_call 9; refine (frozen_calls true A9 fss.length c9 _).mono ?_; rintro e w55 ⟨rfl, hb55⟩)
       have P7 := Lib.hid (Q7.out.next hb55)
       have C11 := Lib.hid (Kd.C_below D11.out hb55)
       have y0 := (blk_cell P7.out.h7 0).trans rfl
       have y1 := (blk_cell P7.out.h7 1).trans rfl
       clear hb55 Q7 Q9 D11 x0 x1
       go_wp2_with fail
       (go_at_call 30; refine (fork_calls false false first A6 c6 xss xs _ P7.out.s HX.out F0.out F1.out).mono ?_; rintro e w56 ⟨A56, c56, gss, rfl, hs56, hb56⟩)
       have Q7 := Lib.hid (P7.out.next hb56)
       have D11 := Lib.hid (Kd.C_below C11.out hb56)
       clear hs56 hb56 P7 C11 y0 y1
       go_wp2_with fail
       (go_at_call 9; refine (frozen_calls false A56 gss.length c56 _).mono ?_; rintro e w57 ⟨rfl, hb57⟩)
       have P7 := Lib.hid (Q7.out.next hb57)
       have C11 := Lib.hid (Kd.C_below D11.out hb57)
       clear hb57 Q7 D11
       go_wp2_with fail
       (go_at_call 34; refine (RWC.out _ P7.out.b).mono ?_; rintro e w58 ⟨A58, c58, rfl, h58, hC58, hb58⟩)
       have C58 := Lib.hid hC58
       have H58 := Lib.hid h58
       have Q7 := Lib.hid (P7.out.next hb58)
       have D11 := Lib.hid (Kd.C_below C11.out hb58)
       clear hC58 h58 hb58 P7 C11
       go_wp2_with fail
       (go_at_call 10; refine (chancelref03_Ints.calls k5 A11 c11 is A58 c58 is true _ D11.out h11 C58.out H58.out K5.out).mono ?_; rintro e w59 ⟨rfl, hb59⟩)
       have P7 := Lib.hid (Q7.out.next (below_drawn hb59))
       have y0 := (blk_cell P7.out.h7 0).trans rfl
       have y1 := (blk_cell P7.out.h7 1).trans rfl
       clear hb59 Q7 D11 C58
       go_wp2_with fail
       (go_at_call 16; refine (shPlain_calls false A6 c6 xss xs _ P7.out.s HX2.out HZ.out).mono ?_; rintro e w60 ⟨v60, rfl, hr60, hb60⟩)
       obtain ⟨A60, c60, e60, hc60, hC60⟩ := Kd.R_reads hr60
       subst e60
       have C60 := Lib.hid hC60
       have Q7 := Lib.hid (P7.out.next hb60)
       clear hr60 hC60 hb60 P7 y0 y1
       go_wp2_with fail
       (go_at_call 15; refine (chancelref06_Same.calls k4 A60 c60 xs A c xs true _ C60.out hc60 (Kd.C_below HR.out Q7.out.b) hc K4.out).mono ?_; rintro e w61 ⟨rfl, hb61⟩)
       have P7 := Lib.hid (Q7.out.next hb61)
       clear hb61 Q7
       go_wp2
       go_ret
       exact ⟨rfl, P7.out.b⟩
end Go.Proofs.YtkkjebjlgcggcaaDoor.Seg
