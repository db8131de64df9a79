/- Marks: the walk of the law MarksHolds. Conditions: none beside the row's. -/
import Derived.Test.YtdgjjdpeaohebabGMC
namespace Go.Proofs.Ytdgjjdpeaohebab.Mk
open Go.RowKit Go.Proofs.YtdgjjdpeaohebabW.PrintWords Go.Proofs.YtdgjjdpeaohebabW.PrintLast Go.Proofs.YtdgjjdpeaohebabW.PrintMore Go.Proofs.Ytdgjjdpeaohebab.PMarksHolds Go.Proofs.Ytdgjjdpeaohebab.Pure
set_option linter.unusedVariables false
set_option linter.unusedSimpArgs false
attribute [local go_sem] max2_int min2_int max_two min_two
set_option maxRecDepth 1000000 in
set_option maxHeartbeats 8000000 in
theorem marksHolds_walk (A0 : Option Addr) (c0 : Nat) (xs : List Sp) (B0 : Option Addr) (d0 : Nat) (ys : List SY) (n a b k : Int) (C0 : Option Addr) (e0 : Nat) (ts : List SA) (w : World) (hr : Kd.C kSp w A0 xs.length xs) (hc : xs.length ≤ c0) (hs : Kd.C kY w B0 ys.length ys) (hd : ys.length ≤ d0) (hw : Kd.C kA w C0 ts.length ts) (he : ts.length ≤ e0) (hlx : xs.length ≤ 8796093022208) (hly : ys.length ≤ 8796093022208) (hlt_ : ts.length ≤ 8796093022208) :
  Calls Try.prog 3 #[.agg #[.slice A0 xs.length c0, .slice B0 ys.length d0, .int .i64 n, .int .i64 a, .int .i64 b], .int .i64 k, .slice C0 ts.length e0] w fun e w' => e = .returned (.bool true) ∧ Below w.heap.size w w' := by
 have HR := Lib.hid hr
 have HT := Lib.hid hw
 have HS := Lib.hid hs
 clear hr hs hw
 obtain ⟨c3, hc3⟩ : ∃ c : Array Value, c = #[.slice A0 xs.length c0, .slice B0 ys.length d0, .int .i64 n, .int .i64 a, .int .i64 b] := ⟨_, rfl⟩
 have HC3 := Lib.hid hc3
 clear hc3
 go_enter Try.func3, Try.ntmps3
 go_upto_region 1 with fail
 refine gen2 (φ := fun W => Code.wp _ _ _ _ W) (P := fun W => Below w.heap.size w W ∧ W.heap[w.heap.size]? = some (.cells c3 25 (0, 0))) ⟨below_alloc (Below.refl _ _) _, by rw [HC3.out]; exact blk_new w _⟩ ?_
 rintro V0 ⟨hb0, h30⟩
 have B0_ := Lib.hid hb0
 have X3 := Lib.hid h30
 clear hb0 h30
 go_upto_region 2 with (first | (go_at_call 4; refine (put_calls none 0 [] none 0 [] 1 2 7 _ (Kd.C_nil kSp _) (Nat.le_refl _) (Kd.C_nil kY _) (Nat.le_refl _) (by decide) (by decide) (by decide) (by decide) (by simp)).mono ?_; rintro e w1 ha; obtain ⟨A1, c1, B1, d1, e1, h1, h2, hb1⟩ := ha; subst e1; have BP := Lib.hid hb1; have C1 := Lib.hid (show Kd.C kSp w1 A1 1 [(⟨7, 1, 3⟩ : Sp)] from (Kd.R_reads' h1).2.2); clear h1 h2 hb1; (try dsimp only [show (putL 1 2 7 ([] : List Sp)).length = 1 from rfl])) | ((with_reducible refine gate_dst (N := 7) rfl ?_); refine box_event ?hg (N := 7) ?hd (cs := #[.slice none 0 0, .slice none 0 0]) (t := 28) ?hr ?_; (case hd => rfl); (case hg => rfl); (case hr => first | (go_simp; done) | (go_simp; rfl)); intro g7 hg7 w7 hx7 hb7; have GA := Lib.hid (show TBm 28 w1 g7 #[.slice none 0 0, .slice none 0 0] w7 from ⟨hb7, by rw [hg7]; exact Nat.le_refl _, hx7⟩); have q0 := (blk_cell hx7 0).trans rfl; have q1 := (blk_cell hx7 1).trans rfl; have z0 := blk_frozen hx7 0; have z1 := blk_frozen hx7 1; clear hg7 hx7 hb7))
 refine gen2 (φ := fun W => Code.wp _ _ _ _ W) (P := fun W => TBm 28 w1 g7 #[.slice A1 1 c1, .slice B1 0 d1] W) ((GA.out.set 0 (.slice A1 1 c1)).set 1 (.slice B1 0 d1)) ?_
 clear q0 q1 z0 z1 GA
 rintro V1 hV1
 have BV := Lib.hid (below_step (below_step B0_.out BP.out) hV1.b)
 have Y3 := Lib.hid (blk_below (blk_below X3.out BP.out) hV1.b)
 have x0 := (blk_cell hV1.hx 0).trans rfl
 clear hV1 X3 B0_ C1 BP
 go_upto_region 4 with fail
 clear x0
 have Y3' := Y3.out
 rw [HC3.out] at Y3'
 have f0 := (blk_cell Y3' 0).trans rfl
 have f1 := (blk_cell Y3' 1).trans rfl
 have f2 := (blk_cell Y3' 2).trans rfl
 have f3 := (blk_cell Y3' 3).trans rfl
 have f4 := (blk_cell Y3' 4).trans rfl
 clear Y3'
 obtain ⟨cb, hcb⟩ : ∃ cb, cb = caseB xs ys n a b := ⟨_, rfl⟩
 have HCB := Lib.hid hcb
 clear hcb
 go_upto_region 5 with (first | (go_at_call 5; refine (right_calls A0 c0 xs B0 d0 ys n a b _ (Kd.C_below HR.out BV.out) hc (Kd.C_below HS.out BV.out) hd hlx hly).mono ?_; rintro e w2 ⟨v1, v2, rfl, m1, m2, hb2⟩; rw [← HCB.out]; obtain ⟨A1, c1, B1, d1, e1, m1⟩ := m1; obtain ⟨A2, c2, B2, d2, e2, m2⟩ := m2; subst e1; subst e2; have M1 := Lib.hid m1; have M2 := Lib.hid m2; clear m1 m2; have HB2 := Lib.hid hb2; clear hb2) | ((with_reducible refine gate_dst (N := 8) rfl ?_); refine box_event ?hg (N := 8) ?hd (cs := #[.slice none 0 0, .slice none 0 0]) (t := 28) ?hr ?_; (case hd => rfl); (case hg => rfl); (case hr => first | (go_simp; done) | (go_simp; rfl)); intro g8 hg8 w8 hx8 hb8; have G8 := Lib.hid (show TBm 28 w2 g8 #[.slice none 0 0, .slice none 0 0] w8 from ⟨hb8, by rw [hg8]; exact Nat.le_refl _, hx8⟩); have q80 := (blk_cell hx8 0).trans rfl; have z80 := blk_frozen hx8 0; have q81 := (blk_cell hx8 1).trans rfl; have z81 := blk_frozen hx8 1; clear hg8 hx8 hb8) | ((with_reducible refine gate_dst (N := 9) rfl ?_); refine box_event ?hg (N := 9) ?hd (cs := #[.slice none 0 0, .slice none 0 0]) (t := 30) ?hr ?_; (case hd => rfl); (case hg => rfl); (case hr => first | (go_simp; done) | (go_simp; rfl)); intro g9 hg9 w9 hx9 hb9; have G9 := Lib.hid (show TBm 30 w8 g9 #[.slice none 0 0, .slice none 0 0] w9 from ⟨hb9, by rw [hg9]; exact Nat.le_refl _, hx9⟩); have q90 := (blk_cell hx9 0).trans rfl; have z90 := blk_frozen hx9 0; have q91 := (blk_cell hx9 1).trans rfl; have z91 := blk_frozen hx9 1; have n89 : g8 ≠ g9 := Nat.ne_of_lt (Nat.lt_of_lt_of_le (blk_lt G8.out.hx) G9.out.lo); have n98 : g9 ≠ g8 := n89.symm; clear q80 q81 z80 z81; have q80 := (blk_cell (blk_below G8.out.hx G9.out.b) 0).trans rfl; have q81 := (blk_cell (blk_below G8.out.hx G9.out.b) 1).trans rfl; have z80 := blk_frozen (blk_below G8.out.hx G9.out.b) 0; have z81 := blk_frozen (blk_below G8.out.hx G9.out.b) 1; clear hg9 hx9 hb9))
 have LO8 := Lib.hid (Nat.le_trans (below_step BV.out HB2.out).size G8.out.lo)
 refine gen2 (φ := fun W => Code.wp _ _ _ _ W) (P := fun W => L3 w w.heap.size g8 g9 c3 #[.slice A1 xs.length c1, .slice B1 ys.length d1] #[.slice A2 xs.length c2, .slice B2 ys.length d2] W ∧ Below w2.heap.size w2 W) (by
  obtain ⟨t8, t9⟩ := two_set (blk_below G8.out.hx G9.out.b) G9.out.hx (.slice A1 xs.length c1) (.slice B1 ys.length d1) (.slice A2 xs.length c2) (.slice B2 ys.length d2)
  have l8 := G8.out.lo
  have l9 := G9.out.lo
  have b2 := below_set (below_set (below_set (below_set (below_step G8.out.b G9.out.b) l8 (j := 0) (v := .slice A1 xs.length c1)) l8 (j := 1) (v := .slice B1 ys.length d1)) (Nat.le_trans G8.out.b.size l9) (j := 0) (v := .slice A2 xs.length c2)) (Nat.le_trans G8.out.b.size l9) (j := 1) (v := .slice B2 ys.length d2)
  exact ⟨⟨below_step (below_step BV.out HB2.out) b2, blk_below (blk_below Y3.out HB2.out) b2, t8, t9⟩, b2⟩) ?_
 rintro W ⟨hW, hb⟩
 have HW := Lib.hid hW
 have HBW := Lib.hid (below_step HB2.out hb)
 have MX := Lib.hid (M1.out.below hb)
 have MW := Lib.hid (M2.out.below hb)
 clear hW hb f0 f1 f2 f3 f4 BV Y3 G8 G9 M1 M2 HB2 q80 q81 q90 q91 z80 z81 z90 z91 n89 n98
 cases cb with
 | false =>
  go_wp2
  go_ret
  exact ⟨rfl, HW.out.b⟩
 | true =>
  by_cases hk0 : k < 0
  ·have dk : decide (k < 0) = true := by simpa using hk0
   go_wp2
   go_ret
   exact ⟨rfl, HW.out.b⟩
  have dk : decide (k < 0) = false := by simpa using hk0
  by_cases hk3 : 100 < k
  ·have dk3 : decide (100 < k) = true := by simpa using hk3
   go_wp2
   go_ret
   exact ⟨rfl, HW.out.b⟩
  have dk3 : decide (100 < k) = false := by simpa using hk3
  obtain ⟨i1, i2, i3, i4, i5, i6, i7, i8⟩ := case_iff.1 HCB.out.symm
  obtain ⟨N, rfl⟩ := Int.eq_ofNat_of_zero_le i1
  obtain ⟨P, rfl⟩ := Int.eq_ofNat_of_zero_le i3
  obtain ⟨K, rfl⟩ := Int.eq_ofNat_of_zero_le (show 0 ≤ k by omega)
  obtain ⟨j1, j2⟩ := right_iff.1 i8
  have HX := Lib.hid (ok_each j1)
  have HJ1 := Lib.hid j1
  have HI := Lib.hid (show N ≤ 2000 ∧ P ≤ N ∧ K ≤ 100 ∧ xs.length ≤ 2000 ∧ ys.length ≤ 300 by omega)
  clear i1 i2 i3 i4 i5 i6 i7 i8 j1 j2 HCB hk0 hk3
  have Y3' := HW.out.h3
  rw [HC3.out] at Y3'
  have C3_ := Lib.hid Y3'
  have f0 := (blk_cell Y3' 0).trans rfl
  clear Y3'
  go_wp2
  clear f0
  go_loopw [52] (fun s52 wr => ∃ (kk : Nat), kk ≤ xs.length ∧ s52 = .int .i64 (kk : Int) ∧ Hid (Below W.heap.size W wr) ∧ Hid (∀ j x, xs[j]? = some x → j < kk → x.f0 < mine)) (fun s52 _ => xs.length - cntM s52)
  case atStart => exact ⟨0, Nat.zero_le _, rfl, Lib.hid (Below.refl _ _), Lib.hid (fun j x _ hj => absurd hj (by omega))⟩
  case round =>
   obtain ⟨kk, hkk, rfl, ZW, IM⟩ := hrel
   by_cases hlt : kk < xs.length
   ·have d1 : decide ((kk : Int) < (xs.length : Int)) = true := by simp; omega
    have b1 : (0 : Int) ≤ (kk : Int) := by omega
    have b2 : (kk : Int) < (xs.length : Int) := by omega
    have w1_ : IntKind.i64.wrap ((kk : Int) + 1) = (kk : Int) + 1 := IntWalk.i64_in _ (by omega)
    obtain ⟨x, hx⟩ : ∃ x, xs[kk]? = some x := ⟨_, List.getElem?_eq_getElem hlt⟩
    have HXX := Lib.hid hx
    obtain ⟨ad, e0', y0, y1, y2⟩ := at_S (Kd.C_below HR.out (below_step HW.out.b ZW.out)) hx hlt
    subst e0'
    clear hx
    go_upto_region 10 with (first | ((with_reducible refine gate_dst (N := 12) rfl ?_); refine box_event ?hg (N := 12) ?hd (cs := #[.int .i64 0, .int .i64 0, .int .i64 0]) (t := 34) ?hr ?_; (case hd => rfl); (case hg => rfl); (case hr => first | (go_simp; done) | (go_simp; rfl)); intro gB hgB wB hxB hbB; have GB := Lib.hid (show TBm 34 wr gB #[.int .i64 0, .int .i64 0, .int .i64 0] wB from ⟨hbB, by rw [hgB]; exact Nat.le_refl _, hxB⟩); have q0 := (blk_cell hxB 0).trans rfl; have q1 := (blk_cell hxB 1).trans rfl; have q2 := (blk_cell hxB 2).trans rfl; have z0 := blk_frozen hxB 0; have z1 := blk_frozen hxB 1; have z2 := blk_frozen hxB 2; clear hgB hxB hbB))
    refine gen2 (φ := fun W => Code.wp _ _ _ _ W) (P := fun W => TBm 34 wr gB #[.int .i64 x.f0, .int .i64 x.f1, .int .i64 x.f2] W) (((GB.out.set 0 (.int .i64 x.f0)).set 1 (.int .i64 x.f1)).set 2 (.int .i64 x.f2)) ?_
    clear q0 q1 q2 z0 z1 z2 GB y0 y1 y2
    rintro V3 hV3
    have B3 := Lib.hid (below_step ZW.out hV3.b)
    have t0 := (blk_cell hV3.hx 0).trans rfl
    clear hV3 ZW
    by_cases hg : 1099511627776 ≤ x.f0
    ·have dg : decide (1099511627776 ≤ x.f0) = true := by simpa using hg
     go_wp2
     go_ret
     exact ⟨rfl, below_step HW.out.b B3.out⟩
    ·have dg : decide (1099511627776 ≤ x.f0) = false := by simpa using hg
     have IN := Lib.hid (show ∀ j y, xs[j]? = some y → j < kk + 1 → y.f0 < mine from fun j y hy hj => by
      rcases Nat.lt_or_ge j kk with h | h
      ·exact IM.out j y hy h
      ·obtain rfl : j = kk := by omega
       rw [HXX.out] at hy
       injection hy with hy
       subst hy
       unfold mine
       omega)
     clear HXX IM
     go_wp2
     go_roundw
     case rel => exact ⟨kk + 1, by omega, by go_num, B3, IN⟩
     case measure =>
      simp only [cntM]
      omega
   ·have dq : decide ((kk : Int) < (xs.length : Int)) = false := by simp; omega
    have HM := Lib.hid (show ∀ x ∈ xs, x.f0 < mine from fun x hx => by
     obtain ⟨j, hj⟩ := List.getElem?_of_mem hx
     exact IM.out j x hj (by have := (List.getElem?_eq_some_iff.1 hj).1; omega))
    have IV0 := Lib.hid (InvH.start HJ1.out HM.out)
    obtain ⟨l, hll⟩ : ∃ l, l = List.replicate N false := ⟨_, rfl⟩
    rw [← hll] at IV0
    have HLL := Lib.hid hll
    have LL : Hid (l.length = N) := Lib.hid (by rw [hll, List.length_replicate])
    have f2 := (blk_cell (blk_below C3_.out ZW.out) 2).trans rfl
    have BW := Lib.hid (below_step HW.out.b ZW.out)
    clear hll IM HM
    go_upto_region 14 with (first | ((with_reducible refine gate_dst (N := 62) rfl ?_); refine Kd.R_make Kd.bool (w0 := w) w.heap.size 4 rfl (N := 62) rfl 35 _ _ rfl (N : Int) rfl rfl Try.underlying35 (.bool false) 1 infoB rfl (by decide) (by decide) false (ok := fun _ => True) (okp := fun _ => True) rfl (fun _ h => h) trivial (by omega) (by have := HI.out; rw [Int.toNat_natCast]; omega) BW.out BW.out.size ?_; intro vI wI hoI hbI hgI_ hnI_; rw [Int.toNat_natCast, ← HLL.out] at hoI; obtain ⟨AI, cI, eI⟩ := Kd.R_slice hoI; subst eI; have RI := Lib.hid hoI; have BI := Lib.hid (show Below wr.heap.size wr wI from below_grown (w := wr) (W := wr) (v := .slice none 0 0) (Below.refl _ _) hgI_ (fun k h => by cases h)); clear hoI hbI hgI_ hnI_) | ((with_reducible refine gate_dst (N := 13) rfl ?_); refine box_event ?hg (N := 13) ?hd (cs := #[.slice none 0 0]) (t := 35) ?hr ?_; (case hd => rfl); (case hg => rfl); (case hr => first | (go_simp; done) | (go_simp; rfl)); intro gI hgI wJ hxI hbI; have GI := Lib.hid (show TBm 35 wI gI #[.slice none 0 0] wJ from ⟨hbI, by rw [hgI]; exact Nat.le_refl _, hxI⟩); have q0 := (blk_cell hxI 0).trans rfl; have z0 := blk_frozen hxI 0; clear hgI hxI hbI))
    refine gen2 (φ := fun W => Code.wp _ _ _ _ W) (P := fun W => TBm 35 wI gI #[.slice AI l.length cI] W) (GI.out.set 0 (.slice AI l.length cI)) ?_
    rintro V hV
    have TI := Lib.hid hV
    have BV := Lib.hid (below_step ZW.out (below_step BI.out hV.b))
    have RI' := Lib.hid (Kd.R_below RI.out hV.b)
    have LOI := Lib.hid (Nat.le_trans (below_step BW.out BI.out).size hV.lo)
    clear hV GI RI BI q0 z0 f2 ZW dq hlt hkk
    have h8' := blk_below HW.out.h8 BV.out
    have r0 := (blk_cell h8' 0).trans rfl
    have r1 := (blk_cell h8' 1).trans rfl
    have f3 := (blk_cell (blk_below C3_.out BV.out) 3).trans rfl
    obtain ⟨pl, hpl⟩ : ∃ p, p = putL (P : Int) (K : Int) mine xs := ⟨_, rfl⟩
    obtain ⟨nz, hnz⟩ : ∃ p, p = normY (ys.map (mvY (toP (P : Int) (K : Int)))) := ⟨_, rfl⟩
    have HPL := Lib.hid hpl
    have HNZ := Lib.hid hnz
    have LN : Hid (nz.length ≤ 300) := Lib.hid (by
     have h := normY_len (ys.map (mvY (toP (P : Int) (K : Int))))
     rw [hnz]
     rw [List.length_map] at h
     have := HI.out
     omega)
    have IV1 := Lib.hid (InvH.put (m := mine) (k := K) (b := true) IV0.out (show P ≤ l.length by have := HI.out; have := LL.out; omega) (by decide))
    rw [← hpl] at IV1
    obtain ⟨l2, hl2⟩ : ∃ q, q = l.take P ++ List.replicate K true ++ l.drop P := ⟨_, rfl⟩
    rw [← hl2] at IV1
    have HL2 := Lib.hid hl2
    have LL2 : Hid (l2.length ≤ 3060) := Lib.hid (by rw [hl2]; have := HI.out; have := LL.out; simp; omega)
    clear hpl hnz h8' hl2
    go_upto_region 16 with (first | (go_at_call 4; refine (put_calls A1 c1 xs B1 d1 ys (P : Int) (K : Int) mine _ (MX.out.below BV.out).2.2.1 MX.out.1 (MX.out.below BV.out).2.2.2 MX.out.2.1 (by have := HI.out; omega) (by have := HI.out; omega) (by have := HI.out; omega) (by have := HI.out; omega) (fun x hx => by have := HX.out x hx; have := HI.out; omega)).mono ?_; rintro e w4 ha; rw [← HPL.out, ← HNZ.out] at ha; obtain ⟨A4, c4, B4, d4, e4, m4, n4, hb4⟩ := ha; subst e4; have M4 := Lib.hid m4; have N4 := Lib.hid n4; have HB4 := Lib.hid hb4; have u0 := (blk_cell (blk_below (blk_below HW.out.h8 BV.out) hb4) 0).trans rfl; have u1 := (blk_cell (blk_below (blk_below HW.out.h8 BV.out) hb4) 1).trans rfl; have z0 := blk_frozen (blk_below (blk_below HW.out.h8 BV.out) hb4) 0; have z1 := blk_frozen (blk_below (blk_below HW.out.h8 BV.out) hb4) 1; clear m4 n4 hb4))
    refine gen2 (φ := fun W => Code.wp _ _ _ _ W) (P := fun W => HZ w g8 gI A4 c4 B4 d4 pl nz AI cI l W ∧ W.cell? ⟨w.heap.size, 3, none⟩ = some (.int .i64 (P : Int))) ⟨hz_marks (below_step (below_step HW.out.b BV.out) HB4.out) LO8.out LOI.out (blk_below (blk_below HW.out.h8 BV.out) HB4.out) rfl (blk_below TI.out.hx HB4.out) (Kd.R_lower M4.out (below_step HW.out.b BV.out).size) (Kd.R_lower N4.out (below_step HW.out.b BV.out).size) (Kd.R_below RI'.out HB4.out), by
     have hC := blk_below (blk_below C3_.out BV.out) HB4.out
     have hM := blk_below (blk_below HW.out.h8 BV.out) HB4.out
     have e1 := (set_typeM hM (t := 25) (by decide) 0 (.slice A4 pl.length c4) _ _ hC).trans hC
     have e2 := (set_typeM (blk_set hM 0 (.slice A4 pl.length c4)) (t := 25) (by decide) 1 (.slice B4 nz.length d4) _ _ e1).trans e1
     exact blk_cell e2 3⟩ ?_
    rintro V5 ⟨hV5, f3⟩
    have Z5 := Lib.hid hV5
    clear hV5 M4 N4 HB4 TI RI' LOI LO8 BV BW C3_ MX MW HBW HW HR HS HC3 u0 u1 z0 z1 r0 r1 HJ1 HX
    go_upto_region 17 with (first | (go_at_call 6; refine (holdPut_calls P K true gI AI cI l _ Z5.out.hI (Kd.R_reads' Z5.out.ri).2.2 (Kd.R_reads' Z5.out.ri).2.1 (by have := HI.out; have := LL.out; omega) (by have := HI.out; have := LL.out; omega) (by have := HI.out; omega)).mono ?_; rw [← HL2.out]; rintro e w6 ha; obtain ⟨A6, c6, rfl, hz6⟩ := Z5.out.hp ha; clear ha))
    have Z6 := Lib.hid hz6
    clear Z5 f3 hz6
    go_wp2
    go_loopw [76] (fun s76 wr => ∃ (kk : Nat) (A1 : Option Addr) (c1 : Nat) (B1 : Option Addr) (d1 : Nat) (xs : List Sp) (ys : List SY) (AI : Option Addr) (cI : Nat) (l : List Bool), kk ≤ ts.length ∧ s76 = .int .i64 (kk : Int) ∧ Hid (HZ w g8 gI A1 c1 B1 d1 xs ys AI cI l wr) ∧ Hid (InvH xs l) ∧ Hid (l.length ≤ 3060 ∧ ys.length ≤ 300 + kk ∧ kk ≤ 60)) (fun s76 _ => ts.length - cntM s76)
    case atStart => exact ⟨0, _, _, _, _, _, _, _, _, _, Nat.zero_le _, rfl, Z6, IV1, Lib.hid ⟨LL2.out, by have := LN.out; omega, by omega⟩⟩
    case round =>
     clear Z6 IV1 LL2 LN HPL HNZ HL2 HI IV0 HLL LL
     obtain ⟨kk, A1, c1, B1, dd1, xs, ys, AI, cI, l, hkk, rfl, ZW, IW, LW⟩ := hrel
     by_cases hlt : kk < ts.length
     ·have d1 : decide ((kk : Int) < (ts.length : Int)) = true := by simp; omega
      have b1 : (0 : Int) ≤ (kk : Int) := by omega
      have b2 : (kk : Int) < (ts.length : Int) := by omega
      have w1_ : IntKind.i64.wrap ((kk : Int) + 1) = (kk : Int) + 1 := IntWalk.i64_in _ (by omega)
      obtain ⟨t, ht⟩ : ∃ t, ts[kk]? = some t := ⟨_, List.getElem?_eq_getElem hlt⟩
      obtain ⟨ad, e0', y0, y1, y2, y3⟩ := at_A (Kd.C_below HT.out ZW.out.b) ht hlt
      subst e0'
      clear ht
      go_upto_region 20 with (first | ((with_reducible refine gate_dst (N := 16) rfl ?_); refine box_event ?hg (N := 16) ?hd (cs := #[.int .i64 0, .int .i64 0, .int .i64 0, .int .i64 0]) (t := 38) ?hr ?_; (case hd => rfl); (case hg => rfl); (case hr => first | (go_simp; done) | (go_simp; rfl)); intro gS hgS wS hxS hbS; have GS := Lib.hid (show TBm 38 wr gS #[.int .i64 0, .int .i64 0, .int .i64 0, .int .i64 0] wS from ⟨hbS, by rw [hgS]; exact Nat.le_refl _, hxS⟩); have q0 := (blk_cell hxS 0).trans rfl; have q1 := (blk_cell hxS 1).trans rfl; have q2 := (blk_cell hxS 2).trans rfl; have q3 := (blk_cell hxS 3).trans rfl; have z0 := blk_frozen hxS 0; have z1 := blk_frozen hxS 1; have z2 := blk_frozen hxS 2; have z3 := blk_frozen hxS 3; clear hgS hxS hbS))
      refine gen2 (φ := fun W => Code.wp _ _ _ _ W) (P := fun W => TBm 38 wr gS #[.int .i64 t.f0, .int .i64 t.f1, .int .i64 t.f2, .int .i64 t.f3] W) ((((GS.out.set 0 (.int .i64 t.f0)).set 1 (.int .i64 t.f1)).set 2 (.int .i64 t.f2)).set 3 (.int .i64 t.f3)) ?_
      clear q0 q1 q2 q3 z0 z1 z2 z3 GS y0 y1 y2 y3
      rintro V hV
      have ZV := Lib.hid (ZW.out.next hV.b)
      have HS := Lib.hid hV.hx
      have x0 := (blk_cell hV.hx 0).trans rfl
      have x1 := (blk_cell hV.hx 1).trans rfl
      have x2 := (blk_cell hV.hx 2).trans rfl
      have x3 := (blk_cell hV.hx 3).trans rfl
      have sI := (blk_cell ZV.out.hI 0).trans rfl
      clear hV ZW
      have ZW := ZV
      clear ZV
      by_cases h60 : kk = 60
      ·obtain rfl : kk = 60 := h60
       clear hlt d1 b1 b2 w1_ x0 x1 x2 x3 HS hkk
       generalize V = WM at ZW sI ⊢
       obtain ⟨ko, hko⟩ := Go.Proofs.YtdgjjdpeaohebabW.PrintWords.Ev.rounds (marks_Of_ev xs ys mine (by have := IW.out.len; have := LW.out; omega) (by have := LW.out; omega))
       obtain ⟨ls, hls⟩ : ∃ q, q = ofSpans xs mine := ⟨_, rfl⟩
       obtain ⟨ps, hps⟩ : ∃ q, q = ofSites ys mine := ⟨_, rfl⟩
       rw [← hls, ← hps] at hko
       have KO := Lib.hid hko
       have HFL := Lib.hid (show rowB l.length (covB ls) = l by rw [hls]; exact IW.out.fill)
       have HLS := Lib.hid (show ∀ x ∈ ls, 0 ≤ x.f1 ∧ x.f1 < x.f2 ∧ x.f2 ≤ (l.length : Int) from fun x hx => by
        rw [hls] at hx
        have := ok_each IW.out.1 x (List.mem_filter.1 hx).1
        omega)
       have LLS := Lib.hid (show ls.length ≤ 3060 by
        have h1 : ls.length ≤ xs.length := by rw [hls]; exact List.length_filter_le _ _
        have := IW.out.len
        have := LW.out
        omega)
       clear hko hls hps
       go_upto_region 31 with (first | ((with_reducible refine gate_dst (N := 137) rfl ?_); refine Kd.R_make Kd.bool (w0 := WM) WM.heap.size 4 rfl (N := 137) rfl 35 _ _ rfl (l.length : Int) rfl rfl Try.underlying35 (.bool false) 1 infoB rfl (by decide) (by decide) false (ok := fun _ => True) (okp := fun _ => True) rfl (fun _ h => h) trivial (by omega) (by have := LW.out; rw [Int.toNat_natCast]; omega) (Below.refl _ _) (Nat.le_refl _) ?_; intro vG wG hoG hbG hgG_ hnG_; rw [Int.toNat_natCast] at hoG; obtain ⟨AG, cG, eG⟩ := Kd.R_slice hoG; rw [List.length_replicate] at eG; subst eG; rw [rowB_none] at hoG; have RG := Lib.hid hoG; have BG := Lib.hid hbG; have t0 := (blk_cell (blk_below ZW.out.h8 hbG) 0).trans rfl; have t1 := (blk_cell (blk_below ZW.out.h8 hbG) 1).trans rfl; clear hoG hbG hgG_ hnG_))
       go_upto_region 32 with (first | (go_at_call 8; refine (marks_Of.calls ko A1 c1 xs B1 dd1 ys mine ls ps _ (Kd.C_below (Kd.R_reads' ZW.out.rx).2.2 BG.out) (Kd.R_reads' ZW.out.rx).2.1 (Kd.C_below (Kd.R_reads' ZW.out.ry).2.2 BG.out) (Kd.R_reads' ZW.out.ry).2.1 KO.out).mono ?_; rintro e wO ⟨v0, v1, rfl, o0, o1, hbO⟩; obtain ⟨AL, cL, eL⟩ := Kd.R_slice o0; obtain ⟨AP, cP, eP⟩ := Kd.R_slice o1; subst eL; subst eP; have G0 := Lib.hid (show GZ WM AG l.length cG (rowB l.length (covB (ls.take 0))) AL cL ls wO from ⟨below_step BG.out hbO, Kd.R_below RG.out hbO, Kd.R_lower o0 BG.out.size⟩); clear o0 o1 hbO))
       clear t0 t1 sI
       go_wp2
       go_loopw [145] (fun s145 w2 => ∃ jj : Nat, jj ≤ ls.length ∧ s145 = .int .i64 (jj : Int) ∧ Hid (GZ WM AG l.length cG (rowB l.length (covB (ls.take jj))) AL cL ls w2)) (fun s145 _ => ls.length - cntM s145)
       case atStart => exact ⟨0, Nat.zero_le _, rfl, G0⟩
       case round =>
        clear G0 RG BG KO
        obtain ⟨jj, hjj, rfl, GW⟩ := hrel
        by_cases hjl : jj < ls.length
        ·have j1 : decide ((jj : Int) < (ls.length : Int)) = true := by simp; omega
         have j2 : (0 : Int) ≤ (jj : Int) := by omega
         have j3 : (jj : Int) < (ls.length : Int) := by omega
         have wj_ : IntKind.i64.wrap ((jj : Int) + 1) = (jj : Int) + 1 := IntWalk.i64_in _ (by have := LLS.out; omega)
         obtain ⟨x, hx⟩ : ∃ x, ls[jj]? = some x := ⟨_, List.getElem?_eq_getElem hjl⟩
         have HXX := Lib.hid hx
         have FX := Lib.hid (HLS.out x (List.mem_of_getElem? hx))
         obtain ⟨ad2, e0', y0, y1, y2⟩ := at_S (Kd.R_reads' GW.out.rl).2.2 hx hjl
         subst e0'
         clear hx
         go_upto_region 35 with (first | ((with_reducible refine gate_dst (N := 24) rfl ?_); refine box_event ?hg (N := 24) ?hd (cs := #[.int .i64 0, .int .i64 0, .int .i64 0]) (t := 34) ?hr ?_; (case hd => rfl); (case hg => rfl); (case hr => first | (go_simp; done) | (go_simp; rfl)); intro gT hgT wT hxT hbT; have GT := Lib.hid (show TBm 34 wr gT #[.int .i64 0, .int .i64 0, .int .i64 0] wT from ⟨hbT, by rw [hgT]; exact Nat.le_refl _, hxT⟩); have q0 := (blk_cell hxT 0).trans rfl; have q1 := (blk_cell hxT 1).trans rfl; have q2 := (blk_cell hxT 2).trans rfl; have z0 := blk_frozen hxT 0; have z1 := blk_frozen hxT 1; have z2 := blk_frozen hxT 2; clear hgT hxT hbT))
         refine gen2 (φ := fun W => Code.wp _ _ _ _ W) (P := fun W => TBm 34 wr gT #[.int .i64 x.f0, .int .i64 x.f1, .int .i64 x.f2] W) (((GT.out.set 0 (.int .i64 x.f0)).set 1 (.int .i64 x.f1)).set 2 (.int .i64 x.f2)) ?_
         clear q0 q1 q2 z0 z1 z2 GT y0 y1 y2
         rintro V3 hV3
         have GV := Lib.hid (GW.out.next hV3.b)
         have HT3 := Lib.hid hV3.hx
         have t1 := (blk_cell hV3.hx 1).trans rfl
         have t2 := (blk_cell hV3.hx 2).trans rfl
         clear hV3 GW
         have dx1 : decide (x.f1 < 0) = false := by have := FX.out; simp; omega
         have dx2 : decide ((l.length : Int) < x.f2) = false := by have := FX.out; simp; omega
         have nx1 : ¬ x.f1 < 0 := by have := FX.out; omega
         have nx2 : ¬ (l.length : Int) < x.f2 := by have := FX.out; omega
         go_wp2
         clear t1 t2 dx1 dx2 nx1 nx2
         go_loopw [25] (fun s25 w3 => ∃ i : Nat, x.f1 ≤ (i : Int) ∧ (i : Int) ≤ x.f2 ∧ s25 = .int .i64 (i : Int) ∧ Hid (GZ WM AG l.length cG (rowB l.length (fillB ls jj x (i : Int))) (some ad2) cL ls w3) ∧ Hid (w3.heap[gT]? = some (.cells #[.int .i64 x.f0, .int .i64 x.f1, .int .i64 x.f2] 34 (0, 0)))) (fun s25 _ => x.f2.toNat - cntM s25)
         case atStart =>
          have h0 : ((x.f1.toNat : Nat) : Int) = x.f1 := Int.toNat_of_nonneg FX.out.1
          exact ⟨x.f1.toNat, by omega, by have := FX.out; omega, by rw [h0], by rw [h0, ← fillB_first]; exact GV, HT3⟩
         case round =>
          clear GV HT3
          obtain ⟨i, hi1, hi2, rfl, GI, HT3⟩ := hrel
          have t2 := (blk_cell HT3.out 2).trans rfl
          by_cases hil : (i : Int) < x.f2
          ·have di : decide ((i : Int) < x.f2) = true := by simpa using hil
           have i1 : (0 : Int) ≤ (i : Int) := by omega
           have i2 : (i : Int) < (l.length : Int) := by have := FX.out; omega
           have wi_ : IntKind.i64.wrap ((i : Int) + 1) = (i : Int) + 1 := IntWalk.i64_in _ (by have := LW.out; omega)
           have i3 : i < l.length := by omega
           obtain ⟨gG, cells, eG, hbG, hxG⟩ := GI.out.form (by omega)
           subst eG
           have HXG := Lib.hid hxG
           obtain ⟨v, hv⟩ : ∃ v, (rowB l.length (fillB ls jj x (i : Int)))[i]? = some v := ⟨_, List.getElem?_eq_getElem (by rw [rowB_len]; omega)⟩
           obtain ⟨ad3, e3', c3'⟩ := at_B (Kd.R_reads' GI.out.row).2.2 hv (by rw [rowB_len]; exact i3)
           injection e3' with e3'
           subst e3'
           rw [addB] at c3'
           have zi := blk_frozen hxG i
           clear hv hbG hxG
           go_upto_region 39 with fail
           refine gen2 (φ := fun W => Code.wp _ _ _ _ W) (P := fun W => GZ WM (some ⟨gG, 0, none⟩) l.length cG (rowB l.length (fillB ls jj x ((i + 1 : Nat) : Int))) (some ad2) cL ls W ∧ W.heap[gT]? = some (.cells #[.int .i64 x.f0, .int .i64 x.f1, .int .i64 x.f2] 34 (0, 0))) ⟨by rw [← fillB_next hi1 i3]; exact GI.out.put i3, (set_typeM HXG.out (t := 34) (by decide) i _ _ _ HT3.out).trans HT3.out⟩ ?_
           rintro V4 ⟨hV4, hT4⟩
           have GI4 := Lib.hid hV4
           have HT4 := Lib.hid hT4
           clear hV4 hT4 c3' zi t2
           go_wp2
           go_roundw
           case rel => exact ⟨i + 1, by omega, by omega, by go_num, GI4, HT4⟩
           case measure =>
            simp only [cntM]
            omega
          ·have di : decide ((i : Int) < x.f2) = false := by simpa using hil
           have ei : (i : Int) = x.f2 := by omega
           have GN := Lib.hid (show GZ WM AG l.length cG (rowB l.length (covB (ls.take (jj + 1)))) (some ad2) cL ls wr by rw [← fillB_last HXX.out, ← ei]; exact GI.out)
           clear ei GI
           go_wp2
           go_roundw
           case rel => exact ⟨jj + 1, by omega, by go_num, GN⟩
           case measure =>
            simp only [cntM]
            omega
        ·have j1 : decide ((jj : Int) < (ls.length : Int)) = false := by simp; omega
         obtain rfl : jj = ls.length := by omega
         have GE := Lib.hid (show GZ WM AG l.length cG l AL cL ls wr by have h := GW.out; rw [List.take_length, HFL.out] at h; exact h)
         have sI := (blk_cell (blk_below ZW.out.hI GE.out.b) 0).trans rfl
         clear GW HFL
         go_wp2
         clear sI j1 hjj hjl
         have GE0 := Lib.hid (show ∀ W2, Below wr.heap.size wr W2 → GZ WM AG l.length cG l AL cL ls W2 from fun W2 hb => GE.out.next hb)
         go_loopw [173] (fun s173 w2 => ∃ jj : Nat, jj ≤ l.length ∧ s173 = .int .i64 (jj : Int) ∧ Hid (GZ WM AG l.length cG l AL cL ls w2)) (fun s173 _ => l.length - cntM s173)
         case atStart => exact ⟨0, Nat.zero_le _, rfl, GE⟩
         case round =>
          clear GE GE0
          obtain ⟨jj, hjj, rfl, GE⟩ := hrel
          by_cases hjl : jj < l.length
          ·have j1 : decide ((jj : Int) < (l.length : Int)) = true := by simp; omega
           have j2 : (0 : Int) ≤ (jj : Int) := by omega
           have j3 : (jj : Int) < (l.length : Int) := by omega
           have wj_ : IntKind.i64.wrap ((jj : Int) + 1) = (jj : Int) + 1 := IntWalk.i64_in _ (by have := LW.out; omega)
           obtain ⟨v, hv⟩ : ∃ v, l[jj]? = some v := ⟨_, List.getElem?_eq_getElem hjl⟩
           obtain ⟨aI, eI, cI'⟩ := at_B (Kd.R_reads' (ZW.out.next GE.out.b).ri).2.2 hv hjl
           obtain ⟨aG, eG, cG'⟩ := at_B (Kd.R_reads' GE.out.row).2.2 hv hjl
           have sI := (blk_cell (blk_below ZW.out.hI GE.out.b) 0).trans rfl
           subst eI
           subst eG
           clear hv
           go_upto_region 45 with fail
           refine wp_region_noPanic ?_
           refine wp_region_held_drew (S := (fun w' : World => w'.cell? ⟨gI, 0, none⟩ = some (.slice (some aI) l.length cI) ∧ w'.cell? (aI.add jj) = some (.bool v) ∧ w'.cell? (aG.add jj) = some (.bool v))) ?hm_ha ?hS_ha (fun hHeld => ?_)
           case hm_ha => kernel_rfl
           case hS_ha => exact ⟨pw_cell_below (w := wr) (by with_reducible repeat (first | exact Below.refl _ _ | apply pw_below_drewN | apply Below.drew)) sI, pw_cell_below (w := wr) (by with_reducible repeat (first | exact Below.refl _ _ | apply pw_below_drewN | apply Below.drew)) cI', pw_cell_below (w := wr) (by with_reducible repeat (first | exact Below.refl _ _ | apply pw_below_drewN | apply Below.drew)) cG'⟩
           refine wpAnyH_take (i := 0) (oi := ?oha0) (v := ?vha0) ?hi_ha0 ?k1_ha0 ?k2_ha0 ?k3_ha0 (fun _ _ _ h => h) (Or.inl ⟨?g_ha0, ?y_ha0⟩) (by assumption) ?r_ha0
           case hi_ha0 => (simp only [List.getElem?_toArray, List.getElem?_cons_succ, List.getElem?_cons_zero]; rfl)
           case k1_ha0 => kernel_rfl
           case k2_ha0 => kernel_rfl
           case k3_ha0 => kernel_rfl
           case g_ha0 => rfl
           case y_ha0 => (intro w hSw; (try dsimp only at hSw); first | (go_simp; done) | (go_simp; with_reducible rfl))
           (try simp only [Act.put, List.setIfInBounds_toArray, List.set_cons_zero, List.set_cons_succ])
           refine wpAnyH_take (i := 1) (oi := ?oha1) (v := ?vha1) ?hi_ha1 ?k1_ha1 ?k2_ha1 ?k3_ha1 (fun _ _ _ h => h) (Or.inl ⟨?g_ha1, ?y_ha1⟩) (by assumption) ?r_ha1
           case hi_ha1 => (simp only [List.getElem?_toArray, List.getElem?_cons_succ, List.getElem?_cons_zero]; rfl)
           case k1_ha1 => kernel_rfl
           case k2_ha1 => kernel_rfl
           case k3_ha1 => kernel_rfl
           case g_ha1 => rfl
           case y_ha1 => (intro w hSw; (try dsimp only at hSw); first | (go_simp; done) | (go_simp; with_reducible rfl))
           (try simp only [Act.put, List.setIfInBounds_toArray, List.set_cons_zero, List.set_cons_succ])
           refine wpAnyH_take (i := 2) (oi := ?oha2) (v := ?vha2) ?hi_ha2 ?k1_ha2 ?k2_ha2 ?k3_ha2 (fun _ _ _ h => h) (Or.inl ⟨?g_ha2, ?y_ha2⟩) (by assumption) ?r_ha2
           case hi_ha2 => (simp only [List.getElem?_toArray, List.getElem?_cons_succ, List.getElem?_cons_zero]; rfl)
           case k1_ha2 => kernel_rfl
           case k2_ha2 => kernel_rfl
           case k3_ha2 => kernel_rfl
           case g_ha2 => rfl
           case y_ha2 => (intro w hSw; (try dsimp only at hSw); first | (go_simp; done) | (go_simp; with_reducible rfl))
           (try simp only [Act.put, List.setIfInBounds_toArray, List.set_cons_zero, List.set_cons_succ])
           refine wpAnyH_take (i := 3) (oi := ?oha3) (v := ?vha3) ?hi_ha3 ?k1_ha3 ?k2_ha3 ?k3_ha3 (fun _ _ _ h => h) (Or.inl ⟨?g_ha3, ?y_ha3⟩) (by assumption) ?r_ha3
           case hi_ha3 => (simp only [List.getElem?_toArray, List.getElem?_cons_succ, List.getElem?_cons_zero]; rfl)
           case k1_ha3 => kernel_rfl
           case k2_ha3 => kernel_rfl
           case k3_ha3 => kernel_rfl
           case g_ha3 => rfl
           case y_ha3 => (intro w hSw; (try dsimp only at hSw); first | (go_simp; done) | (go_simp; with_reducible rfl))
           (try simp only [Act.put, List.setIfInBounds_toArray, List.set_cons_zero, List.set_cons_succ])
           refine wpAnyH_take (i := 4) (oi := ?oha4) (v := ?vha4) ?hi_ha4 ?k1_ha4 ?k2_ha4 ?k3_ha4 (fun _ _ _ h => h) (Or.inl ⟨?g_ha4, ?y_ha4⟩) (by assumption) ?r_ha4
           case hi_ha4 => (simp only [List.getElem?_toArray, List.getElem?_cons_succ, List.getElem?_cons_zero]; rfl)
           case k1_ha4 => kernel_rfl
           case k2_ha4 => kernel_rfl
           case k3_ha4 => kernel_rfl
           case g_ha4 => rfl
           case y_ha4 => (intro w hSw; (try dsimp only at hSw); first | (go_simp; done) | (go_simp; with_reducible rfl))
           (try simp only [Act.put, List.setIfInBounds_toArray, List.set_cons_zero, List.set_cons_succ])
           refine wpAnyH_take (i := 5) (oi := ?oha5) (v := ?vha5) ?hi_ha5 ?k1_ha5 ?k2_ha5 ?k3_ha5 (fun _ _ _ h => h) (Or.inl ⟨?g_ha5, ?y_ha5⟩) (by assumption) ?r_ha5
           case hi_ha5 => (simp only [List.getElem?_toArray, List.getElem?_cons_succ, List.getElem?_cons_zero]; rfl)
           case k1_ha5 => kernel_rfl
           case k2_ha5 => kernel_rfl
           case k3_ha5 => kernel_rfl
           case g_ha5 => rfl
           case y_ha5 => (intro w hSw; (try dsimp only at hSw); first | (go_simp; done) | (go_simp; with_reducible rfl))
           (try simp only [Act.put, List.setIfInBounds_toArray, List.set_cons_zero, List.set_cons_succ])
           refine wpAnyH_take (i := 6) (oi := ?oha6) (v := ?vha6) ?hi_ha6 ?k1_ha6 ?k2_ha6 ?k3_ha6 (fun _ _ _ h => h) (Or.inl ⟨?g_ha6, ?y_ha6⟩) (by assumption) ?r_ha6
           case hi_ha6 => (simp only [List.getElem?_toArray, List.getElem?_cons_succ, List.getElem?_cons_zero]; rfl)
           case k1_ha6 => kernel_rfl
           case k2_ha6 => kernel_rfl
           case k3_ha6 => kernel_rfl
           case g_ha6 => rfl
           case y_ha6 => (intro w hSw; (try dsimp only at hSw); first | (go_simp; done) | (go_simp; with_reducible rfl))
           (try simp only [Act.put, List.setIfInBounds_toArray, List.set_cons_zero, List.set_cons_succ])
           refine wpAnyH_take (i := 7) (oi := ?oha7) (v := ?vha7) ?hi_ha7 ?k1_ha7 ?k2_ha7 ?k3_ha7 (fun _ _ _ h => h) (Or.inl ⟨?g_ha7, ?y_ha7⟩) (by assumption) ?r_ha7
           case hi_ha7 => (simp only [List.getElem?_toArray, List.getElem?_cons_succ, List.getElem?_cons_zero]; rfl)
           case k1_ha7 => kernel_rfl
           case k2_ha7 => kernel_rfl
           case k3_ha7 => kernel_rfl
           case g_ha7 => rfl
           case y_ha7 => (intro w hSw; (try dsimp only at hSw); first | (go_simp; done) | (go_simp; with_reducible rfl))
           (try simp only [Act.put, List.setIfInBounds_toArray, List.set_cons_zero, List.set_cons_succ])
           refine wpAnyH_take (i := 8) (oi := ?oha8) (v := ?vha8) ?hi_ha8 ?k1_ha8 ?k2_ha8 ?k3_ha8 (fun _ _ _ h => h) (Or.inl ⟨?g_ha8, ?y_ha8⟩) (by assumption) ?r_ha8
           case hi_ha8 => (simp only [List.getElem?_toArray, List.getElem?_cons_succ, List.getElem?_cons_zero]; rfl)
           case k1_ha8 => kernel_rfl
           case k2_ha8 => kernel_rfl
           case k3_ha8 => kernel_rfl
           case g_ha8 => rfl
           case y_ha8 => (intro w hSw; (try dsimp only at hSw); first | (go_simp; done) | (go_simp; with_reducible rfl))
           (try simp only [Act.put, List.setIfInBounds_toArray, List.set_cons_zero, List.set_cons_succ])
           refine wpAnyH_done (by kernel_rfl) ?_ _
           refine NoPanic.normal ?_
           go_wp2
           go_roundw
           case rel => exact ⟨jj + 1, by omega, by go_num, Lib.hid (GE.out.next (by with_reducible repeat (first | exact Below.refl _ _ | apply pw_below_drewN | apply Below.drew)))⟩
           case measure =>
            simp only [cntM]
            omega
          ·have j1 : decide ((jj : Int) < (l.length : Int)) = false := by simp; omega
           go_wp2
           go_ret
           exact ⟨rfl, below_step ZW.out.b GE.out.b⟩
      ·have n60 : ¬ ((kk : Int) = 60) := by omega
       have m60 : decide ((kk : Int) = 60) = false := by simpa using n60
       have o60 : ((kk : Int) == 60) = false := by simpa using n60
       by_cases hL : 3000 < (l.length : Int)
       ·have dL : decide (3000 < (l.length : Int)) = true := by simpa using hL
        clear hlt d1 b1 b2 w1_ x0 x1 x2 x3 HS hkk
        generalize V = WM at ZW sI ⊢
        obtain ⟨ko, hko⟩ := Go.Proofs.YtdgjjdpeaohebabW.PrintWords.Ev.rounds (marks_Of_ev xs ys mine (by have := IW.out.len; have := LW.out; omega) (by have := LW.out; omega))
        obtain ⟨ls, hls⟩ : ∃ q, q = ofSpans xs mine := ⟨_, rfl⟩
        obtain ⟨ps, hps⟩ : ∃ q, q = ofSites ys mine := ⟨_, rfl⟩
        rw [← hls, ← hps] at hko
        have KO := Lib.hid hko
        have HFL := Lib.hid (show rowB l.length (covB ls) = l by rw [hls]; exact IW.out.fill)
        have HLS := Lib.hid (show ∀ x ∈ ls, 0 ≤ x.f1 ∧ x.f1 < x.f2 ∧ x.f2 ≤ (l.length : Int) from fun x hx => by
         rw [hls] at hx
         have := ok_each IW.out.1 x (List.mem_filter.1 hx).1
         omega)
        have LLS := Lib.hid (show ls.length ≤ 3060 by
         have h1 : ls.length ≤ xs.length := by rw [hls]; exact List.length_filter_le _ _
         have := IW.out.len
         have := LW.out
         omega)
        clear hko hls hps
        go_upto_region 31 with (first | ((with_reducible refine gate_dst (N := 137) rfl ?_); refine Kd.R_make Kd.bool (w0 := WM) WM.heap.size 4 rfl (N := 137) rfl 35 _ _ rfl (l.length : Int) rfl rfl Try.underlying35 (.bool false) 1 infoB rfl (by decide) (by decide) false (ok := fun _ => True) (okp := fun _ => True) rfl (fun _ h => h) trivial (by omega) (by have := LW.out; rw [Int.toNat_natCast]; omega) (Below.refl _ _) (Nat.le_refl _) ?_; intro vG wG hoG hbG hgG_ hnG_; rw [Int.toNat_natCast] at hoG; obtain ⟨AG, cG, eG⟩ := Kd.R_slice hoG; rw [List.length_replicate] at eG; subst eG; rw [rowB_none] at hoG; have RG := Lib.hid hoG; have BG := Lib.hid hbG; have t0 := (blk_cell (blk_below ZW.out.h8 hbG) 0).trans rfl; have t1 := (blk_cell (blk_below ZW.out.h8 hbG) 1).trans rfl; clear hoG hbG hgG_ hnG_))
        go_upto_region 32 with (first | (go_at_call 8; refine (marks_Of.calls ko A1 c1 xs B1 dd1 ys mine ls ps _ (Kd.C_below (Kd.R_reads' ZW.out.rx).2.2 BG.out) (Kd.R_reads' ZW.out.rx).2.1 (Kd.C_below (Kd.R_reads' ZW.out.ry).2.2 BG.out) (Kd.R_reads' ZW.out.ry).2.1 KO.out).mono ?_; rintro e wO ⟨v0, v1, rfl, o0, o1, hbO⟩; obtain ⟨AL, cL, eL⟩ := Kd.R_slice o0; obtain ⟨AP, cP, eP⟩ := Kd.R_slice o1; subst eL; subst eP; have G0 := Lib.hid (show GZ WM AG l.length cG (rowB l.length (covB (ls.take 0))) AL cL ls wO from ⟨below_step BG.out hbO, Kd.R_below RG.out hbO, Kd.R_lower o0 BG.out.size⟩); clear o0 o1 hbO))
        clear t0 t1 sI
        go_wp2
        go_loopw [145] (fun s145 w2 => ∃ jj : Nat, jj ≤ ls.length ∧ s145 = .int .i64 (jj : Int) ∧ Hid (GZ WM AG l.length cG (rowB l.length (covB (ls.take jj))) AL cL ls w2)) (fun s145 _ => ls.length - cntM s145)
        case atStart => exact ⟨0, Nat.zero_le _, rfl, G0⟩
        case round =>
         clear G0 RG BG KO
         obtain ⟨jj, hjj, rfl, GW⟩ := hrel
         by_cases hjl : jj < ls.length
         ·have j1 : decide ((jj : Int) < (ls.length : Int)) = true := by simp; omega
          have j2 : (0 : Int) ≤ (jj : Int) := by omega
          have j3 : (jj : Int) < (ls.length : Int) := by omega
          have wj_ : IntKind.i64.wrap ((jj : Int) + 1) = (jj : Int) + 1 := IntWalk.i64_in _ (by have := LLS.out; omega)
          obtain ⟨x, hx⟩ : ∃ x, ls[jj]? = some x := ⟨_, List.getElem?_eq_getElem hjl⟩
          have HXX := Lib.hid hx
          have FX := Lib.hid (HLS.out x (List.mem_of_getElem? hx))
          obtain ⟨ad2, e0', y0, y1, y2⟩ := at_S (Kd.R_reads' GW.out.rl).2.2 hx hjl
          subst e0'
          clear hx
          go_upto_region 35 with (first | ((with_reducible refine gate_dst (N := 24) rfl ?_); refine box_event ?hg (N := 24) ?hd (cs := #[.int .i64 0, .int .i64 0, .int .i64 0]) (t := 34) ?hr ?_; (case hd => rfl); (case hg => rfl); (case hr => first | (go_simp; done) | (go_simp; rfl)); intro gT hgT wT hxT hbT; have GT := Lib.hid (show TBm 34 wr gT #[.int .i64 0, .int .i64 0, .int .i64 0] wT from ⟨hbT, by rw [hgT]; exact Nat.le_refl _, hxT⟩); have q0 := (blk_cell hxT 0).trans rfl; have q1 := (blk_cell hxT 1).trans rfl; have q2 := (blk_cell hxT 2).trans rfl; have z0 := blk_frozen hxT 0; have z1 := blk_frozen hxT 1; have z2 := blk_frozen hxT 2; clear hgT hxT hbT))
          refine gen2 (φ := fun W => Code.wp _ _ _ _ W) (P := fun W => TBm 34 wr gT #[.int .i64 x.f0, .int .i64 x.f1, .int .i64 x.f2] W) (((GT.out.set 0 (.int .i64 x.f0)).set 1 (.int .i64 x.f1)).set 2 (.int .i64 x.f2)) ?_
          clear q0 q1 q2 z0 z1 z2 GT y0 y1 y2
          rintro V3 hV3
          have GV := Lib.hid (GW.out.next hV3.b)
          have HT3 := Lib.hid hV3.hx
          have t1 := (blk_cell hV3.hx 1).trans rfl
          have t2 := (blk_cell hV3.hx 2).trans rfl
          clear hV3 GW
          have dx1 : decide (x.f1 < 0) = false := by have := FX.out; simp; omega
          have dx2 : decide ((l.length : Int) < x.f2) = false := by have := FX.out; simp; omega
          have nx1 : ¬ x.f1 < 0 := by have := FX.out; omega
          have nx2 : ¬ (l.length : Int) < x.f2 := by have := FX.out; omega
          go_wp2
          clear t1 t2 dx1 dx2 nx1 nx2
          go_loopw [25] (fun s25 w3 => ∃ i : Nat, x.f1 ≤ (i : Int) ∧ (i : Int) ≤ x.f2 ∧ s25 = .int .i64 (i : Int) ∧ Hid (GZ WM AG l.length cG (rowB l.length (fillB ls jj x (i : Int))) (some ad2) cL ls w3) ∧ Hid (w3.heap[gT]? = some (.cells #[.int .i64 x.f0, .int .i64 x.f1, .int .i64 x.f2] 34 (0, 0)))) (fun s25 _ => x.f2.toNat - cntM s25)
          case atStart =>
           have h0 : ((x.f1.toNat : Nat) : Int) = x.f1 := Int.toNat_of_nonneg FX.out.1
           exact ⟨x.f1.toNat, by omega, by have := FX.out; omega, by rw [h0], by rw [h0, ← fillB_first]; exact GV, HT3⟩
          case round =>
           clear GV HT3
           obtain ⟨i, hi1, hi2, rfl, GI, HT3⟩ := hrel
           have t2 := (blk_cell HT3.out 2).trans rfl
           by_cases hil : (i : Int) < x.f2
           ·have di : decide ((i : Int) < x.f2) = true := by simpa using hil
            have i1 : (0 : Int) ≤ (i : Int) := by omega
            have i2 : (i : Int) < (l.length : Int) := by have := FX.out; omega
            have wi_ : IntKind.i64.wrap ((i : Int) + 1) = (i : Int) + 1 := IntWalk.i64_in _ (by have := LW.out; omega)
            have i3 : i < l.length := by omega
            obtain ⟨gG, cells, eG, hbG, hxG⟩ := GI.out.form (by omega)
            subst eG
            have HXG := Lib.hid hxG
            obtain ⟨v, hv⟩ : ∃ v, (rowB l.length (fillB ls jj x (i : Int)))[i]? = some v := ⟨_, List.getElem?_eq_getElem (by rw [rowB_len]; omega)⟩
            obtain ⟨ad3, e3', c3'⟩ := at_B (Kd.R_reads' GI.out.row).2.2 hv (by rw [rowB_len]; exact i3)
            injection e3' with e3'
            subst e3'
            rw [addB] at c3'
            have zi := blk_frozen hxG i
            clear hv hbG hxG
            go_upto_region 39 with fail
            refine gen2 (φ := fun W => Code.wp _ _ _ _ W) (P := fun W => GZ WM (some ⟨gG, 0, none⟩) l.length cG (rowB l.length (fillB ls jj x ((i + 1 : Nat) : Int))) (some ad2) cL ls W ∧ W.heap[gT]? = some (.cells #[.int .i64 x.f0, .int .i64 x.f1, .int .i64 x.f2] 34 (0, 0))) ⟨by rw [← fillB_next hi1 i3]; exact GI.out.put i3, (set_typeM HXG.out (t := 34) (by decide) i _ _ _ HT3.out).trans HT3.out⟩ ?_
            rintro V4 ⟨hV4, hT4⟩
            have GI4 := Lib.hid hV4
            have HT4 := Lib.hid hT4
            clear hV4 hT4 c3' zi t2
            go_wp2
            go_roundw
            case rel => exact ⟨i + 1, by omega, by omega, by go_num, GI4, HT4⟩
            case measure =>
             simp only [cntM]
             omega
           ·have di : decide ((i : Int) < x.f2) = false := by simpa using hil
            have ei : (i : Int) = x.f2 := by omega
            have GN := Lib.hid (show GZ WM AG l.length cG (rowB l.length (covB (ls.take (jj + 1)))) (some ad2) cL ls wr by rw [← fillB_last HXX.out, ← ei]; exact GI.out)
            clear ei GI
            go_wp2
            go_roundw
            case rel => exact ⟨jj + 1, by omega, by go_num, GN⟩
            case measure =>
             simp only [cntM]
             omega
         ·have j1 : decide ((jj : Int) < (ls.length : Int)) = false := by simp; omega
          obtain rfl : jj = ls.length := by omega
          have GE := Lib.hid (show GZ WM AG l.length cG l AL cL ls wr by have h := GW.out; rw [List.take_length, HFL.out] at h; exact h)
          have sI := (blk_cell (blk_below ZW.out.hI GE.out.b) 0).trans rfl
          clear GW HFL
          go_wp2
          clear sI j1 hjj hjl
          have GE0 := Lib.hid (show ∀ W2, Below wr.heap.size wr W2 → GZ WM AG l.length cG l AL cL ls W2 from fun W2 hb => GE.out.next hb)
          go_loopw [173] (fun s173 w2 => ∃ jj : Nat, jj ≤ l.length ∧ s173 = .int .i64 (jj : Int) ∧ Hid (GZ WM AG l.length cG l AL cL ls w2)) (fun s173 _ => l.length - cntM s173)
          case atStart => exact ⟨0, Nat.zero_le _, rfl, GE⟩
          case round =>
           clear GE GE0
           obtain ⟨jj, hjj, rfl, GE⟩ := hrel
           by_cases hjl : jj < l.length
           ·have j1 : decide ((jj : Int) < (l.length : Int)) = true := by simp; omega
            have j2 : (0 : Int) ≤ (jj : Int) := by omega
            have j3 : (jj : Int) < (l.length : Int) := by omega
            have wj_ : IntKind.i64.wrap ((jj : Int) + 1) = (jj : Int) + 1 := IntWalk.i64_in _ (by have := LW.out; omega)
            obtain ⟨v, hv⟩ : ∃ v, l[jj]? = some v := ⟨_, List.getElem?_eq_getElem hjl⟩
            obtain ⟨aI, eI, cI'⟩ := at_B (Kd.R_reads' (ZW.out.next GE.out.b).ri).2.2 hv hjl
            obtain ⟨aG, eG, cG'⟩ := at_B (Kd.R_reads' GE.out.row).2.2 hv hjl
            have sI := (blk_cell (blk_below ZW.out.hI GE.out.b) 0).trans rfl
            subst eI
            subst eG
            clear hv
            go_upto_region 45 with fail
            refine wp_region_noPanic ?_
            refine wp_region_held_drew (S := (fun w' : World => w'.cell? ⟨gI, 0, none⟩ = some (.slice (some aI) l.length cI) ∧ w'.cell? (aI.add jj) = some (.bool v) ∧ w'.cell? (aG.add jj) = some (.bool v))) ?hm_hb ?hS_hb (fun hHeld => ?_)
            case hm_hb => kernel_rfl
            case hS_hb => exact ⟨pw_cell_below (w := wr) (by with_reducible repeat (first | exact Below.refl _ _ | apply pw_below_drewN | apply Below.drew)) sI, pw_cell_below (w := wr) (by with_reducible repeat (first | exact Below.refl _ _ | apply pw_below_drewN | apply Below.drew)) cI', pw_cell_below (w := wr) (by with_reducible repeat (first | exact Below.refl _ _ | apply pw_below_drewN | apply Below.drew)) cG'⟩
            refine wpAnyH_take (i := 0) (oi := ?ohb0) (v := ?vhb0) ?hi_hb0 ?k1_hb0 ?k2_hb0 ?k3_hb0 (fun _ _ _ h => h) (Or.inl ⟨?g_hb0, ?y_hb0⟩) (by assumption) ?r_hb0
            case hi_hb0 => (simp only [List.getElem?_toArray, List.getElem?_cons_succ, List.getElem?_cons_zero]; rfl)
            case k1_hb0 => kernel_rfl
            case k2_hb0 => kernel_rfl
            case k3_hb0 => kernel_rfl
            case g_hb0 => rfl
            case y_hb0 => (intro w hSw; (try dsimp only at hSw); first | (go_simp; done) | (go_simp; with_reducible rfl))
            (try simp only [Act.put, List.setIfInBounds_toArray, List.set_cons_zero, List.set_cons_succ])
            refine wpAnyH_take (i := 1) (oi := ?ohb1) (v := ?vhb1) ?hi_hb1 ?k1_hb1 ?k2_hb1 ?k3_hb1 (fun _ _ _ h => h) (Or.inl ⟨?g_hb1, ?y_hb1⟩) (by assumption) ?r_hb1
            case hi_hb1 => (simp only [List.getElem?_toArray, List.getElem?_cons_succ, List.getElem?_cons_zero]; rfl)
            case k1_hb1 => kernel_rfl
            case k2_hb1 => kernel_rfl
            case k3_hb1 => kernel_rfl
            case g_hb1 => rfl
            case y_hb1 => (intro w hSw; (try dsimp only at hSw); first | (go_simp; done) | (go_simp; with_reducible rfl))
            (try simp only [Act.put, List.setIfInBounds_toArray, List.set_cons_zero, List.set_cons_succ])
            refine wpAnyH_take (i := 2) (oi := ?ohb2) (v := ?vhb2) ?hi_hb2 ?k1_hb2 ?k2_hb2 ?k3_hb2 (fun _ _ _ h => h) (Or.inl ⟨?g_hb2, ?y_hb2⟩) (by assumption) ?r_hb2
            case hi_hb2 => (simp only [List.getElem?_toArray, List.getElem?_cons_succ, List.getElem?_cons_zero]; rfl)
            case k1_hb2 => kernel_rfl
            case k2_hb2 => kernel_rfl
            case k3_hb2 => kernel_rfl
            case g_hb2 => rfl
            case y_hb2 => (intro w hSw; (try dsimp only at hSw); first | (go_simp; done) | (go_simp; with_reducible rfl))
            (try simp only [Act.put, List.setIfInBounds_toArray, List.set_cons_zero, List.set_cons_succ])
            refine wpAnyH_take (i := 3) (oi := ?ohb3) (v := ?vhb3) ?hi_hb3 ?k1_hb3 ?k2_hb3 ?k3_hb3 (fun _ _ _ h => h) (Or.inl ⟨?g_hb3, ?y_hb3⟩) (by assumption) ?r_hb3
            case hi_hb3 => (simp only [List.getElem?_toArray, List.getElem?_cons_succ, List.getElem?_cons_zero]; rfl)
            case k1_hb3 => kernel_rfl
            case k2_hb3 => kernel_rfl
            case k3_hb3 => kernel_rfl
            case g_hb3 => rfl
            case y_hb3 => (intro w hSw; (try dsimp only at hSw); first | (go_simp; done) | (go_simp; with_reducible rfl))
            (try simp only [Act.put, List.setIfInBounds_toArray, List.set_cons_zero, List.set_cons_succ])
            refine wpAnyH_take (i := 4) (oi := ?ohb4) (v := ?vhb4) ?hi_hb4 ?k1_hb4 ?k2_hb4 ?k3_hb4 (fun _ _ _ h => h) (Or.inl ⟨?g_hb4, ?y_hb4⟩) (by assumption) ?r_hb4
            case hi_hb4 => (simp only [List.getElem?_toArray, List.getElem?_cons_succ, List.getElem?_cons_zero]; rfl)
            case k1_hb4 => kernel_rfl
            case k2_hb4 => kernel_rfl
            case k3_hb4 => kernel_rfl
            case g_hb4 => rfl
            case y_hb4 => (intro w hSw; (try dsimp only at hSw); first | (go_simp; done) | (go_simp; with_reducible rfl))
            (try simp only [Act.put, List.setIfInBounds_toArray, List.set_cons_zero, List.set_cons_succ])
            refine wpAnyH_take (i := 5) (oi := ?ohb5) (v := ?vhb5) ?hi_hb5 ?k1_hb5 ?k2_hb5 ?k3_hb5 (fun _ _ _ h => h) (Or.inl ⟨?g_hb5, ?y_hb5⟩) (by assumption) ?r_hb5
            case hi_hb5 => (simp only [List.getElem?_toArray, List.getElem?_cons_succ, List.getElem?_cons_zero]; rfl)
            case k1_hb5 => kernel_rfl
            case k2_hb5 => kernel_rfl
            case k3_hb5 => kernel_rfl
            case g_hb5 => rfl
            case y_hb5 => (intro w hSw; (try dsimp only at hSw); first | (go_simp; done) | (go_simp; with_reducible rfl))
            (try simp only [Act.put, List.setIfInBounds_toArray, List.set_cons_zero, List.set_cons_succ])
            refine wpAnyH_take (i := 6) (oi := ?ohb6) (v := ?vhb6) ?hi_hb6 ?k1_hb6 ?k2_hb6 ?k3_hb6 (fun _ _ _ h => h) (Or.inl ⟨?g_hb6, ?y_hb6⟩) (by assumption) ?r_hb6
            case hi_hb6 => (simp only [List.getElem?_toArray, List.getElem?_cons_succ, List.getElem?_cons_zero]; rfl)
            case k1_hb6 => kernel_rfl
            case k2_hb6 => kernel_rfl
            case k3_hb6 => kernel_rfl
            case g_hb6 => rfl
            case y_hb6 => (intro w hSw; (try dsimp only at hSw); first | (go_simp; done) | (go_simp; with_reducible rfl))
            (try simp only [Act.put, List.setIfInBounds_toArray, List.set_cons_zero, List.set_cons_succ])
            refine wpAnyH_take (i := 7) (oi := ?ohb7) (v := ?vhb7) ?hi_hb7 ?k1_hb7 ?k2_hb7 ?k3_hb7 (fun _ _ _ h => h) (Or.inl ⟨?g_hb7, ?y_hb7⟩) (by assumption) ?r_hb7
            case hi_hb7 => (simp only [List.getElem?_toArray, List.getElem?_cons_succ, List.getElem?_cons_zero]; rfl)
            case k1_hb7 => kernel_rfl
            case k2_hb7 => kernel_rfl
            case k3_hb7 => kernel_rfl
            case g_hb7 => rfl
            case y_hb7 => (intro w hSw; (try dsimp only at hSw); first | (go_simp; done) | (go_simp; with_reducible rfl))
            (try simp only [Act.put, List.setIfInBounds_toArray, List.set_cons_zero, List.set_cons_succ])
            refine wpAnyH_take (i := 8) (oi := ?ohb8) (v := ?vhb8) ?hi_hb8 ?k1_hb8 ?k2_hb8 ?k3_hb8 (fun _ _ _ h => h) (Or.inl ⟨?g_hb8, ?y_hb8⟩) (by assumption) ?r_hb8
            case hi_hb8 => (simp only [List.getElem?_toArray, List.getElem?_cons_succ, List.getElem?_cons_zero]; rfl)
            case k1_hb8 => kernel_rfl
            case k2_hb8 => kernel_rfl
            case k3_hb8 => kernel_rfl
            case g_hb8 => rfl
            case y_hb8 => (intro w hSw; (try dsimp only at hSw); first | (go_simp; done) | (go_simp; with_reducible rfl))
            (try simp only [Act.put, List.setIfInBounds_toArray, List.set_cons_zero, List.set_cons_succ])
            refine wpAnyH_done (by kernel_rfl) ?_ _
            refine NoPanic.normal ?_
            go_wp2
            go_roundw
            case rel => exact ⟨jj + 1, by omega, by go_num, Lib.hid (GE.out.next (by with_reducible repeat (first | exact Below.refl _ _ | apply pw_below_drewN | apply Below.drew)))⟩
            case measure =>
             simp only [cntM]
             omega
           ·have j1 : decide ((jj : Int) < (l.length : Int)) = false := by simp; omega
            go_wp2
            go_ret
            exact ⟨rfl, below_step ZW.out.b GE.out.b⟩
       ·have dL : decide (3000 < (l.length : Int)) = false := by simpa using hL
        obtain ⟨m1, e1⟩ : ∃ z, (if t.f1 < 0 then (0 : Int) else t.f1) = z := ⟨_, rfl⟩
        have g1 : 0 ≤ m1 := by rw [← e1]; split <;> omega
        obtain ⟨Pt, e2⟩ : ∃ p : Nat, (if (l.length : Int) < m1 then (l.length : Int) else m1) = (p : Int) := by
         split
         ·exact ⟨_, rfl⟩
         ·exact Int.eq_ofNat_of_zero_le g1
        have g2 : Pt ≤ l.length := by
         split at e2 <;> omega
        obtain ⟨m2, e3⟩ : ∃ z, (if t.f2 < 0 then (0 : Int) else t.f2) = z := ⟨_, rfl⟩
        have g3 : 0 ≤ m2 := by rw [← e3]; split <;> omega
        obtain ⟨Kt, e4⟩ : ∃ p : Nat, (if 50 < m2 then (50 : Int) else m2) = (p : Int) := by
         split
         ·exact ⟨50, rfl⟩
         ·exact Int.eq_ofNat_of_zero_le g3
        have g4 : Kt ≤ 50 := by
         split at e4 <;> omega
        obtain ⟨mr, e5⟩ : ∃ z, t.f3.tmod 1000 = z := ⟨_, rfl⟩
        have g5 : mr < 1000 := by rw [← e5]; exact Int.tmod_lt_of_pos _ (by decide)
        have g6 : -1000 < mr := by
         rw [← e5]
         have := Int.lt_tmod_of_pos t.f3 (b := 1000) (by decide)
         omega
        have wr_ : IntKind.i64.wrap mr = mr := IntWalk.i64_in _ (by omega)
        have GG := Lib.hid (show Pt ≤ l.length ∧ Kt ≤ 50 ∧ l.length ≤ 3000 ∧ kk < 60 ∧ ys.length ≤ 300 + kk ∧ xs.length ≤ 3000 ∧ mr < 1000 from ⟨g2, g4, by omega, by have := LW.out; omega, LW.out.2.1, by have := IW.out.len; omega, g5⟩)
        clear g1 g2 g3 g4 g5 g6
        have r0 := (blk_cell ZW.out.h8 0).trans rfl
        have r1 := (blk_cell ZW.out.h8 1).trans rfl
        by_cases hz : t.f0 = 0
        ·have dz : decide (t.f0 = 0) = true := by simpa using hz
         have dz2 : (t.f0 == 0) = true := by simpa using hz
         clear hz
         go_upto_region 25 with (first | (go_at_call 4; refine (put_calls A1 c1 xs B1 dd1 ys (Pt : Int) (Kt : Int) mr _ (Kd.R_reads' ZW.out.rx).2.2 (Kd.R_reads' ZW.out.rx).2.1 (Kd.R_reads' ZW.out.ry).2.2 (Kd.R_reads' ZW.out.ry).2.1 (by have := GG.out; omega) (by have := GG.out; omega) (by have := GG.out; omega) (by have := GG.out; omega) (fun x hx => by have := ok_each IW.out.1 x hx; have := GG.out; omega)).mono ?_; rintro e w4 ha; obtain ⟨pl, hpl⟩ : ∃ p, p = putL (Pt : Int) (Kt : Int) mr xs := ⟨_, rfl⟩; obtain ⟨nz, hnz⟩ : ∃ p, p = normY (ys.map (mvY (toP (Pt : Int) (Kt : Int)))) := ⟨_, rfl⟩; rw [← hpl, ← hnz] at ha; have HPL := Lib.hid hpl; have HNZ := Lib.hid hnz; obtain ⟨A4, c4, B4, d4, e4', m4, n4, hb4⟩ := ha; subst e4'; have M4 := Lib.hid m4; have N4 := Lib.hid n4; have Z4 := Lib.hid (ZW.out.next hb4); have u0 := (blk_cell Z4.out.h8 0).trans rfl; have u1 := (blk_cell Z4.out.h8 1).trans rfl; have z0 := blk_frozen Z4.out.h8 0; have z1 := blk_frozen Z4.out.h8 1; clear m4 n4 hb4 hpl hnz))
         refine gen2 (φ := fun W => Code.wp _ _ _ _ W) (P := fun W => HZ w g8 gI A4 c4 B4 d4 pl nz AI cI l W) (hz_marks Z4.out.b Z4.out.lo8 Z4.out.loI Z4.out.h8 rfl Z4.out.hI (Kd.R_lower M4.out ZW.out.b.size) (Kd.R_lower N4.out ZW.out.b.size) Z4.out.ri) ?_
         rintro V5 hV5
         have Z5 := Lib.hid hV5
         have IV := Lib.hid (InvH.put (m := mr) (k := Kt) (b := false) IW.out GG.out.1 (by have := GG.out; symm; rw [decide_eq_false_iff_not]; unfold mine; omega))
         rw [← HPL.out] at IV
         have LN : Hid (nz.length ≤ ys.length) := Lib.hid (by
          have h := normY_len (ys.map (mvY (toP (Pt : Int) (Kt : Int))))
          rw [← HNZ.out, List.length_map] at h
          exact h)
         obtain ⟨l2, hl2⟩ : ∃ q, q = l.take Pt ++ List.replicate Kt false ++ l.drop Pt := ⟨_, rfl⟩
         rw [← hl2] at IV
         have HL2 := Lib.hid hl2
         have LL2 : Hid (l2.length ≤ 3060) := Lib.hid (by rw [hl2]; have := GG.out; simp; omega)
         clear hV5 hl2 M4 N4 Z4 u0 u1 z0 z1 r0 r1 x0 x1 x2 x3 HPL HNZ e5 wr_
         go_upto_region 29 with (first | (go_at_call 6; refine (holdPut_calls Pt Kt false gI AI cI l _ Z5.out.hI (Kd.R_reads' Z5.out.ri).2.2 (Kd.R_reads' Z5.out.ri).2.1 GG.out.1 (by have := GG.out; omega) (by have := GG.out; omega)).mono ?_; rw [← HL2.out]; rintro e w6 ha6; obtain ⟨A6, c6, rfl, hz6⟩ := Z5.out.hp ha6; have Z6 := Lib.hid hz6; clear ha6 hz6))
         go_wp2
         go_roundw
         case rel => exact ⟨kk + 1, _, _, _, _, _, _, _, _, _, by omega, by go_num, Z6, IV, Lib.hid ⟨LL2.out, by have := LN.out; have := GG.out; omega, by have := GG.out; omega⟩⟩
         case measure =>
          simp only [cntM]
          omega
        ·have dz : decide (t.f0 = 0) = false := by simpa using hz
         have dz2 : (t.f0 == 0) = false := by simpa using hz
         have wq : IntKind.i64.wrap ((Pt : Int) + (Kt : Int)) = (Pt : Int) + (Kt : Int) := IntWalk.i64_in _ (by have := GG.out; omega)
         obtain ⟨Qt, e6⟩ : ∃ p : Nat, (if (l.length : Int) < (Pt : Int) + (Kt : Int) then (l.length : Int) else (Pt : Int) + (Kt : Int)) = (p : Int) := by
          split
          ·exact ⟨_, rfl⟩
          ·exact ⟨Pt + Kt, by omega⟩
         have GQ := Lib.hid (show Pt ≤ Qt ∧ Qt ≤ l.length by have := GG.out; split at e6 <;> omega)
         clear hz
         go_upto_region 28 with (first | (go_at_call 7; refine (take_calls A1 c1 xs B1 dd1 ys (Pt : Int) (Qt : Int) mr _ (Kd.R_reads' ZW.out.rx).2.2 (Kd.R_reads' ZW.out.rx).2.1 (Kd.R_reads' ZW.out.ry).2.2 (Kd.R_reads' ZW.out.ry).2.1 (by have := GG.out; omega) (by have := GG.out; omega) (by have := GG.out; have := GQ.out; omega)).mono ?_; rintro e w4 ha; rw [takeW_eq (a := (Pt : Int)) (b := (Qt : Int)) (xs := xs) (by omega) (by have := GG.out; have := GQ.out; omega) (fun x hx => by have := ok_each IW.out.1 x hx; have := GG.out; omega)] at ha; obtain ⟨pl, hpl⟩ : ∃ p, p = takeL (Pt : Int) (Qt : Int) xs := ⟨_, rfl⟩; obtain ⟨nz, hnz⟩ : ∃ p, p = lastY (Pt : Int) mr (normY (ys.map (mvY (toW (Pt : Int) (Qt : Int))))) := ⟨_, rfl⟩; rw [← hpl, ← hnz] at ha; have HPL := Lib.hid hpl; have HNZ := Lib.hid hnz; obtain ⟨A4, c4, B4, d4, e4', m4, n4, hb4⟩ := ha; subst e4'; have M4 := Lib.hid m4; have N4 := Lib.hid n4; have Z4 := Lib.hid (ZW.out.next hb4); have u0 := (blk_cell Z4.out.h8 0).trans rfl; have u1 := (blk_cell Z4.out.h8 1).trans rfl; have z0 := blk_frozen Z4.out.h8 0; have z1 := blk_frozen Z4.out.h8 1; clear m4 n4 hb4 hpl hnz))
         refine gen2 (φ := fun W => Code.wp _ _ _ _ W) (P := fun W => HZ w g8 gI A4 c4 B4 d4 pl nz AI cI l W) (hz_marks Z4.out.b Z4.out.lo8 Z4.out.loI Z4.out.h8 rfl Z4.out.hI (Kd.R_lower M4.out ZW.out.b.size) (Kd.R_lower N4.out ZW.out.b.size) Z4.out.ri) ?_
         rintro V5 hV5
         have Z5 := Lib.hid hV5
         have IV := Lib.hid (InvH.take IW.out GQ.out.1 GQ.out.2)
         rw [← HPL.out] at IV
         have LN : Hid (nz.length ≤ ys.length + 1) := Lib.hid (by
          have h := normY_len (ys.map (mvY (toW (Pt : Int) (Qt : Int))))
          have h2 := lastY_len' (Pt : Int) mr (normY (ys.map (mvY (toW (Pt : Int) (Qt : Int)))))
          rw [← HNZ.out] at h2
          rw [List.length_map] at h
          omega)
         obtain ⟨l2, hl2⟩ : ∃ q, q = l.take Pt ++ l.drop Qt := ⟨_, rfl⟩
         rw [← hl2] at IV
         have HL2 := Lib.hid hl2
         have LL2 : Hid (l2.length ≤ 3060) := Lib.hid (by rw [hl2]; have := GG.out; simp; omega)
         have RI := Lib.hid Z5.out.ri
         obtain ⟨i3, hi3, hsz3⟩ := infoB2
         have hcut1 := cut_to (P := Try.prog) 35 4 .i64 Try.underlying35 hi3 AI l.length cI (Pt : Int) (by omega) (by have := GG.out; omega) (Kd.R_reads' RI.out).2.1
         have hcut2 := cut_from (P := Try.prog) 35 4 .i64 Try.underlying35 hi3 1 hsz3 AI l.length cI (Qt : Int) (by omega) (by have := GQ.out; omega)
         rw [Int.toNat_natCast] at hcut1 hcut2
         have hC1 := Lib.hid (Kd.C_take (m := Pt) (Kd.R_reads' RI.out).2.2 GG.out.1)
         have hC2 : Hid (Kd.C Kd.bool V5 (if cI = Qt then AI else AI.map (·.add (Qt * 1))) (l.drop Qt).length (l.drop Qt)) := Lib.hid (Kd.C_drop (c := cI) (m := Qt) (Kd.R_reads' RI.out).2.2 GQ.out.2 (Kd.R_reads' RI.out).2.1)
         have ee1 : (l.take Pt).length = Pt := by rw [List.length_take]; have := GG.out; omega
         have ee2 : (l.drop Qt).length = l.length - Qt := by rw [List.length_drop]
         rw [← ee2] at hcut2
         generalize (if cI = Qt then AI else AI.map (·.add (Qt * 1))) = A9 at hcut2 hC2
         replace hcut1 : ∀ W : World, (Instr.slice 35 (.slice AI l.length cI) none (some (.int .i64 (Pt : Int))) none).run Try.prog W = .ok (.slice AI (l.take Pt).length cI) W := by rw [ee1]; exact hcut1
         clear ee1 ee2 hi3 hsz3
         have LA : Hid ((l.take Pt).length ≤ 3060 ∧ (l.drop Qt).length ≤ 3060) := Lib.hid (by have := GG.out; simp; omega)
         generalize hlt1 : l.take Pt = la at hcut1 hC1 LA HL2
         generalize hld1 : l.drop Qt = ld at hcut2 hC2 LA HL2
         have sI5 := (blk_cell Z5.out.hI 0).trans rfl
         clear hV5 hl2 M4 N4 Z4 u0 u1 z0 z1 r0 r1 x0 x1 x2 x3 HPL HNZ e5 wr_ hlt1 hld1 sI RI
         refine wp_region_noPanic ?_
         refine wp_region_to (S := fun w' : World => w'.cell? ⟨gI, 0, none⟩ = some (.slice AI l.length cI)) 9 ?hm_g ?_
         case hm_g => kernel_rfl
         have hHeld_g : (fun w' : World => w'.cell? ⟨gI, 0, none⟩ = some (.slice AI l.length cI)) _ := pw_cell_below (w := V5) (by with_reducible repeat (first | exact Below.refl _ _ | apply pw_below_drewN | apply Below.drew)) sI5
         refine HeldTo.take (i := 1) (oi := ?og1) (v := ?vg1) ?hi_g1 ?k1_g1 ?kz_g1 (fun _ _ _ h => h) ?k2_g1 ?k3_g1 (Or.inl ⟨?g_g1, ?y_g1⟩) hHeld_g ?r_g1
         case hi_g1 => (simp only [List.getElem?_toArray, List.getElem?_cons_succ, List.getElem?_cons_zero]; rfl)
         case k1_g1 => kernel_rfl
         case kz_g1 => kernel_rfl
         case k2_g1 => kernel_rfl
         case k3_g1 => kernel_rfl
         case g_g1 => rfl
         case y_g1 => (intro w hSw; (try dsimp only at hSw); first | (go_simp; done) | (go_simp; with_reducible rfl))
         (try simp only [Act.put, List.setIfInBounds_toArray, List.set_cons_zero, List.set_cons_succ])
         refine HeldTo.take (i := 2) (oi := ?og2) (v := ?vg2) ?hi_g2 ?k1_g2 ?kz_g2 (fun _ _ _ h => h) ?k2_g2 ?k3_g2 (Or.inl ⟨?g_g2, ?y_g2⟩) hHeld_g ?r_g2
         case hi_g2 => (simp only [List.getElem?_toArray, List.getElem?_cons_succ, List.getElem?_cons_zero]; rfl)
         case k1_g2 => kernel_rfl
         case kz_g2 => kernel_rfl
         case k2_g2 => kernel_rfl
         case k3_g2 => kernel_rfl
         case g_g2 => rfl
         case y_g2 => (intro w hSw; (try dsimp only at hSw); first | (go_simp; done) | (go_simp; with_reducible rfl))
         (try simp only [Act.put, List.setIfInBounds_toArray, List.set_cons_zero, List.set_cons_succ])
         refine HeldTo.take (i := 3) (oi := ?og3) (v := ?vg3) ?hi_g3 ?k1_g3 ?kz_g3 (fun _ _ _ h => h) ?k2_g3 ?k3_g3 (Or.inl ⟨?g_g3, ?y_g3⟩) hHeld_g ?r_g3
         case hi_g3 => (simp only [List.getElem?_toArray, List.getElem?_cons_succ, List.getElem?_cons_zero]; rfl)
         case k1_g3 => kernel_rfl
         case kz_g3 => kernel_rfl
         case k2_g3 => kernel_rfl
         case k3_g3 => kernel_rfl
         case g_g3 => rfl
         case y_g3 => (intro w hSw; (try dsimp only at hSw); first | (go_simp; done) | (go_simp; with_reducible rfl))
         (try simp only [Act.put, List.setIfInBounds_toArray, List.set_cons_zero, List.set_cons_succ])
         refine HeldTo.take (i := 5) (oi := ?og5) (v := ?vg5) ?hi_g5 ?k1_g5 ?kz_g5 (fun _ _ _ h => h) ?k2_g5 ?k3_g5 (Or.inl ⟨?g_g5, ?y_g5⟩) hHeld_g ?r_g5
         case hi_g5 => (simp only [List.getElem?_toArray, List.getElem?_cons_succ, List.getElem?_cons_zero]; rfl)
         case k1_g5 => kernel_rfl
         case kz_g5 => kernel_rfl
         case k2_g5 => kernel_rfl
         case k3_g5 => kernel_rfl
         case g_g5 => rfl
         case y_g5 => (intro w hSw; (try dsimp only at hSw); first | (go_simp; done) | (go_simp; with_reducible rfl))
         (try simp only [Act.put, List.setIfInBounds_toArray, List.set_cons_zero, List.set_cons_succ])
         refine HeldTo.take (i := 6) (oi := ?og6) (v := ?vg6) ?hi_g6 ?k1_g6 ?kz_g6 (fun _ _ _ h => h) ?k2_g6 ?k3_g6 (Or.inl ⟨?g_g6, ?y_g6⟩) hHeld_g ?r_g6
         case hi_g6 => (simp only [List.getElem?_toArray, List.getElem?_cons_succ, List.getElem?_cons_zero]; rfl)
         case k1_g6 => kernel_rfl
         case kz_g6 => kernel_rfl
         case k2_g6 => kernel_rfl
         case k3_g6 => kernel_rfl
         case g_g6 => rfl
         case y_g6 => (intro w hSw; (try dsimp only at hSw); first | (go_simp; done) | (go_simp; with_reducible rfl))
         (try simp only [Act.put, List.setIfInBounds_toArray, List.set_cons_zero, List.set_cons_succ])
         refine HeldTo.take (i := 7) (oi := ?og7) (v := ?vg7) ?hi_g7 ?k1_g7 ?kz_g7 (fun _ _ _ h => h) ?k2_g7 ?k3_g7 (Or.inl ⟨?g_g7, ?y_g7⟩) hHeld_g ?r_g7
         case hi_g7 => (simp only [List.getElem?_toArray, List.getElem?_cons_succ, List.getElem?_cons_zero]; rfl)
         case k1_g7 => kernel_rfl
         case kz_g7 => kernel_rfl
         case k2_g7 => kernel_rfl
         case k3_g7 => kernel_rfl
         case g_g7 => rfl
         case y_g7 => (intro w hSw; (try dsimp only at hSw); first | (go_simp; done) | (go_simp; with_reducible rfl))
         (try simp only [Act.put, List.setIfInBounds_toArray, List.set_cons_zero, List.set_cons_succ])
         refine HeldTo.one (i := 0) (o := ?og0) ?k1_g0 ?hi_g0 (fun K hK => ?s_g0)
         case k1_g0 => kernel_rfl
         case hi_g0 => (simp only [List.getElem?_toArray, List.getElem?_cons_succ, List.getElem?_cons_zero]; rfl)
         (refine Kd.R_lit_step Kd.bool (w0 := V5) V5.heap.size 4 ?hw_l (N := 125) ?hd_l (xs := ([] : List Bool)) (inner := []) (ok := fun _ => True) (okp := fun _ => True) ?hr_l ?hp_l (fun _ h => h) trivial ?h3_l ?h4_l (by simp) ?_)
         (case hd_l => rfl); (case hw_l => rfl); (case hr_l => first | (go_simp; done) | (go_simp; rfl)); (case hp_l => exact Reps.none _ _)
         (case h3_l => exact (by with_reducible repeat (first | exact Below.refl _ _ | apply pw_below_drewN | apply Below.drew))); (case h4_l => exact (show Below V5.heap.size V5 _ from (by with_reducible repeat (first | exact Below.refl _ _ | apply pw_below_drewN | apply Below.drew))).size)
         intro vl wl hol hbl hgl hatl
         have Bl := Lib.hid hbl
         have ROl := Lib.hid hol
         clear hol hbl hgl hatl
         refine hK.out _ _ (Or.inr (pw_cell_below Bl.out sI5)) ?_
         clear hK K
         (try simp only [Act.put, List.setIfInBounds_toArray, List.set_cons_zero, List.set_cons_succ])
         refine HeldTo.one (i := 4) (o := ?og4) ?k1_g4 ?hi_g4 (fun K hK => ?s_g4)
         case k1_g4 => kernel_rfl
         case hi_g4 => (simp only [List.getElem?_toArray, List.getElem?_cons_succ, List.getElem?_cons_zero]; rfl)
         (refine Kd.R_append_rows_step Kd.bool (w0 := V5) V5.heap.size ?hw_p (.tmp 125) (.tmp 128) 35 4 (.bool false) 1 ?ho_p Try.underlying35 infoB rfl (by decide) (by decide) _ ([] : List Bool) la AI la.length _ (fun _ => True) (fun _ => False) rfl rfl ?h1_p ?h2_p (fun x cs h => h) (fun _ h => h.elim) (fun _ _ => trivial) ?h3_p ?h4_p ?h5_p ?_)
         (case ho_p => rfl); (case hw_p => rfl)
         (case h1_p => exact ROl.out); (case h2_p => exact Kd.C_below hC1.out Bl.out); (case h3_p => exact Bl.out); (case h4_p => exact Bl.out.size); (case h5_p => have := LA.out; simp; omega)
         intro vp wp hop hbp hgp hatp
         have Bp := Lib.hid hbp
         have ROp := Lib.hid hop
         clear hop hbp hgp hatp
         refine hK.out _ _ (Or.inr (pw_cell_below Bp.out sI5)) ?_
         clear hK K
         (try simp only [Act.put, List.setIfInBounds_toArray, List.set_cons_zero, List.set_cons_succ])
         refine HeldTo.one (i := 8) (o := ?og8) ?k1_g8 ?hi_g8 (fun K hK => ?s_g8)
         case k1_g8 => kernel_rfl
         case hi_g8 => (simp only [List.getElem?_toArray, List.getElem?_cons_succ, List.getElem?_cons_zero]; rfl)
         (refine Kd.R_append_rows_step Kd.bool (w0 := V5) V5.heap.size ?hw_q (.tmp 129) (.tmp 132) 35 4 (.bool false) 1 ?ho_q Try.underlying35 infoB rfl (by decide) (by decide) _ ([] ++ la) ld A9 ld.length _ (fun _ => True) (fun _ => False) rfl rfl ?h1_q ?h2_q (fun x cs h => h) (fun _ h => h.elim) (fun _ _ => trivial) ?h3_q ?h4_q ?h5_q ?_)
         (case ho_q => rfl); (case hw_q => rfl)
         (case h1_q => exact ROp.out); (case h2_q => exact Kd.C_below hC2.out Bp.out); (case h3_q => exact Bp.out); (case h4_q => exact Bp.out.size); (case h5_q => have := LA.out; simp; omega)
         intro vq wq hoq hbq hgq hatq
         have Bq := Lib.hid hbq
         have ROq := Lib.hid hoq
         clear hoq hbq hgq hatq
         refine hK.out _ _ (Or.inr (pw_cell_below Bq.out sI5)) ?_
         clear hK K
         (try simp only [Act.put, List.setIfInBounds_toArray, List.set_cons_zero, List.set_cons_succ])
         refine HeldTo.one (i := 9) (o := ?og9) ?k1_g9 ?hi_g9 (fun K hK => ?s_g9)
         case k1_g9 => kernel_rfl
         case hi_g9 => (simp only [List.getElem?_toArray, List.getElem?_cons_succ, List.getElem?_cons_zero]; rfl)
         rw [List.nil_append, ← HL2.out] at ROq
         obtain ⟨AF, cF, eF⟩ := Kd.R_slice ROq.out
         subst eF
         have tq := (blk_cell (blk_below Z5.out.hI Bq.out) 0).trans rfl
         have zq := blk_frozen (blk_below Z5.out.hI Bq.out) 0
         go_simp
         refine hK.out _ _ (Or.inl rfl) ?_
         clear hK K
         (try simp only [Act.put, List.setIfInBounds_toArray, List.set_cons_zero, List.set_cons_succ])
         refine HeldTo.done (by kernel_rfl) ?_ _
         refine NoPanic.normal ?_
         have Z6 := Lib.hid ((Z5.out.next Bq.out).lay (Kd.R_lower ROq.out Z5.out.b.size))
         clear tq zq sI5 hHeld_g
         refine gen2 (φ := fun W => Exit.inBlock _ _ Exit.normal _ W) (P := fun W => HZ w g8 gI A4 c4 B4 d4 pl nz AF cF l2 W) Z6.out ?_
         rintro V7 hV7
         clear Z6
         have Z6 := Lib.hid hV7
         clear hV7
         go_wp2
         go_roundw
         case rel => exact ⟨kk + 1, _, _, _, _, _, _, _, _, _, by omega, by go_num, Z6, IV, Lib.hid ⟨LL2.out, by have := LN.out; have := GG.out; omega, by have := GG.out; omega⟩⟩
         case measure =>
          simp only [cntM]
          omega
     ·have d1 : decide ((kk : Int) < (ts.length : Int)) = false := by simp; omega
      have sI := (blk_cell ZW.out.hI 0).trans rfl
      generalize wr = WM at ZW sI ⊢
      obtain ⟨ko, hko⟩ := Go.Proofs.YtdgjjdpeaohebabW.PrintWords.Ev.rounds (marks_Of_ev xs ys mine (by have := IW.out.len; have := LW.out; omega) (by have := LW.out; omega))
      obtain ⟨ls, hls⟩ : ∃ q, q = ofSpans xs mine := ⟨_, rfl⟩
      obtain ⟨ps, hps⟩ : ∃ q, q = ofSites ys mine := ⟨_, rfl⟩
      rw [← hls, ← hps] at hko
      have KO := Lib.hid hko
      have HFL := Lib.hid (show rowB l.length (covB ls) = l by rw [hls]; exact IW.out.fill)
      have HLS := Lib.hid (show ∀ x ∈ ls, 0 ≤ x.f1 ∧ x.f1 < x.f2 ∧ x.f2 ≤ (l.length : Int) from fun x hx => by
       rw [hls] at hx
       have := ok_each IW.out.1 x (List.mem_filter.1 hx).1
       omega)
      have LLS := Lib.hid (show ls.length ≤ 3060 by
       have h1 : ls.length ≤ xs.length := by rw [hls]; exact List.length_filter_le _ _
       have := IW.out.len
       have := LW.out
       omega)
      clear hko hls hps
      go_upto_region 31 with (first | ((with_reducible refine gate_dst (N := 137) rfl ?_); refine Kd.R_make Kd.bool (w0 := WM) WM.heap.size 4 rfl (N := 137) rfl 35 _ _ rfl (l.length : Int) rfl rfl Try.underlying35 (.bool false) 1 infoB rfl (by decide) (by decide) false (ok := fun _ => True) (okp := fun _ => True) rfl (fun _ h => h) trivial (by omega) (by have := LW.out; rw [Int.toNat_natCast]; omega) (Below.refl _ _) (Nat.le_refl _) ?_; intro vG wG hoG hbG hgG_ hnG_; rw [Int.toNat_natCast] at hoG; obtain ⟨AG, cG, eG⟩ := Kd.R_slice hoG; rw [List.length_replicate] at eG; subst eG; rw [rowB_none] at hoG; have RG := Lib.hid hoG; have BG := Lib.hid hbG; have t0 := (blk_cell (blk_below ZW.out.h8 hbG) 0).trans rfl; have t1 := (blk_cell (blk_below ZW.out.h8 hbG) 1).trans rfl; clear hoG hbG hgG_ hnG_))
      go_upto_region 32 with (first | (go_at_call 8; refine (marks_Of.calls ko A1 c1 xs B1 dd1 ys mine ls ps _ (Kd.C_below (Kd.R_reads' ZW.out.rx).2.2 BG.out) (Kd.R_reads' ZW.out.rx).2.1 (Kd.C_below (Kd.R_reads' ZW.out.ry).2.2 BG.out) (Kd.R_reads' ZW.out.ry).2.1 KO.out).mono ?_; rintro e wO ⟨v0, v1, rfl, o0, o1, hbO⟩; obtain ⟨AL, cL, eL⟩ := Kd.R_slice o0; obtain ⟨AP, cP, eP⟩ := Kd.R_slice o1; subst eL; subst eP; have G0 := Lib.hid (show GZ WM AG l.length cG (rowB l.length (covB (ls.take 0))) AL cL ls wO from ⟨below_step BG.out hbO, Kd.R_below RG.out hbO, Kd.R_lower o0 BG.out.size⟩); clear o0 o1 hbO))
      clear t0 t1 sI
      go_wp2
      go_loopw [145] (fun s145 w2 => ∃ jj : Nat, jj ≤ ls.length ∧ s145 = .int .i64 (jj : Int) ∧ Hid (GZ WM AG l.length cG (rowB l.length (covB (ls.take jj))) AL cL ls w2)) (fun s145 _ => ls.length - cntM s145)
      case atStart => exact ⟨0, Nat.zero_le _, rfl, G0⟩
      case round =>
       clear G0 RG BG KO
       obtain ⟨jj, hjj, rfl, GW⟩ := hrel
       by_cases hjl : jj < ls.length
       ·have j1 : decide ((jj : Int) < (ls.length : Int)) = true := by simp; omega
        have j2 : (0 : Int) ≤ (jj : Int) := by omega
        have j3 : (jj : Int) < (ls.length : Int) := by omega
        have wj_ : IntKind.i64.wrap ((jj : Int) + 1) = (jj : Int) + 1 := IntWalk.i64_in _ (by have := LLS.out; omega)
        obtain ⟨x, hx⟩ : ∃ x, ls[jj]? = some x := ⟨_, List.getElem?_eq_getElem hjl⟩
        have HXX := Lib.hid hx
        have FX := Lib.hid (HLS.out x (List.mem_of_getElem? hx))
        obtain ⟨ad2, e0', y0, y1, y2⟩ := at_S (Kd.R_reads' GW.out.rl).2.2 hx hjl
        subst e0'
        clear hx
        go_upto_region 35 with (first | ((with_reducible refine gate_dst (N := 24) rfl ?_); refine box_event ?hg (N := 24) ?hd (cs := #[.int .i64 0, .int .i64 0, .int .i64 0]) (t := 34) ?hr ?_; (case hd => rfl); (case hg => rfl); (case hr => first | (go_simp; done) | (go_simp; rfl)); intro gT hgT wT hxT hbT; have GT := Lib.hid (show TBm 34 wr gT #[.int .i64 0, .int .i64 0, .int .i64 0] wT from ⟨hbT, by rw [hgT]; exact Nat.le_refl _, hxT⟩); have q0 := (blk_cell hxT 0).trans rfl; have q1 := (blk_cell hxT 1).trans rfl; have q2 := (blk_cell hxT 2).trans rfl; have z0 := blk_frozen hxT 0; have z1 := blk_frozen hxT 1; have z2 := blk_frozen hxT 2; clear hgT hxT hbT))
        refine gen2 (φ := fun W => Code.wp _ _ _ _ W) (P := fun W => TBm 34 wr gT #[.int .i64 x.f0, .int .i64 x.f1, .int .i64 x.f2] W) (((GT.out.set 0 (.int .i64 x.f0)).set 1 (.int .i64 x.f1)).set 2 (.int .i64 x.f2)) ?_
        clear q0 q1 q2 z0 z1 z2 GT y0 y1 y2
        rintro V3 hV3
        have GV := Lib.hid (GW.out.next hV3.b)
        have HT3 := Lib.hid hV3.hx
        have t1 := (blk_cell hV3.hx 1).trans rfl
        have t2 := (blk_cell hV3.hx 2).trans rfl
        clear hV3 GW
        have dx1 : decide (x.f1 < 0) = false := by have := FX.out; simp; omega
        have dx2 : decide ((l.length : Int) < x.f2) = false := by have := FX.out; simp; omega
        have nx1 : ¬ x.f1 < 0 := by have := FX.out; omega
        have nx2 : ¬ (l.length : Int) < x.f2 := by have := FX.out; omega
        go_wp2
        clear t1 t2 dx1 dx2 nx1 nx2
        go_loopw [25] (fun s25 w3 => ∃ i : Nat, x.f1 ≤ (i : Int) ∧ (i : Int) ≤ x.f2 ∧ s25 = .int .i64 (i : Int) ∧ Hid (GZ WM AG l.length cG (rowB l.length (fillB ls jj x (i : Int))) (some ad2) cL ls w3) ∧ Hid (w3.heap[gT]? = some (.cells #[.int .i64 x.f0, .int .i64 x.f1, .int .i64 x.f2] 34 (0, 0)))) (fun s25 _ => x.f2.toNat - cntM s25)
        case atStart =>
         have h0 : ((x.f1.toNat : Nat) : Int) = x.f1 := Int.toNat_of_nonneg FX.out.1
         exact ⟨x.f1.toNat, by omega, by have := FX.out; omega, by rw [h0], by rw [h0, ← fillB_first]; exact GV, HT3⟩
        case round =>
         clear GV HT3
         obtain ⟨i, hi1, hi2, rfl, GI, HT3⟩ := hrel
         have t2 := (blk_cell HT3.out 2).trans rfl
         by_cases hil : (i : Int) < x.f2
         ·have di : decide ((i : Int) < x.f2) = true := by simpa using hil
          have i1 : (0 : Int) ≤ (i : Int) := by omega
          have i2 : (i : Int) < (l.length : Int) := by have := FX.out; omega
          have wi_ : IntKind.i64.wrap ((i : Int) + 1) = (i : Int) + 1 := IntWalk.i64_in _ (by have := LW.out; omega)
          have i3 : i < l.length := by omega
          obtain ⟨gG, cells, eG, hbG, hxG⟩ := GI.out.form (by omega)
          subst eG
          have HXG := Lib.hid hxG
          obtain ⟨v, hv⟩ : ∃ v, (rowB l.length (fillB ls jj x (i : Int)))[i]? = some v := ⟨_, List.getElem?_eq_getElem (by rw [rowB_len]; omega)⟩
          obtain ⟨ad3, e3', c3'⟩ := at_B (Kd.R_reads' GI.out.row).2.2 hv (by rw [rowB_len]; exact i3)
          injection e3' with e3'
          subst e3'
          rw [addB] at c3'
          have zi := blk_frozen hxG i
          clear hv hbG hxG
          go_upto_region 39 with fail
          refine gen2 (φ := fun W => Code.wp _ _ _ _ W) (P := fun W => GZ WM (some ⟨gG, 0, none⟩) l.length cG (rowB l.length (fillB ls jj x ((i + 1 : Nat) : Int))) (some ad2) cL ls W ∧ W.heap[gT]? = some (.cells #[.int .i64 x.f0, .int .i64 x.f1, .int .i64 x.f2] 34 (0, 0))) ⟨by rw [← fillB_next hi1 i3]; exact GI.out.put i3, (set_typeM HXG.out (t := 34) (by decide) i _ _ _ HT3.out).trans HT3.out⟩ ?_
          rintro V4 ⟨hV4, hT4⟩
          have GI4 := Lib.hid hV4
          have HT4 := Lib.hid hT4
          clear hV4 hT4 c3' zi t2
          go_wp2
          go_roundw
          case rel => exact ⟨i + 1, by omega, by omega, by go_num, GI4, HT4⟩
          case measure =>
           simp only [cntM]
           omega
         ·have di : decide ((i : Int) < x.f2) = false := by simpa using hil
          have ei : (i : Int) = x.f2 := by omega
          have GN := Lib.hid (show GZ WM AG l.length cG (rowB l.length (covB (ls.take (jj + 1)))) (some ad2) cL ls wr by rw [← fillB_last HXX.out, ← ei]; exact GI.out)
          clear ei GI
          go_wp2
          go_roundw
          case rel => exact ⟨jj + 1, by omega, by go_num, GN⟩
          case measure =>
           simp only [cntM]
           omega
       ·have j1 : decide ((jj : Int) < (ls.length : Int)) = false := by simp; omega
        obtain rfl : jj = ls.length := by omega
        have GE := Lib.hid (show GZ WM AG l.length cG l AL cL ls wr by have h := GW.out; rw [List.take_length, HFL.out] at h; exact h)
        have sI := (blk_cell (blk_below ZW.out.hI GE.out.b) 0).trans rfl
        clear GW HFL
        go_wp2
        clear sI j1 hjj hjl
        have GE0 := Lib.hid (show ∀ W2, Below wr.heap.size wr W2 → GZ WM AG l.length cG l AL cL ls W2 from fun W2 hb => GE.out.next hb)
        go_loopw [173] (fun s173 w2 => ∃ jj : Nat, jj ≤ l.length ∧ s173 = .int .i64 (jj : Int) ∧ Hid (GZ WM AG l.length cG l AL cL ls w2)) (fun s173 _ => l.length - cntM s173)
        case atStart => exact ⟨0, Nat.zero_le _, rfl, GE⟩
        case round =>
         clear GE GE0
         obtain ⟨jj, hjj, rfl, GE⟩ := hrel
         by_cases hjl : jj < l.length
         ·have j1 : decide ((jj : Int) < (l.length : Int)) = true := by simp; omega
          have j2 : (0 : Int) ≤ (jj : Int) := by omega
          have j3 : (jj : Int) < (l.length : Int) := by omega
          have wj_ : IntKind.i64.wrap ((jj : Int) + 1) = (jj : Int) + 1 := IntWalk.i64_in _ (by have := LW.out; omega)
          obtain ⟨v, hv⟩ : ∃ v, l[jj]? = some v := ⟨_, List.getElem?_eq_getElem hjl⟩
          obtain ⟨aI, eI, cI'⟩ := at_B (Kd.R_reads' (ZW.out.next GE.out.b).ri).2.2 hv hjl
          obtain ⟨aG, eG, cG'⟩ := at_B (Kd.R_reads' GE.out.row).2.2 hv hjl
          have sI := (blk_cell (blk_below ZW.out.hI GE.out.b) 0).trans rfl
          subst eI
          subst eG
          clear hv
          go_upto_region 45 with fail
          refine wp_region_noPanic ?_
          refine wp_region_held_drew (S := (fun w' : World => w'.cell? ⟨gI, 0, none⟩ = some (.slice (some aI) l.length cI) ∧ w'.cell? (aI.add jj) = some (.bool v) ∧ w'.cell? (aG.add jj) = some (.bool v))) ?hm_hc ?hS_hc (fun hHeld => ?_)
          case hm_hc => kernel_rfl
          case hS_hc => exact ⟨pw_cell_below (w := wr) (by with_reducible repeat (first | exact Below.refl _ _ | apply pw_below_drewN | apply Below.drew)) sI, pw_cell_below (w := wr) (by with_reducible repeat (first | exact Below.refl _ _ | apply pw_below_drewN | apply Below.drew)) cI', pw_cell_below (w := wr) (by with_reducible repeat (first | exact Below.refl _ _ | apply pw_below_drewN | apply Below.drew)) cG'⟩
          refine wpAnyH_take (i := 0) (oi := ?ohc0) (v := ?vhc0) ?hi_hc0 ?k1_hc0 ?k2_hc0 ?k3_hc0 (fun _ _ _ h => h) (Or.inl ⟨?g_hc0, ?y_hc0⟩) (by assumption) ?r_hc0
          case hi_hc0 => (simp only [List.getElem?_toArray, List.getElem?_cons_succ, List.getElem?_cons_zero]; rfl)
          case k1_hc0 => kernel_rfl
          case k2_hc0 => kernel_rfl
          case k3_hc0 => kernel_rfl
          case g_hc0 => rfl
          case y_hc0 => (intro w hSw; (try dsimp only at hSw); first | (go_simp; done) | (go_simp; with_reducible rfl))
          (try simp only [Act.put, List.setIfInBounds_toArray, List.set_cons_zero, List.set_cons_succ])
          refine wpAnyH_take (i := 1) (oi := ?ohc1) (v := ?vhc1) ?hi_hc1 ?k1_hc1 ?k2_hc1 ?k3_hc1 (fun _ _ _ h => h) (Or.inl ⟨?g_hc1, ?y_hc1⟩) (by assumption) ?r_hc1
          case hi_hc1 => (simp only [List.getElem?_toArray, List.getElem?_cons_succ, List.getElem?_cons_zero]; rfl)
          case k1_hc1 => kernel_rfl
          case k2_hc1 => kernel_rfl
          case k3_hc1 => kernel_rfl
          case g_hc1 => rfl
          case y_hc1 => (intro w hSw; (try dsimp only at hSw); first | (go_simp; done) | (go_simp; with_reducible rfl))
          (try simp only [Act.put, List.setIfInBounds_toArray, List.set_cons_zero, List.set_cons_succ])
          refine wpAnyH_take (i := 2) (oi := ?ohc2) (v := ?vhc2) ?hi_hc2 ?k1_hc2 ?k2_hc2 ?k3_hc2 (fun _ _ _ h => h) (Or.inl ⟨?g_hc2, ?y_hc2⟩) (by assumption) ?r_hc2
          case hi_hc2 => (simp only [List.getElem?_toArray, List.getElem?_cons_succ, List.getElem?_cons_zero]; rfl)
          case k1_hc2 => kernel_rfl
          case k2_hc2 => kernel_rfl
          case k3_hc2 => kernel_rfl
          case g_hc2 => rfl
          case y_hc2 => (intro w hSw; (try dsimp only at hSw); first | (go_simp; done) | (go_simp; with_reducible rfl))
          (try simp only [Act.put, List.setIfInBounds_toArray, List.set_cons_zero, List.set_cons_succ])
          refine wpAnyH_take (i := 3) (oi := ?ohc3) (v := ?vhc3) ?hi_hc3 ?k1_hc3 ?k2_hc3 ?k3_hc3 (fun _ _ _ h => h) (Or.inl ⟨?g_hc3, ?y_hc3⟩) (by assumption) ?r_hc3
          case hi_hc3 => (simp only [List.getElem?_toArray, List.getElem?_cons_succ, List.getElem?_cons_zero]; rfl)
          case k1_hc3 => kernel_rfl
          case k2_hc3 => kernel_rfl
          case k3_hc3 => kernel_rfl
          case g_hc3 => rfl
          case y_hc3 => (intro w hSw; (try dsimp only at hSw); first | (go_simp; done) | (go_simp; with_reducible rfl))
          (try simp only [Act.put, List.setIfInBounds_toArray, List.set_cons_zero, List.set_cons_succ])
          refine wpAnyH_take (i := 4) (oi := ?ohc4) (v := ?vhc4) ?hi_hc4 ?k1_hc4 ?k2_hc4 ?k3_hc4 (fun _ _ _ h => h) (Or.inl ⟨?g_hc4, ?y_hc4⟩) (by assumption) ?r_hc4
          case hi_hc4 => (simp only [List.getElem?_toArray, List.getElem?_cons_succ, List.getElem?_cons_zero]; rfl)
          case k1_hc4 => kernel_rfl
          case k2_hc4 => kernel_rfl
          case k3_hc4 => kernel_rfl
          case g_hc4 => rfl
          case y_hc4 => (intro w hSw; (try dsimp only at hSw); first | (go_simp; done) | (go_simp; with_reducible rfl))
          (try simp only [Act.put, List.setIfInBounds_toArray, List.set_cons_zero, List.set_cons_succ])
          refine wpAnyH_take (i := 5) (oi := ?ohc5) (v := ?vhc5) ?hi_hc5 ?k1_hc5 ?k2_hc5 ?k3_hc5 (fun _ _ _ h => h) (Or.inl ⟨?g_hc5, ?y_hc5⟩) (by assumption) ?r_hc5
          case hi_hc5 => (simp only [List.getElem?_toArray, List.getElem?_cons_succ, List.getElem?_cons_zero]; rfl)
          case k1_hc5 => kernel_rfl
          case k2_hc5 => kernel_rfl
          case k3_hc5 => kernel_rfl
          case g_hc5 => rfl
          case y_hc5 => (intro w hSw; (try dsimp only at hSw); first | (go_simp; done) | (go_simp; with_reducible rfl))
          (try simp only [Act.put, List.setIfInBounds_toArray, List.set_cons_zero, List.set_cons_succ])
          refine wpAnyH_take (i := 6) (oi := ?ohc6) (v := ?vhc6) ?hi_hc6 ?k1_hc6 ?k2_hc6 ?k3_hc6 (fun _ _ _ h => h) (Or.inl ⟨?g_hc6, ?y_hc6⟩) (by assumption) ?r_hc6
          case hi_hc6 => (simp only [List.getElem?_toArray, List.getElem?_cons_succ, List.getElem?_cons_zero]; rfl)
          case k1_hc6 => kernel_rfl
          case k2_hc6 => kernel_rfl
          case k3_hc6 => kernel_rfl
          case g_hc6 => rfl
          case y_hc6 => (intro w hSw; (try dsimp only at hSw); first | (go_simp; done) | (go_simp; with_reducible rfl))
          (try simp only [Act.put, List.setIfInBounds_toArray, List.set_cons_zero, List.set_cons_succ])
          refine wpAnyH_take (i := 7) (oi := ?ohc7) (v := ?vhc7) ?hi_hc7 ?k1_hc7 ?k2_hc7 ?k3_hc7 (fun _ _ _ h => h) (Or.inl ⟨?g_hc7, ?y_hc7⟩) (by assumption) ?r_hc7
          case hi_hc7 => (simp only [List.getElem?_toArray, List.getElem?_cons_succ, List.getElem?_cons_zero]; rfl)
          case k1_hc7 => kernel_rfl
          case k2_hc7 => kernel_rfl
          case k3_hc7 => kernel_rfl
          case g_hc7 => rfl
          case y_hc7 => (intro w hSw; (try dsimp only at hSw); first | (go_simp; done) | (go_simp; with_reducible rfl))
          (try simp only [Act.put, List.setIfInBounds_toArray, List.set_cons_zero, List.set_cons_succ])
          refine wpAnyH_take (i := 8) (oi := ?ohc8) (v := ?vhc8) ?hi_hc8 ?k1_hc8 ?k2_hc8 ?k3_hc8 (fun _ _ _ h => h) (Or.inl ⟨?g_hc8, ?y_hc8⟩) (by assumption) ?r_hc8
          case hi_hc8 => (simp only [List.getElem?_toArray, List.getElem?_cons_succ, List.getElem?_cons_zero]; rfl)
          case k1_hc8 => kernel_rfl
          case k2_hc8 => kernel_rfl
          case k3_hc8 => kernel_rfl
          case g_hc8 => rfl
          case y_hc8 => (intro w hSw; (try dsimp only at hSw); first | (go_simp; done) | (go_simp; with_reducible rfl))
          (try simp only [Act.put, List.setIfInBounds_toArray, List.set_cons_zero, List.set_cons_succ])
          refine wpAnyH_done (by kernel_rfl) ?_ _
          refine NoPanic.normal ?_
          go_wp2
          go_roundw
          case rel => exact ⟨jj + 1, by omega, by go_num, Lib.hid (GE.out.next (by with_reducible repeat (first | exact Below.refl _ _ | apply pw_below_drewN | apply Below.drew)))⟩
          case measure =>
           simp only [cntM]
           omega
         ·have j1 : decide ((jj : Int) < (l.length : Int)) = false := by simp; omega
          go_wp2
          go_ret
          exact ⟨rfl, below_step ZW.out.b GE.out.b⟩
end Go.Proofs.Ytdgjjdpeaohebab.Mk
/- Marks: the law MarksHolds's contract in the printed shape, for its row. Conditions: none beside the row's. -/
namespace Go.Proofs.Ytdgjjdpeaohebab.PMarksHolds
open Go.RowKit Go.Proofs.YtdgjjdpeaohebabW.PrintWords Go.Proofs.YtdgjjdpeaohebabW.PrintLast Go.Proofs.YtdgjjdpeaohebabW.PrintMore
set_option linter.unusedVariables false
def chancellaw04_MarksHolds.f (k : Nat) (l0_0 : List (S34)) (l0_1 : List (S48)) (a0_2 : Int) (a0_3 : Int) (a0_4 : Int) (a1 : Int) (l2 : List (S38)) : Option (Bool) := if l0_0.length ≤ 8796093022208 ∧ l0_1.length ≤ 8796093022208 ∧ l2.length ≤ 8796093022208 then some true else none
theorem chancellaw04_MarksHolds.calls (k : Nat) (A0_0 : Option Addr) (c0_0 : Nat) (l0_0 : List (S34)) (A0_1 : Option Addr) (c0_1 : Nat) (l0_1 : List (S48)) (a0_2 : Int) (a0_3 : Int) (a0_4 : Int) (a1 : Int) (A2 : Option Addr) (c2 : Nat) (l2 : List (S38)) (r : Bool) (w : World) (hr0_0 : Kd.C k34 w A0_0 l0_0.length l0_0) (hc0_0 : l0_0.length ≤ c0_0) (hr0_1 : Kd.C k48 w A0_1 l0_1.length l0_1) (hc0_1 : l0_1.length ≤ c0_1) (hr2 : Kd.C k38 w A2 l2.length l2) (hc2 : l2.length ≤ c2) (h : chancellaw04_MarksHolds.f k l0_0 l0_1 a0_2 a0_3 a0_4 a1 l2 = some r) :
  Calls Try.prog 3 #[.agg #[.slice A0_0 l0_0.length c0_0, .slice A0_1 l0_1.length c0_1, .int .i64 a0_2, .int .i64 a0_3, .int .i64 a0_4], .int .i64 a1, .slice A2 l2.length c2] w fun e w' => e = .returned (.bool r) ∧ Below w.heap.size w w' := by
 unfold chancellaw04_MarksHolds.f at h
 split at h
 ·next hl =>
  injection h with h
  subst h
  exact Go.Proofs.Ytdgjjdpeaohebab.Mk.marksHolds_walk A0_0 c0_0 l0_0 A0_1 c0_1 l0_1 a0_2 a0_3 a0_4 a1 A2 c2 l2 w hr0_0 hc0_0 hr0_1 hc0_1 hr2 hc2 hl.1 hl.2.1 hl.2.2
 ·cases h
end Go.Proofs.Ytdgjjdpeaohebab.PMarksHolds
