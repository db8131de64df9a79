/- Marks and segments: the walks of Of and Has. Conditions: at most 2^40 spans and sites. -/
import Derived.Test.YtkkjebjlgcggcaaDoorGF
import Derived.Test.YtkkjebjlgcggcaaDoorOwn
namespace Go.Proofs.YtkkjebjlgcggcaaDoor.Seg
open Go.RowKit Go.Proofs.YtkkjebjlgcggcaaDoorPl Go.Maps Go.Proofs.YtkkjebjlgcggcaaDoorW.PrintWords Go.Proofs.YtkkjebjlgcggcaaDoorW.PrintLast Go.Proofs.YtkkjebjlgcggcaaDoorW.PrintMore Go.Proofs.YtkkjebjlgcggcaaDoor.Rope Go.Proofs.YtkkjebjlgcggcaaDoor.PSheetForks Go.Proofs.YtkkjebjlgcggcaaDoor.Pure
set_option linter.unusedVariables false
set_option linter.unusedSimpArgs false
theorem filt_yes {α : Type} {l : List α} {q : α → Bool} {j : Nat} {x : α} (h : l[j]? = some x) (hq : q x = true) : (l.take (j + 1)).filter q = (l.take j).filter q ++ [x] := by
 rw [takeS h, List.filter_append]
 simp [hq]
theorem filt_no {α : Type} {l : List α} {q : α → Bool} {j : Nat} {x : α} (h : l[j]? = some x) (hq : q x = false) : (l.take (j + 1)).filter q = (l.take j).filter q := by
 rw [takeS h, List.filter_append]
 simp [hq]
theorem filt_le {α : Type} (l : List α) (q : α → Bool) (j : Nat) : ((l.take j).filter q).length ≤ l.length := Nat.le_trans (List.length_filter_le _ _) (by rw [List.length_take]; omega)
def spansOf (l : List S83) (m : Int) : List S83 := l.filter fun x => decide (x.f0 = m)
def sitesOf (l : List S86) (m : Int) : List S86 := l.filter fun x => decide (x.f0 = m)
theorem at_S3 {w : World} {A : Option Addr} {n : Nat} {xs : List S83} (h : Kd.C kS w A n xs) {j : Nat} {x : S83} (hx : xs[j]? = some x) (hj : j < n) : ∃ ad, A = some ad ∧ w.cell? (ad.add (j * 3)) = some (.int .i64 x.f0) ∧ w.cell? ⟨(ad.add (j * 3)).block, (ad.add (j * 3)).off + 1, none⟩ = some (.int .i64 x.f1) ∧ w.cell? ⟨(ad.add (j * 3)).block, (ad.add (j * 3)).off + 2, none⟩ = some (.int .i64 x.f2) := by
 obtain ⟨ad, e, h0, h1, h2⟩ := at_T83 h (j : Int) (by omega) (by omega)
 have er : rd_T83 xs (j : Int) = x := by unfold rd_T83; rw [Int.toNat_natCast, List.getD_eq_getElem?_getD, hx]; rfl
 rw [Int.toNat_natCast, er] at h0 h1 h2
 exact ⟨ad, e, h0, h1, h2⟩
theorem at_Y2 {w : World} {A : Option Addr} {n : Nat} {xs : List S86} (h : Kd.C kY w A n xs) {j : Nat} {x : S86} (hx : xs[j]? = some x) (hj : j < n) : ∃ ad, A = some ad ∧ w.cell? (ad.add (j * 2)) = some (.int .i64 x.f0) ∧ w.cell? ⟨(ad.add (j * 2)).block, (ad.add (j * 2)).off + 1, none⟩ = some (.int .i64 x.f1) := by
 obtain ⟨ad, e, h0, h1⟩ := at_T86 h (j : Int) (by omega) (by omega)
 have er : rd_T86 xs (j : Int) = x := by unfold rd_T86; rw [Int.toNat_natCast, List.getD_eq_getElem?_getD, hx]; rfl
 rw [Int.toNat_natCast, er] at h0 h1
 exact ⟨ad, e, h0, h1⟩
set_option maxRecDepth 1000000 in
set_option maxHeartbeats 8000000 in
theorem marksOf_calls (x : G) (A : Option Addr) (c : Nat) (B : Option Addr) (d : Nat) (m : Int) (w : World) (hr : GR w x A c B d) (h : Sz x) :
  Calls Tryd.prog 68 #[.agg #[.slice A x.f3.length c, .slice B x.f4.length d], .int .i64 m] w fun e w' => ∃ A1 c1 A2 c2, e = .returned (.tuple #[.slice A1 (spansOf x.f3 m).length c1, .slice A2 (sitesOf x.f4 m).length c2]) ∧ Below w.heap.size w w' := by
 have HR := Lib.hid hr
 have HZ := Lib.hid h
 have hl3 : x.f3.length ≤ 1099511627776 := by have := h.s3; omega
 have hl4 : x.f4.length ≤ 1099511627776 := by have := h.s4; omega
 clear hr h
 go_enter Tryd.func68, Tryd.ntmps68
 go_upto_region 3 with (first | ((with_reducible refine gate_dst (N := 2) rfl ?_); refine box_event ?hg (N := 2) ?hd (cs := #[.slice A x.f3.length c, .slice B x.f4.length d]) (t := 43) ?hr ?_; (case hd => rfl); (case hg => rfl); (case hr => first | (go_simp; done) | (go_simp; rfl)); intro gX hgX wX hxX hbX; have BX := Lib.hid hbX; have XX := Lib.hid hxX; clear hgX hxX hbX))
 have x0 := (blk_cell XX.out 0).trans rfl
 have L0 := Lib.hid (Kd.R_nil kS 83 wX w.heap.size (fun _ => True))
 go_wp2
 clear x0
 go_loopw [15, 6] (fun s15 s6 wr => ∃ (kk : Nat) (v : Value), kk ≤ x.f3.length ∧ s15 = .int .i64 (kk : Int) ∧ v = s6 ∧ Hid (Below wX.heap.size wX wr) ∧ Hid (Kd.R kS 83 wr wX.heap.size (fun _ => True) v ((x.f3.take kk).filter fun y => decide (y.f0 = m)))) (fun s15 _ _ => x.f3.length - cntV s15)
 case atStart => exact ⟨0, _, Nat.zero_le _, rfl, rfl, Lib.hid (Below.refl _ _), by simpa using Lib.hid (Kd.R_nil kS 83 wX wX.heap.size (fun _ => True))⟩
 case round =>
  obtain ⟨kk, v, hkk, rfl, ev, BW, RW⟩ := hrel
  subst ev
  by_cases hlt : kk < x.f3.length
  ·have d1 : decide ((kk : Int) < (x.f3.length : Int)) = true := by simp; omega
   have b1 : (0 : Int) ≤ (kk : Int) := by omega
   have b2 : (kk : Int) < (x.f3.length : Int) := by omega
   obtain ⟨y, hy⟩ : ∃ y, x.f3[kk]? = some y := ⟨_, List.getElem?_eq_getElem hlt⟩
   obtain ⟨ad, e0, y0, y1, y2⟩ := at_S3 (Kd.C_below HR.out.r3 (below_step BX.out BW.out)) hy hlt
   subst e0
   have HY := Lib.hid hy
   clear hy
   go_upto_region 6 with (first | ((with_reducible refine gate_dst (N := 9) rfl ?_); refine box_event ?hg (N := 9) ?hd (cs := #[.int .i64 0, .int .i64 0, .int .i64 0]) (t := 83) ?hr ?_; (case hd => rfl); (case hg => rfl); (case hr => first | (go_simp; done) | (go_simp; rfl)); intro gB hgB wB hxB hbB; have GB := Lib.hid (show wr.heap.size ≤ gB by rw [hgB]; exact Nat.le_refl _); have BB := Lib.hid hbB; have XB := Lib.hid hxB; have q0 := (blk_cell hxB 0).trans rfl; have q1 := (blk_cell hxB 1).trans rfl; have q2 := (blk_cell hxB 2).trans rfl; have z0 := blk_frozen hxB 0; have z1 := blk_frozen hxB 1; have z2 := blk_frozen hxB 2; clear hgB hxB hbB))
   refine gen2 (φ := fun W => Code.wp _ _ _ _ W) (P := fun W => Below wr.heap.size wr W ∧ W.heap[gB]? = some (.cells #[.int .i64 y.f0, .int .i64 y.f1, .int .i64 y.f2] 83 (0, 0))) ⟨below_set (below_set (below_set BB.out GB.out) GB.out) GB.out, by simpa using blk_set (blk_set (blk_set XB.out 0 (.int .i64 y.f0)) 1 (.int .i64 y.f1)) 2 (.int .i64 y.f2)⟩ ?_
   clear q0 q1 q2 z0 z1 z2 XB BB GB y0 y1 y2
   rintro V ⟨hbV, hxV⟩
   have BV := Lib.hid (below_step BW.out hbV)
   have RV := Lib.hid (Kd.R_below RW.out hbV)
   have a0 := (blk_cell hxV 0).trans rfl
   have a1 := (blk_cell hxV 1).trans rfl
   have a2 := (blk_cell hxV 2).trans rfl
   clear hbV hxV BW RW
   by_cases hm : y.f0 = m
   ·have FY := Lib.hid (filt_yes (q := fun y => decide (y.f0 = m)) HY.out (by simpa using hm))
    have LE := Lib.hid (filt_le x.f3 (fun y => decide (y.f0 = m)) kk)
    have e1 : (y.f0 == m) = true := by simpa using hm
    clear hm
    go_wp2_with (first | ((with_reducible refine gate_builtin (b := .append) (xs := #[.tmp 23, .tmp 25]) rfl ?_); at_builtin; go_must (refine Kd.R_append kS (w0 := wX) wX.heap.size rfl (.tmp 23) (.tmp 25) 37 83 (.agg #[.int .i64 0, .int .i64 0, .int .i64 0]) 24 rfl Tryd.underlying37 infoC83 rfl (by decide) (by decide) v ((x.f3.take kk).filter fun y => decide (y.f0 = m)) y [.int .i64 y.f0, .int .i64 y.f1, .int .i64 y.f2] (fun _ => True) (fun _ => False) rfl rfl (k83_mkM _ _ _ _) (fun _ hk => hk.elim) (fun _ _ => trivial) ?aO ?aB ?aS ?aL ?_); (case aO => exact RV.out); (case aB => exact BV.out); (case aS => exact BV.out.size); (case aL => have := LE.out; have := HZ.out.s3; omega); intro v8 w8 ho8 hb8 hg8 hat8; have R8 := Lib.hid ho8; have B8 := Lib.hid hb8; clear ho8 hb8 hg8 hat8))
    go_roundw
    case rel => exact ⟨kk + 1, _, by omega, by go_num, rfl, B8, Lib.hid (by rw [FY.out]; exact R8.out)⟩
    case measure =>
     simp only [cntV]
     omega
   ·have FN := Lib.hid (filt_no (q := fun y => decide (y.f0 = m)) HY.out (by simpa using hm))
    have e1 : (y.f0 == m) = false := by simpa using hm
    clear hm
    go_wp2
    go_roundw
    case rel => exact ⟨kk + 1, _, by omega, by go_num, rfl, BV, Lib.hid (by rw [FN.out]; exact RV.out)⟩
    case measure =>
     simp only [cntV]
     omega
  ·have d1 : decide ((kk : Int) < (x.f3.length : Int)) = false := by simp; omega
   obtain rfl : kk = x.f3.length := by omega
   rw [List.take_length] at RW
   have LR := Lib.hid (Kd.R_slice RW.out)
   obtain ⟨A6, c6, e6⟩ := LR.out
   subst e6
   have x1 := (blk_cell (blk_below XX.out BW.out) 1).trans rfl
   go_wp2
   clear x1
   obtain ⟨wS, hwS⟩ : ∃ wS, wS = wr := ⟨_, rfl⟩
   subst hwS
   have BS := Lib.hid (below_step BX.out BW.out)
   clear RW LR BW
   go_loopw [31, 7] (fun s31 s7 wq => ∃ (kk : Nat) (v : Value), kk ≤ x.f4.length ∧ s31 = .int .i64 (kk : Int) ∧ v = s7 ∧ Hid (Below wS.heap.size wS wq) ∧ Hid (Kd.R (Kd.int .i64) 3 wq wS.heap.size (fun _ => True) v (((x.f4.take kk).filter fun y => decide (y.f0 = m)).map (·.f1)))) (fun s31 _ _ => x.f4.length - cntV s31)
   case atStart => exact ⟨0, _, Nat.zero_le _, rfl, rfl, Lib.hid (Below.refl _ _), by simpa using Lib.hid (Kd.R_nil (Kd.int .i64) 3 wS wS.heap.size (fun _ => True))⟩
   case round =>
    obtain ⟨kk, v, hkk, rfl, ev, BQ, RQ⟩ := hrel
    subst ev
    by_cases hlt : kk < x.f4.length
    ·have d1 : decide ((kk : Int) < (x.f4.length : Int)) = true := by simp; omega
     have b1 : (0 : Int) ≤ (kk : Int) := by omega
     have b2 : (kk : Int) < (x.f4.length : Int) := by omega
     obtain ⟨y, hy⟩ : ∃ y, x.f4[kk]? = some y := ⟨_, List.getElem?_eq_getElem hlt⟩
     obtain ⟨ad, e0, y0, y1⟩ := at_Y2 (Kd.C_below HR.out.r4 (below_step BS.out BQ.out)) hy hlt
     subst e0
     have HY := Lib.hid hy
     clear hy
     go_upto_region 12 with (first | ((with_reducible refine gate_dst (N := 11) rfl ?_); refine box_event ?hg (N := 11) ?hd (cs := #[.int .i64 0, .int .i64 0]) (t := 86) ?hr ?_; (case hd => rfl); (case hg => rfl); (case hr => first | (go_simp; done) | (go_simp; rfl)); intro gB hgB wB hxB hbB; have GB := Lib.hid (show wr.heap.size ≤ gB by rw [hgB]; exact Nat.le_refl _); have BB := Lib.hid hbB; have XB := Lib.hid hxB; have q0 := (blk_cell hxB 0).trans rfl; have q1 := (blk_cell hxB 1).trans rfl; have z0 := blk_frozen hxB 0; have z1 := blk_frozen hxB 1; clear hgB hxB hbB))
     refine gen2 (φ := fun W => Code.wp _ _ _ _ W) (P := fun W => Below wr.heap.size wr W ∧ W.heap[gB]? = some (.cells #[.int .i64 y.f0, .int .i64 y.f1] 86 (0, 0))) ⟨below_set (below_set BB.out GB.out) GB.out, by simpa using blk_set (blk_set XB.out 0 (.int .i64 y.f0)) 1 (.int .i64 y.f1)⟩ ?_
     clear q0 q1 z0 z1 XB BB GB y0 y1
     rintro V ⟨hbV, hxV⟩
     have BV := Lib.hid (below_step BQ.out hbV)
     have RV := Lib.hid (Kd.R_below RQ.out hbV)
     have a0 := (blk_cell hxV 0).trans rfl
     have a1 := (blk_cell hxV 1).trans rfl
     clear hbV hxV BQ RQ
     by_cases hm : y.f0 = m
     ·have FY := Lib.hid (filt_yes (q := fun y => decide (y.f0 = m)) HY.out (by simpa using hm))
      have LE := Lib.hid (filt_le x.f4 (fun y => decide (y.f0 = m)) kk)
      have e1 : (y.f0 == m) = true := by simpa using hm
      clear hm
      go_wp2_with (first | ((with_reducible refine gate_builtin (b := .append) (xs := #[.tmp 39, .tmp 42]) rfl ?_); at_builtin; go_must (refine Kd.R_append (Kd.int .i64) (w0 := wS) wS.heap.size rfl (.tmp 39) (.tmp 42) 31 3 (.int .i64 0) 8 rfl Tryd.underlying31 infoC3 rfl (by decide) (by decide) v (((x.f4.take kk).filter fun y => decide (y.f0 = m)).map (·.f1)) y.f1 [.int .i64 y.f1] (fun _ => True) (fun _ => False) rfl rfl rfl (fun _ hk => hk.elim) (fun _ _ => trivial) ?aO ?aB ?aS ?aL ?_); (case aO => exact RV.out); (case aB => exact BV.out); (case aS => exact BV.out.size); (case aL => have := LE.out; rw [List.length_map]; omega); intro v8 w8 ho8 hb8 hg8 hat8; have R8 := Lib.hid ho8; have B8 := Lib.hid hb8; clear ho8 hb8 hg8 hat8))
      go_roundw
      case rel => exact ⟨kk + 1, _, by omega, by go_num, rfl, B8, Lib.hid (by rw [FY.out, List.map_append]; exact R8.out)⟩
      case measure =>
       simp only [cntV]
       omega
     ·have FN := Lib.hid (filt_no (q := fun y => decide (y.f0 = m)) HY.out (by simpa using hm))
      have e1 : (y.f0 == m) = false := by simpa using hm
      clear hm
      go_wp2
      go_roundw
      case rel => exact ⟨kk + 1, _, by omega, by go_num, rfl, BV, Lib.hid (by rw [FN.out]; exact RV.out)⟩
      case measure =>
       simp only [cntV]
       omega
    ·have d1 : decide ((kk : Int) < (x.f4.length : Int)) = false := by simp; omega
     obtain rfl : kk = x.f4.length := by omega
     rw [List.take_length] at RQ
     obtain ⟨A7, c7, e7⟩ := Kd.R_slice RQ.out
     rw [List.length_map] at e7
     subst e7
     go_wp2
     go_ret2
     exact ⟨A6, c6, A7, c7, rfl, below_step BS.out BQ.out⟩
end Go.Proofs.YtkkjebjlgcggcaaDoor.Seg
/- Segments: the walks of Has and of With's predicate. Conditions: at most 2^40 spans and sites. -/
namespace Go.Proofs.YtkkjebjlgcggcaaDoor.Seg
open Go.RowKit Go.Proofs.YtkkjebjlgcggcaaDoorPl Go.Maps Go.Proofs.YtkkjebjlgcggcaaDoorW.PrintWords Go.Proofs.YtkkjebjlgcggcaaDoorW.PrintLast Go.Proofs.YtkkjebjlgcggcaaDoorW.PrintMore Go.Proofs.YtkkjebjlgcggcaaDoor.Rope Go.Proofs.YtkkjebjlgcggcaaDoor.PSheetForks Go.Proofs.YtkkjebjlgcggcaaDoor.Pure
set_option linter.unusedVariables false
set_option linter.unusedSimpArgs false
/-- A span or a site of a mark? -/
def hasG (x : G) (m : Int) : Bool := decide ((0 : Int) < ((spansOf x.f3 m).length : Int) + ((sitesOf x.f4 m).length : Int))
set_option maxRecDepth 100000 in
set_option maxHeartbeats 1600000 in
theorem segHas_calls (x : G) (p A : Option Addr) (c : Nat) (B : Option Addr) (d : Nat) (m : Int) (w : World) (hr : GR w x A c B d) (h : Sz x) :
  Calls Tryd.prog 54 #[.agg (sgC x p A c B d), .int .i64 m] w fun e w' => e = .returned (.bool (hasG x m)) ∧ Below w.heap.size w w' := by
 have HR := Lib.hid hr
 have HZ := Lib.hid h
 have l3 : (spansOf x.f3 m).length ≤ 1099511627776 := Nat.le_trans (List.length_filter_le _ _) (by have := h.s3; omega)
 have l4 : (sitesOf x.f4 m).length ≤ 1099511627776 := Nat.le_trans (List.length_filter_le _ _) (by have := h.s4; omega)
 obtain ⟨q, hq⟩ : ∃ q, q = hasG x m := ⟨_, rfl⟩
 rw [← hq]
 have HQ := Lib.hid hq
 clear hr h hq
 go_enter Tryd.func54, Tryd.ntmps54
 go_wp2_with fail
 have B0 := Lib.hid (below_alloc (Below.refl w.heap.size w) (.cells (sgC x p A c B d) 45))
 (go_at_call 68; refine (marksOf_calls x A c B d m _ (HR.out.below B0.out) HZ.out).mono ?_; rintro e w1 ⟨A1, c1, A2, c2, rfl, hb1⟩)
 have B1 := Lib.hid (below_step B0.out hb1)
 clear hb1 B0
 unfold hasG at HQ
 generalize (spansOf x.f3 m).length = a at l3 HQ
 generalize (sitesOf x.f4 m).length = b at l4 HQ
 go_wp2
 go_ret
 exact ⟨by rw [HQ.out]; rfl, B1.out⟩
set_option maxRecDepth 100000 in
set_option maxHeartbeats 1600000 in
theorem with_pred (x : G) (p A : Option Addr) (c : Nat) (B : Option Addr) (d : Nat) (b : Nat) (m : Int) (w : World) (hc : w.heap[b]? = some (.cells #[.int .i64 m] 3 (0, 0))) (hr : GR w x A c B d) (h : Sz x) :
  Calls Tryd.prog 53 #[.agg (sgC x p A c B d), .pointer (some ⟨b, 0, none⟩)] w fun e w' => e = .returned (.bool (!hasG x m)) ∧ Below w.heap.size w w' := by
 have HC := Lib.hid hc
 have HR := Lib.hid hr
 have HZ := Lib.hid h
 have HP := Lib.hid (fun W hb => segHas_calls x p A c B d m W (hr.below hb) h)
 generalize hasG x m = q at HP
 clear hc hr h
 go_enter Tryd.func53, Tryd.ntmps53
 go_upto_region 1 with (first | ((with_reducible refine gate_dst (N := 2) rfl ?_); refine box_event ?hg (N := 2) ?hd (cs := sgC x p A c B d) (t := 45) ?hr ?_; (case hd => rfl); (case hg => rfl); (case hr => first | (go_simp; done) | (go_simp; rfl)); intro gX hgX wX hxX hbX; have BX := Lib.hid hbX; have XX := Lib.hid hxX; clear hgX hxX hbX))
 have c1_ : wX.cell? ⟨b, 0, none⟩ = some (.int .i64 m) := blk_cell (blk_below HC.out BX.out) 0
 have y0 := (blk_cell XX.out 0).trans rfl
 have y1 := (blk_cell XX.out 1).trans rfl
 have y2 := (blk_cell XX.out 2).trans rfl
 have y3 := (blk_cell XX.out 3).trans rfl
 have y4 := (blk_cell XX.out 4).trans rfl
 go_wp2_with fail
 (go_at_call 54; refine (HP.out _ BX.out).mono ?_; rintro e w1 ⟨rfl, hb1⟩)
 have B1 := Lib.hid (below_step BX.out hb1)
 clear hb1 BX
 go_wp2
 go_ret
 exact ⟨rfl, B1.out⟩
end Go.Proofs.YtkkjebjlgcggcaaDoor.Seg
/- Segments: the walk of slices.DeleteFunc. Conditions: at most 2^40 segments. -/
namespace Go.Proofs.YtkkjebjlgcggcaaDoor.Seg
open Go.RowKit Go.Proofs.YtkkjebjlgcggcaaDoorPl Go.Maps Go.Proofs.YtkkjebjlgcggcaaDoorW.PrintWords Go.Proofs.YtkkjebjlgcggcaaDoorW.PrintLast Go.Proofs.YtkkjebjlgcggcaaDoorW.PrintMore Go.Proofs.YtkkjebjlgcggcaaDoor.Rope Go.Proofs.YtkkjebjlgcggcaaDoor.PSheetForks Go.Proofs.YtkkjebjlgcggcaaDoor.Pure
set_option linter.unusedVariables false
set_option linter.unusedSimpArgs false
abbrev PQ := List Value × G
theorem idxQ_miss (q : G → Bool) : ∀ (xs : List G) (j : Int), 0 ≤ j → idxQ q xs j = -1 → ∀ x ∈ xs, q x = false
 | [], _, _, _ => by simp
 | x :: r, j, hj, h => by
  unfold idxQ at h
  split at h
  ·omega
  ·rename_i hp
   intro y hy
   rcases List.mem_cons.1 hy with rfl | hy
   ·simpa using hp
   ·exact idxQ_miss q r (j + 1) (by omega) h y hy
theorem idxQ_hit (q : G → Bool) : ∀ (xs : List G) (j : Int), 0 ≤ j → idxQ q xs j ≠ -1 → ∃ i : Nat, idxQ q xs j = j + i ∧ i < xs.length ∧ (∀ x ∈ xs.take i, q x = false) ∧ (∀ x, xs[i]? = some x → q x = true)
 | [], _, _, h => absurd rfl h
 | x :: r, j, hj, h => by
  unfold idxQ at h ⊢
  split
  ·rename_i hp
   exact ⟨0, by simp, by simp, by simp, by simp [hp]⟩
  ·rename_i hp
   rw [if_neg hp] at h
   obtain ⟨i, h1, h2, h3, h4⟩ := idxQ_hit q r (j + 1) (by omega) h
   refine ⟨i + 1, by rw [h1]; omega, by simp; omega, ?_, ?_⟩
   ·intro y hy
    rw [List.take_succ_cons] at hy
    rcases List.mem_cons.1 hy with rfl | hy
    ·simpa using hp
    ·exact h3 y hy
   ·intro y hy
    exact h4 y (by simpa using hy)
theorem get_dropQ {α : Type} {cur xs : List α} {j : Nat} (h : cur.drop j = xs.drop j) : cur[j]? = xs[j]? := by
 have h1 : (cur.drop j)[0]? = (xs.drop j)[0]? := by rw [h]
 rwa [List.getElem?_drop, List.getElem?_drop, Nat.add_zero] at h1
theorem take_set_atQ {α : Type} {cur : List α} {i : Nat} {x : α} (h : i < cur.length) : (cur.set i x).take (i + 1) = cur.take i ++ [x] := by
 rw [takeS (x := x) (by rw [List.getElem?_set_self h]), List.take_set_of_le (Nat.le_refl _)]
theorem drop_set_atQ {α : Type} {cur xs : List α} {i j : Nat} {x : α} (hij : i < j) (h : cur.drop j = xs.drop j) : (cur.set i x).drop (j + 1) = xs.drop (j + 1) := by
 rw [List.drop_set_of_lt (by omega), ← List.drop_drop, h, List.drop_drop]
theorem filter_hitQ {xs cur : List PQ} {q : G → Bool} {i j : Nat} {x : PQ} (hx : xs[j]? = some x) (hq : q x.2 = true) (h : cur.take i = (xs.take j).filter fun x => !q x.2) : cur.take i = (xs.take (j + 1)).filter fun x => !q x.2 := by
 rw [takeS hx, List.filter_append, ← h]
 simp [hq]
theorem filter_missQ {xs cur : List PQ} {q : G → Bool} {i j : Nat} {x : PQ} (hi : i < cur.length) (hx : xs[j]? = some x) (hq : q x.2 = false) (h : cur.take i = (xs.take j).filter fun x => !q x.2) : (cur.set i x).take (i + 1) = (xs.take (j + 1)).filter fun x => !q x.2 := by
 rw [take_set_atQ hi, takeS hx, List.filter_append, ← h]
 simp [hq]
/-- What holds in every round. -/
structure DelQ (ps : List PQ) (q : G → Bool) (base gr c : Nat) (w : World) (i j : Nat) (cur : List PQ) (W : World) : Prop where
 len : cur.length = ps.length
 got : cur.take i = (ps.take j).filter fun x => !q x.2
 rest : cur.drop j = ps.drop j
 sub : ∀ z ∈ cur, z ∈ ps
 row : Kd.R kQ 45 W base (fun _ => True) (.slice (some ⟨gr, 0, none⟩) ps.length c) (cur.map (·.1))
 grew : w.grownBy W (some gr)
set_option maxHeartbeats 8000000 in
set_option maxRecDepth 1000000 in
theorem deleteQ (v : Value) (ps : List PQ) (g : Nat) (lb : Array Value) (q : G → Bool) (base : Nat) (w : World) (eg : ∀ args w, (callFunc g args).run Tryd.prog w = .ok (.enter g args) w)
  (hp : ∀ (W : World) (x : G) (p A : Option Addr) (c : Nat) (B : Option Addr) (d : Nat), x ∈ ps.map (·.2) → w.grownBy W v.ownBlock → SP W x p A c B d → Calls Tryd.prog g (#[Value.agg (sgC x p A c B d)] ++ lb) W fun e w' => e = .returned (.bool (q x)) ∧ Below W.heap.size W w')
  (HO : Kd.R kQ 45 w base (fun _ => True) v (ps.map (·.1))) (hs : ∀ z ∈ ps, SgV w z.1 z.2) (hl : ps.length ≤ 1099511627776) :
  Calls Tryd.prog 52 #[v, .func (.func g) #[] lb] w fun e w' => ∃ v', e = .returned v' ∧ Kd.R kQ 45 w' base (fun _ => True) v' ((ps.filter fun z => !q z.2).map (·.1)) ∧ w.grownBy w' v.ownBlock := by
 obtain ⟨A, c, rfl⟩ := Kd.R_slice HO
 have hsg : Sgs w (ps.map (·.1)) (ps.map (·.2)) := ⟨by simp, fun j cs x h1 h2 => by
  rw [List.getElem?_map] at h1 h2
  obtain ⟨z, hz, rfl⟩ := Option.map_eq_some_iff.1 h1
  rw [hz] at h2
  simp only [Option.map_some, Option.some.injEq] at h2
  subst h2
  exact hs z (List.mem_of_getElem? hz)⟩
 have hSh := Sh.of HO hsg
 have HX := Lib.hid (indexQ A c (ps.map (·.1)) (ps.map (·.2)) g lb q w eg (fun W x p A2 c2 B2 d2 hx hb hsp => hp W x p A2 c2 B2 d2 hx (grown_of_below hb _) hsp) hSh (by simpa using hl))
 have HR := Lib.hid HO
 have HP := Lib.hid hp
 have HSG := Lib.hid hs
 have HC := Lib.hid (Kd.R_reads' HO)
 have LP : (ps.map (·.1)).length = ps.length := by simp
 rw [LP] at HX HR HC
 clear HO hp hs hsg hSh
 by_cases hi : idxQ q (ps.map (·.2)) 0 = -1
 ·have hb : (idxQ q (ps.map (·.2)) 0 == -1) = true := by simpa using hi
  have Hi := Lib.hid hi
  clear hi
  rw [LP]
  go_enter Tryd.func52, Tryd.ntmps52
  go_wp2_with ((with_reducible refine HX.out.mono ?_); rintro e w' ⟨rfl, hb'⟩; have HB := Lib.hid hb'; clear hb')
  go_ret
  refine ⟨_, rfl, ?_, grown_of_below HB.out _⟩
  rw [List.filter_eq_self.2 (fun z hz => by rw [idxQ_miss q _ 0 (by omega) Hi.out z.2 (List.mem_map.2 ⟨z, hz, rfl⟩)]; rfl)]
  exact Kd.R_below HR.out HB.out
 ·obtain ⟨i0, hi0, hlt0, hnone, hsome⟩ := idxQ_hit q _ 0 (by omega) hi
  rw [Int.zero_add] at hi0
  rw [List.length_map] at hlt0
  have hb : (idxQ q (ps.map (·.2)) 0 == -1) = false := by simpa using hi
  obtain ⟨gr, cap, he, hbase, hgr, _⟩ := Kd.R_form HR.out (by rw [LP]; omega)
  injection he with e1 e2 e3
  subst e1; subst e3
  rw [hi0] at HX hb
  obtain ⟨x0, hx0⟩ : ∃ x, ps[i0]? = some x := ⟨_, List.getElem?_eq_getElem hlt0⟩
  have S0 : Hid (ps.take i0 = (ps.take (i0 + 1)).filter fun x => !q x.2) := Lib.hid (filter_hitQ hx0 (hsome _ (by rw [List.getElem?_map, hx0]; rfl)) (List.filter_eq_self.2 (fun z hz => by rw [hnone z.2 (by rw [← List.map_take]; exact List.mem_map.2 ⟨z, hz, rfl⟩)]; rfl)).symm)
  clear hi hi0 hnone hsome e2 hx0
  rw [LP]
  go_enter Tryd.func52, Tryd.ntmps52
  go_wp2_with ((with_reducible refine HX.out.mono ?_); rintro e w' ⟨rfl, hb'⟩; have HB := Lib.hid hb'; clear hb')
  go_loopw [5, 6] (fun s5 s6 wr => ∃ (i j : Nat) (cur : List PQ), s5 = .int .i64 (i : Int) ∧ s6 = .int .i64 (j : Int) ∧ i < j ∧ j ≤ ps.length ∧ Hid (DelQ ps q base gr c w i j cur wr)) (fun _ s6 _ => ps.length - cntV s6)
  case atStart =>
   exact ⟨i0, i0 + 1, ps, rfl, by go_num, by omega, by omega, Lib.hid ⟨rfl, S0.out, rfl, fun _ h => h, Kd.R_below HR.out HB.out, grown_of_below HB.out _⟩⟩
  case round =>
   obtain ⟨i, j, cur, rfl, rfl, hij, hjn, S⟩ := hrel
   by_cases hlt : j < ps.length
   ·have d1 : decide ((j : Int) < (ps.length : Int)) = true := by simp; omega
    have b1 : (0 : Int) ≤ (j : Int) := by omega
    have b2 : (j : Int) < (ps.length : Int) := by omega
    have b3 : (0 : Int) ≤ (i : Int) := by omega
    have b4 : (i : Int) < (ps.length : Int) := by omega
    obtain ⟨z, hz⟩ : ∃ z, ps[j]? = some z := ⟨_, List.getElem?_eq_getElem hlt⟩
    have hzc : cur[j]? = some z := (get_dropQ S.out.rest).trans hz
    have hgr0 : w.grownBy wr (Value.slice (some ⟨gr, 0, none⟩) ps.length c).ownBlock := S.out.grew
    have mv := fun {t : TypeId} (ht : t ≠ 45) => R_typeQ HR.out hgr0 ht
    have hsv : SgV wr z.1 z.2 := (HSG.out z (List.mem_of_getElem? hz)).move (mv (by decide)) (mv (by decide)) (mv (by decide))
    obtain ⟨csz, x⟩ := z
    obtain ⟨p, A1, c1, B1, d1_, ecs, hsp⟩ := hsv
    have ecs' : csz = [.int .i64 x.f0, .int .i64 x.f1, .pointer p, .slice A1 x.f3.length c1, .slice B1 x.f4.length d1_] := ecs
    subst ecs'
    obtain ⟨ad, e0, y0, y1, y2, y3, y4⟩ := at_Q (Kd.R_reads' S.out.row).2.2 (by rw [List.getElem?_map, hzc]; rfl) (by rw [List.length_map, S.out.len]; exact hlt)
    cases e0
    rw [add_plain] at y0 y1 y2 y3 y4
    have SX := Lib.hid (show SP wr x p A1 c1 B1 d1_ from hsp)
    have HXJ := Lib.hid hz
    clear hzc hgr0 mv ecs hsp hz
    go_upto_region 8 with (first | ((with_reducible refine gate_dst (N := 7) rfl ?_); refine box_event ?hg (N := 7) ?hd (cs := #[.int .i64 0, .int .i64 0, .pointer none, .slice none 0 0, .slice none 0 0]) (t := 45) ?hr ?_; (case hd => rfl); (case hg => rfl); (case hr => first | (go_simp; done) | (go_simp; rfl)); intro gB hgB wB hxB hbB; have GB := Lib.hid (show wr.heap.size ≤ gB by rw [hgB]; exact Nat.le_refl _); have BB := Lib.hid hbB; have XB := Lib.hid hxB; have q0 := (blk_cell hxB 0).trans rfl; have q1 := (blk_cell hxB 1).trans rfl; have q2 := (blk_cell hxB 2).trans rfl; have q3 := (blk_cell hxB 3).trans rfl; have q4 := (blk_cell hxB 4).trans rfl; have z0 := blk_frozen hxB 0; have z1 := blk_frozen hxB 1; have z2 := blk_frozen hxB 2; have z3 := blk_frozen hxB 3; have z4 := blk_frozen hxB 4; clear hgB hxB hbB))
    refine gen2 (φ := fun W => Code.wp _ _ _ _ W) (P := fun W => Below wr.heap.size wr W ∧ W.heap[gB]? = some (.cells (sgC x p A1 c1 B1 d1_) 45 (0, 0))) ⟨below_set (below_set (below_set (below_set (below_set BB.out GB.out) GB.out) GB.out) GB.out) GB.out, by simpa using blk_set (blk_set (blk_set (blk_set (blk_set XB.out 0 (.int .i64 x.f0)) 1 (.int .i64 x.f1)) 2 (.pointer p)) 3 (.slice A1 x.f3.length c1)) 4 (.slice B1 x.f4.length d1_)⟩ ?_
    clear q0 q1 q2 q3 q4 z0 z1 z2 z3 z4 XB BB y0 y1 y2 y3 y4
    have GBW := GB
    clear GB
    rintro V ⟨hbV, hxV⟩
    have RV := Lib.hid (Kd.R_below S.out.row hbV)
    have GV := Lib.hid (World.grownBy.trans S.out.grew (grown_of_below hbV _))
    have SPV := Lib.hid (SX.out.below hbV)
    have a0 := (blk_cell hxV 0).trans rfl
    have a1 := (blk_cell hxV 1).trans rfl
    have a2 := (blk_cell hxV 2).trans rfl
    have a3 := (blk_cell hxV 3).trans rfl
    have a4 := (blk_cell hxV 4).trans rfl
    have NB := Lib.hid (show some gB ≠ (some gr : Option Nat) from fun e => by injection e with e; have h1 := R_lt S.out.row (k := gr) rfl; have h2 := GBW.out; omega)
    have hcall := Lib.hid (HP.out V x p A1 c1 B1 d1_ (List.mem_map.2 ⟨_, List.mem_of_getElem? HXJ.out, rfl⟩) GV.out SPV.out)
    clear hbV hxV SX SPV
    cases hq : q x with
    | true =>
     have Q := Lib.hid hq
     rw [hq] at hcall
     clear hq
     go_wp2_with ((with_reducible refine hcall.out.mono ?_); rintro e w'' ⟨rfl, hb'⟩; have HB2 := Lib.hid hb'; clear hb')
     go_roundw
     case rel =>
      exact ⟨i, j + 1, cur, rfl, by go_num, by omega, by omega, Lib.hid ⟨S.out.len, filter_hitQ HXJ.out Q.out S.out.got, by rw [← List.drop_drop, S.out.rest, List.drop_drop], S.out.sub, Kd.R_below RV.out HB2.out, World.grownBy.trans GV.out (grown_of_below HB2.out _)⟩⟩
     case measure =>
      simp only [cntV]
      omega
    | false =>
     have Q := Lib.hid hq
     rw [hq] at hcall
     clear hq
     obtain ⟨zi, hzi⟩ : ∃ z, cur[i]? = some z := ⟨_, List.getElem?_eq_getElem (by rw [S.out.len]; omega)⟩
     obtain ⟨pi, Ai, ci, Bi, di, ei, _⟩ := HSG.out zi (S.out.sub zi (List.mem_of_getElem? hzi))
     have hci : (cur.map (·.1))[i]? = some [.int .i64 zi.2.f0, .int .i64 zi.2.f1, .pointer pi, .slice Ai zi.2.f3.length ci, .slice Bi zi.2.f4.length di] := by rw [List.getElem?_map, hzi, ← ei]; rfl
     have HCI := Lib.hid hci
     have hii : i < (cur.map (·.1)).length := by rw [List.length_map, S.out.len]; omega
     clear hzi ei hci
     go_wp2_with fail
     ((with_reducible refine hcall.out.mono ?_); rintro e w'' ⟨rfl, hb'⟩)
     have R2 := Lib.hid (Kd.R_below RV.out hb')
     have G2 := Lib.hid (World.grownBy.trans GV.out (grown_of_below hb' (some gr)))
     replace a0 := pw_cell_below hb' a0
     replace a1 := pw_cell_below hb' a1
     replace a2 := pw_cell_below hb' a2
     replace a3 := pw_cell_below hb' a3
     replace a4 := pw_cell_below hb' a4
     obtain ⟨iu, ou⟩ := Kd.R_own R2.out
     obtain ⟨cu, hcu⟩ := own_typed ou gr rfl
     have HC5 := Lib.hid (row5 (Kd.R_reads' R2.out).2.2 HCI.out hii)
     have r0 : w''.cell? ⟨gr, i * 5, none⟩ = some (.int .i64 zi.2.f0) := HC5.out 0 _ rfl
     have r1 : w''.cell? ⟨gr, i * 5 + 1, none⟩ = some (.int .i64 zi.2.f1) := HC5.out 1 _ rfl
     have r2 : w''.cell? ⟨gr, i * 5 + 2, none⟩ = some (.pointer pi) := HC5.out 2 _ rfl
     have r3 : w''.cell? ⟨gr, i * 5 + 3, none⟩ = some (.slice Ai zi.2.f3.length ci) := HC5.out 3 _ rfl
     have r4 : w''.cell? ⟨gr, i * 5 + 4, none⟩ = some (.slice Bi zi.2.f4.length di) := HC5.out 4 _ rfl
     have f0 : w''.frozen? ⟨gr, i * 5, none⟩ = false := blk_frozen hcu _
     have f1 : w''.frozen? ⟨gr, i * 5 + 1, none⟩ = false := blk_frozen hcu _
     have f2 : w''.frozen? ⟨gr, i * 5 + 2, none⟩ = false := blk_frozen hcu _
     have f3 : w''.frozen? ⟨gr, i * 5 + 3, none⟩ = false := blk_frozen hcu _
     have f4 : w''.frozen? ⟨gr, i * 5 + 4, none⟩ = false := blk_frozen hcu _
     have SGG := Lib.hid (Kd.R_seg (j := 0) (seg := [.int .i64 x.f0, .int .i64 x.f1, .pointer p, .slice A1 x.f3.length c1, .slice B1 x.f4.length d1_]) R2.out (i : Int) b3 b4 rfl HC5.out (show (5 : Nat) ≤ 5 from Nat.le_refl _) (x' := [.int .i64 x.f0, .int .i64 x.f1, .pointer p, .slice A1 x.f3.length c1, .slice B1 x.f4.length d1_]) (okp := fun k => True ∧ k ≠ gr) ⟨rfl, rfl, one5⟩ (fun _ h => h))
     obtain ⟨wN, hwN⟩ : ∃ wN, wN = w''.setCells gr ((i : Int).toNat * kQ.sz + 0) [.int .i64 x.f0, .int .i64 x.f1, .pointer p, .slice A1 x.f3.length c1, .slice B1 x.f4.length d1_] := ⟨_, rfl⟩
     rw [← hwN] at SGG
     have hwN2 : wN = ((((w''.setCell ⟨gr, i * 5, none⟩ (.int .i64 x.f0)).setCell ⟨gr, i * 5 + 1, none⟩ (.int .i64 x.f1)).setCell ⟨gr, i * 5 + 2, none⟩ (.pointer p)).setCell ⟨gr, i * 5 + 3, none⟩ (.slice A1 x.f3.length c1)).setCell ⟨gr, i * 5 + 4, none⟩ (.slice B1 x.f4.length d1_) := by rw [hwN]; rfl
     clear hwN
     have HWN := Lib.hid hwN2
     clear hwN2
     clear hb' hcu ou HC5 hcall RV GV
     go_upto_region 10 with (fail)
     clear r0 r1 r2 r3 r4 f0 f1 f2 f3 f4 a0 a1 a2 a3 a4
     rw [← HWN.out]
     refine gen2 (φ := fun W => Code.wp _ _ _ _ W) (P := fun W => Kd.R kQ 45 W base (fun _ => True) (.slice (some ⟨gr, 0, none⟩) ps.length c) ((cur.map (·.1)).set i [.int .i64 x.f0, .int .i64 x.f1, .pointer p, .slice A1 x.f3.length c1, .slice B1 x.f4.length d1_]) ∧ w.grownBy W (some gr)) ⟨SGG.out.1, World.grownBy.trans G2.out SGG.out.2⟩ ?_
     clear SGG R2 G2
     rintro U ⟨hrU, hgU⟩
     have RU := Lib.hid (show Kd.R kQ 45 U base (fun _ => True) (.slice (some ⟨gr, 0, none⟩) ps.length c) ((cur.set i ([.int .i64 x.f0, .int .i64 x.f1, .pointer p, .slice A1 x.f3.length c1, .slice B1 x.f4.length d1_], x)).map (·.1)) by rw [List.map_set]; exact hrU)
     have GU := Lib.hid hgU
     clear hrU hgU
     go_wp2
     go_roundw
     case rel =>
      refine ⟨i + 1, j + 1, cur.set i ([.int .i64 x.f0, .int .i64 x.f1, .pointer p, .slice A1 x.f3.length c1, .slice B1 x.f4.length d1_], x), by go_num, by go_num, by omega, by omega, Lib.hid ⟨by rw [List.length_set]; exact S.out.len, filter_missQ (by rw [S.out.len]; omega) HXJ.out Q.out S.out.got, drop_set_atQ hij S.out.rest, fun z hz => ?_, RU.out, GU.out⟩⟩
      rcases List.mem_or_eq_of_mem_set hz with h | h
      ·exact S.out.sub z h
      ·rw [h]; exact List.mem_of_getElem? HXJ.out
     case measure =>
      simp only [cntV]
      omega
   ·have d1 : decide ((j : Int) < (ps.length : Int)) = false := by simp; omega
    obtain rfl : j = ps.length := by omega
    have hil : i ≤ ps.length := by omega
    have HC2 := Lib.hid (Kd.R_reads' S.out.row)
    have hic : i ≤ c := Nat.le_trans hil HC2.out.2.1
    have hfin := Lib.hid (by have e := S.out.got; rw [List.take_length] at e; exact e)
    have LM : (cur.map (·.1)).length = ps.length := by rw [List.length_map, S.out.len]
    have z5 : ∀ v ∈ (Value.agg #[.int .i64 0, .int .i64 0, .pointer none, .slice none 0 0, .slice none 0 0]).cells.toList, v.oneCell' = true := by decide
    obtain ⟨i5, hi5, hs5⟩ : ∃ i, Tryd.prog.info? 45 = some i ∧ i.size = 5 := by
     obtain ⟨i, h1, h2⟩ := Option.map_eq_some_iff.1 infoC45
     simp only [Prod.mk.injEq] at h2
     exact ⟨i, h1, h2.2.1⟩
    have hto : ∀ W, (Instr.slice 23 (.slice (some ⟨gr, 0, none⟩) ps.length c) none (some (.int .i64 (i : Int))) none).run Tryd.prog W = .ok (.slice (some ⟨gr, 0, none⟩) i c) W := fun W => by
     have := cut_to (P := Tryd.prog) 23 45 .i64 Tryd.underlying23 hi5 (some ⟨gr, 0, none⟩) ps.length c (i : Int) (by omega) (by omega) HC2.out.2.1 W
     rw [Int.toNat_natCast] at this
     exact this
    obtain ⟨w1, hrun, hR1, hg1, _⟩ := YtkkjebjlgcggcaaDoorOwn.run_clear_rows kQ 23 45 0 (.agg #[.int .i64 0, .int .i64 0, .pointer none, .slice none 0 0, .slice none 0 0]) Tryd.underlying23 (fun w => by kernel_rfl) rfl z5 S.out.row hil (A := if c = i then some ⟨gr, 0, none⟩ else some ⟨gr, i * 5, none⟩) (c2 := c - i) (fun h => by rw [if_neg (by have := HC2.out.2.1; omega)]; rfl) (Below.refl base wr)
    have hfrom : ∀ W, (Instr.slice 23 (.slice (some ⟨gr, 0, none⟩) ps.length c) (some (.int .i64 (i : Int))) none none).run Tryd.prog W = .ok (.slice (if c = i then some ⟨gr, 0, none⟩ else some ⟨gr, i * 5, none⟩) (ps.length - i) (c - i)) W := fun W => by
     have := cut_from (P := Tryd.prog) 23 45 .i64 Tryd.underlying23 hi5 5 hs5 (some ⟨gr, 0, none⟩) ps.length c (i : Int) (by omega) (by omega) W
     rw [Int.toNat_natCast] at this
     rw [this]
     congr 2
     split <;> simp [add_plain]
    generalize (if c = i then some ⟨gr, 0, none⟩ else some ⟨gr, i * 5, none⟩ : Option Addr) = AC at hrun hfrom
    have HG1 := Lib.hid hg1
    have HR1 := Lib.hid hR1
    clear hg1 hR1 hi5 hs5 z5
    go_wp2
    go_ret
    refine ⟨_, rfl, ?_, World.grownBy.trans S.out.grew HG1.out⟩
    rw [← hfin.out, List.map_take]
    exact HR1.out
end Go.Proofs.YtkkjebjlgcggcaaDoor.Seg
/- What the document's Of, Has, Fork and With answer. Conditions: at most 1000 segments, of at most 2^40 bytes, spans, sites. -/
namespace Go.Proofs.YtkkjebjlgcggcaaDoor.Seg
open Go.RowKit Go.Proofs.YtkkjebjlgcggcaaDoorPl Go.Maps Go.Proofs.YtkkjebjlgcggcaaDoorW.PrintWords Go.Proofs.YtkkjebjlgcggcaaDoorW.PrintLast Go.Proofs.YtkkjebjlgcggcaaDoorW.PrintMore Go.Proofs.YtkkjebjlgcggcaaDoor.Rope Go.Proofs.YtkkjebjlgcggcaaDoor.PSheetForks Go.Proofs.YtkkjebjlgcggcaaDoor.Pure
set_option linter.unusedVariables false
set_option linter.unusedSimpArgs false
theorem drop_S {α : Type} {xs : List α} {j : Nat} {x : α} (h : xs[j]? = some x) : xs.drop j = x :: xs.drop (j + 1) := by
 obtain ⟨hl, e⟩ := List.getElem?_eq_some_iff.1 h
 rw [List.drop_eq_getElem_cons hl, e]
theorem of_l1 (m : Int) (l3 : List S83) (l4 : List S86) (hl : l4.length ≤ 1099511627776) (a3 : List S83) : ∀ (e j : Nat) (acc : List Int), l4.length - j = e → j ≤ l4.length → acc.length ≤ j → Ev (fun k => chancelref04_Of.l1 k m a3 acc (j : Int) l3 l4) (a3, acc ++ ((l4.drop j).filter fun y => decide (y.f0 = m)).map (·.f1))
 | 0, j, acc, he, hj, ha => by
  rw [List.drop_of_length_le (by omega)]
  refine ev_next (f := fun _ => some (a3, acc)) (fun k => ?_) (by simpa using Ev.now (a3, acc))
  simp only [chancelref04_Of.l1]
  rw [if_neg (by omega)]
 | e + 1, j, acc, he, hj, ha => by
  obtain ⟨y, hy⟩ : ∃ y, l4[j]? = some y := ⟨_, List.getElem?_eq_getElem (by omega)⟩
  have W1 := wrap_succ (i := j) (by omega)
  have er : rd_T86 l4 (j : Int) = y := by unfold rd_T86; rw [Int.toNat_natCast, List.getD_eq_getElem?_getD, hy]; rfl
  rw [drop_S hy]
  by_cases hm : y.f0 = m
  ·have ih := of_l1 m l3 l4 hl a3 e (j + 1) (acc ++ [y.f1]) (by omega) (by omega) (by simp; omega)
   rw [List.filter_cons, if_pos (by simpa using hm), List.map_cons, show acc ++ y.f1 :: ((l4.drop (j + 1)).filter fun y => decide (y.f0 = m)).map (·.f1) = (acc ++ [y.f1]) ++ ((l4.drop (j + 1)).filter fun y => decide (y.f0 = m)).map (·.f1) by simp]
   refine ev_next (fun k => ?_) ih
   simp only [chancelref04_Of.l1, er]
   rw [if_pos (by omega), if_pos (by omega), if_pos hm, if_pos (by omega), W1]
  ·have ih := of_l1 m l3 l4 hl a3 e (j + 1) acc (by omega) (by omega) (by omega)
   rw [List.filter_cons, if_neg (by simpa using hm)]
   refine ev_next (fun k => ?_) ih
   simp only [chancelref04_Of.l1, er]
   rw [if_pos (by omega), if_pos (by omega), if_neg hm, W1]
theorem of_l0 (m : Int) (l3 : List S83) (l4 : List S86) (h3 : l3.length ≤ 1099511627776) (hl : l4.length ≤ 1099511627776) : ∀ (e j : Nat) (acc : List S83), l3.length - j = e → j ≤ l3.length → acc.length ≤ j → Ev (fun k => chancelref04_Of.l0 k m acc (j : Int) l3 l4) (acc ++ ((l3.drop j).filter fun y => decide (y.f0 = m)), (sitesOf l4 m).map (·.f1))
 | 0, j, acc, he, hj, ha => by
  rw [List.drop_of_length_le (by omega)]
  have h := of_l1 m l3 l4 hl acc _ 0 [] rfl (Nat.zero_le _) (Nat.le_refl _)
  rw [List.drop_zero, List.nil_append] at h
  refine ev_next (f := fun k => chancelref04_Of.l1 k m acc [] ((0 : Nat) : Int) l3 l4) (fun k => ?_) (by simpa [sitesOf] using h)
  simp only [chancelref04_Of.l0]
  rw [if_neg (by omega)]
  rfl
 | e + 1, j, acc, he, hj, ha => by
  obtain ⟨y, hy⟩ : ∃ y, l3[j]? = some y := ⟨_, List.getElem?_eq_getElem (by omega)⟩
  have W1 := wrap_succ (i := j) (by omega)
  have er : rd_T83 l3 (j : Int) = y := by unfold rd_T83; rw [Int.toNat_natCast, List.getD_eq_getElem?_getD, hy]; rfl
  rw [drop_S hy]
  by_cases hm : y.f0 = m
  ·have ih := of_l0 m l3 l4 h3 hl e (j + 1) (acc ++ [y]) (by omega) (by omega) (by simp; omega)
   rw [List.filter_cons, if_pos (by simpa using hm), show acc ++ y :: ((l3.drop (j + 1)).filter fun y => decide (y.f0 = m)) = (acc ++ [y]) ++ ((l3.drop (j + 1)).filter fun y => decide (y.f0 = m)) by simp]
   refine ev_next (fun k => ?_) ih
   simp only [chancelref04_Of.l0, er]
   rw [if_pos (by omega), if_pos (by omega), if_pos hm, if_pos (by omega), W1]
  ·have ih := of_l0 m l3 l4 h3 hl e (j + 1) acc (by omega) (by omega) (by omega)
   rw [List.filter_cons, if_neg (by simpa using hm)]
   refine ev_next (fun k => ?_) ih
   simp only [chancelref04_Of.l0, er]
   rw [if_pos (by omega), if_pos (by omega), if_neg hm, W1]
theorem refOf_ev (m : Int) (l3 : List S83) (l4 : List S86) (h3 : l3.length ≤ 1099511627776) (hl : l4.length ≤ 1099511627776) : Ev (fun k => chancelref04_Of.f k l3 l4 m) (spansOf l3 m, (sitesOf l4 m).map (·.f1)) := by
 have h := of_l0 m l3 l4 h3 hl _ 0 [] rfl (Nat.zero_le _) (Nat.le_refl _)
 rw [List.drop_zero, List.nil_append] at h
 exact h
theorem fork_l0 (xs : List G) (first : Int) (hn : xs.length ≤ 1000) (h0 : 0 ≤ first) (h1 : first ≤ 1099511627776) : ∀ (e j : Nat), xs.length - j = e → j ≤ xs.length → Ev (fun k => chancelref06_Fork.l0 k xs first ((forkG first xs).take j) (j : Int)) (forkG first xs)
 | 0, j, he, hj => by
  rw [List.take_of_length_le (by rw [fork_len]; omega)]
  refine ev_next (f := fun _ => some (forkG first xs)) (fun k => ?_) (Ev.now _)
  simp only [chancelref06_Fork.l0]
  rw [if_neg (by omega)]
 | e + 1, j, he, hj => by
  obtain ⟨y, hy⟩ : ∃ y, xs[j]? = some y := ⟨_, List.getElem?_eq_getElem (by omega)⟩
  have W1 := wrap_succ (i := j) (by omega)
  have W2 : wrap64 (first + (j : Int)) = first + (j : Int) := wrap_id (by omega) (by omega)
  have ih := fork_l0 xs first hn h0 h1 e (j + 1) (by omega) (by omega)
  rw [takeG (fork_get (first := first) hy)] at ih
  refine ev_next (fun k => ?_) ih
  simp only [chancelref06_Fork.l0, rd_G hy]
  rw [if_pos (by omega), if_pos (by omega), if_pos (by rw [List.length_take, fork_len]; omega), W1, W2]
  rfl
theorem refFork_ev (xs : List G) (first : Int) (hn : xs.length ≤ 1000) (h0 : 0 ≤ first) (h1 : first ≤ 1099511627776) : Ev (fun k => chancelref06_Fork.f k xs first) (forkG first xs) := fork_l0 xs first hn h0 h1 _ 0 rfl (Nat.zero_le _)
set_option maxRecDepth 100000 in
set_option maxHeartbeats 1600000 in
theorem refHas_calls (x : G) (A : Option Addr) (c : Nat) (B : Option Addr) (d : Nat) (m : Int) (w : World) (hr : GR w x A c B d) (h : Sz x) :
  Calls Tryd.prog 55 #[.agg (gC x A c B d), .int .i64 m] w fun e w' => e = .returned (.bool (hasG x m)) ∧ Below w.heap.size w w' := by
 obtain ⟨k1, hk1⟩ := Go.Proofs.YtkkjebjlgcggcaaDoorW.PrintWords.Ev.rounds (refOf_ev m x.f3 x.f4 (by have := h.s3; omega) (by have := h.s4; omega))
 have HR := Lib.hid hr
 have K1 := Lib.hid hk1
 have l3 : (spansOf x.f3 m).length ≤ 1099511627776 := Nat.le_trans (List.length_filter_le _ _) (by have := h.s3; omega)
 have l4 : (sitesOf x.f4 m).length ≤ 1099511627776 := Nat.le_trans (List.length_filter_le _ _) (by have := h.s4; omega)
 obtain ⟨q, hq⟩ : ∃ q, q = hasG x m := ⟨_, rfl⟩
 rw [← hq]
 have HQ := Lib.hid hq
 clear hr h hq hk1
 go_enter Tryd.func55, Tryd.ntmps55
 go_wp2_with fail
 have B0 := Lib.hid (below_alloc (Below.refl w.heap.size w) (.cells (gC x A c B d) 40))
 (go_at_call 42; refine (marks5_calls x A c B d _).mono ?_; rintro e w1 ⟨rfl, hb1⟩)
 have B1 := Lib.hid (below_step B0.out hb1)
 clear hb1 B0
 go_wp2_with fail
 (go_at_call 69; refine (chancelref04_Of.calls k1 A c x.f3 B d x.f4 m (spansOf x.f3 m) ((sitesOf x.f4 m).map (·.f1)) _ (Kd.C_below HR.out.r3 B1.out) HR.out.c3 (Kd.C_below HR.out.r4 B1.out) HR.out.c4 K1.out).mono ?_; rintro e w2 ⟨v1, v2, rfl, hr1, hr2, hb2⟩)
 have B2 := Lib.hid (below_step B1.out hb2)
 obtain ⟨A1, c1, e1⟩ := Kd.R_slice hr1
 obtain ⟨A2, c2, e2⟩ := Kd.R_slice hr2
 rw [List.length_map] at e2
 subst e1
 subst e2
 clear hb2 B1 hr1 hr2
 unfold hasG at HQ
 generalize (spansOf x.f3 m).length = a at l3 HQ
 generalize (sitesOf x.f4 m).length = b at l4 HQ
 go_wp2
 go_ret
 exact ⟨by rw [HQ.out]; rfl, B2.out⟩
def RetW (xs : List G) (m : Int) (w : World) (e : Ending) (w' : World) : Prop := ∃ A c, e = .returned (.slice A ((xs.filter fun x => hasG x m).map (·.f0)).length c) ∧ ((xs.filter fun x => hasG x m).map (·.f0)).length ≤ c ∧ Kd.C (Kd.int .i64) w' A ((xs.filter fun x => hasG x m).map (·.f0)).length ((xs.filter fun x => hasG x m).map (·.f0)) ∧ Below w.heap.size w w'
set_option maxRecDepth 1000000 in
set_option maxHeartbeats 4000000 in
theorem refWith_calls (A : Option Addr) (c : Nat) (xs : List G) (m : Int) (w : World) (hr : Kd.C kG w A xs.length xs) (hc : xs.length ≤ c) (hz : ∀ x ∈ xs, Sz x) (hl : xs.length ≤ 1099511627776) :
  Calls Tryd.prog 34 #[.slice A xs.length c, .int .i64 m] w (RetW xs m w) := by
 have HR := Lib.hid hr
 have HZ := Lib.hid hz
 clear hr hz
 go_enter Tryd.func34, Tryd.ntmps34
 go_wp2
 go_loopw [6, 5] (fun s6 s5 wr => ∃ (kk : Nat) (v : Value), kk ≤ xs.length ∧ s6 = .int .i64 (kk : Int) ∧ v = s5 ∧ Hid (Below w.heap.size w wr) ∧ Hid (Kd.R (Kd.int .i64) 3 wr w.heap.size (fun _ => True) v (((xs.take kk).filter fun x => hasG x m).map (·.f0)))) (fun s6 _ _ => xs.length - cntV s6)
 case atStart => exact ⟨0, _, Nat.zero_le _, rfl, rfl, Lib.hid (Below.refl _ _), by simpa using Lib.hid (Kd.R_nil (Kd.int .i64) 3 w w.heap.size (fun _ => True))⟩
 case round =>
  obtain ⟨kk, v, hkk, rfl, ev, BW, RW⟩ := hrel
  subst ev
  by_cases hlt : kk < xs.length
  ·have d1 : decide ((kk : Int) < (xs.length : Int)) = true := by simp; omega
   have b1 : (0 : Int) ≤ (kk : Int) := by omega
   have b2 : (kk : Int) < (xs.length : Int) := by omega
   obtain ⟨x, hx⟩ : ∃ x, xs[kk]? = some x := ⟨_, List.getElem?_eq_getElem hlt⟩
   have ZX := Lib.hid (HZ.out x (List.mem_of_getElem? hx))
   obtain ⟨ad, A3, c3, A4, c4, e0, y0, y1, y2, y3, y4, hgr⟩ := at_G (Kd.C_below HR.out BW.out) hx hlt
   subst e0
   have HC := Lib.hid (refHas_calls x A3 c3 A4 c4 m wr hgr ZX.out)
   have HX := Lib.hid hx
   clear hgr hx
   cases hq : hasG x m with
   | true =>
    rw [hq] at HC
    have FY := Lib.hid (filt_yes (q := fun x => hasG x m) HX.out hq)
    have LE := Lib.hid (filt_le xs (fun x => hasG x m) kk)
    clear hq
    go_wp2_with fail
    (go_at_call 55; refine HC.out.mono ?_; rintro e w1 ⟨rfl, hb1⟩)
    have B1 := Lib.hid (below_step BW.out hb1)
    have R1 := Lib.hid (Kd.R_below RW.out hb1)
    replace y0 := pw_cell_below hb1 y0
    clear hb1 BW RW HC
    go_wp2_with (first | ((with_reducible refine gate_builtin (b := .append) (xs := #[.tmp 19, .tmp 25]) rfl ?_); at_builtin; go_must (refine Kd.R_append (Kd.int .i64) (w0 := w) w.heap.size rfl (.tmp 19) (.tmp 25) 31 3 (.int .i64 0) 8 rfl Tryd.underlying31 infoC3 rfl (by decide) (by decide) v (((xs.take kk).filter fun x => hasG x m).map (·.f0)) x.f0 [.int .i64 x.f0] (fun _ => True) (fun _ => False) rfl rfl rfl (fun _ hk => hk.elim) (fun _ _ => trivial) ?aO ?aB ?aS ?aL ?_); (case aO => exact R1.out); (case aB => exact B1.out); (case aS => exact B1.out.size); (case aL => have := LE.out; rw [List.length_map]; omega); intro v8 w8 ho8 hb8 hg8 hat8; have R8 := Lib.hid ho8; have B8 := Lib.hid hb8; clear ho8 hb8 hg8 hat8))
    go_roundw
    case rel => exact ⟨kk + 1, _, by omega, by go_num, rfl, B8, Lib.hid (by rw [FY.out, List.map_append]; exact R8.out)⟩
    case measure =>
     simp only [cntV]
     omega
   | false =>
    rw [hq] at HC
    have FN := Lib.hid (filt_no (q := fun x => hasG x m) HX.out hq)
    clear hq
    go_wp2_with fail
    (go_at_call 55; refine HC.out.mono ?_; rintro e w1 ⟨rfl, hb1⟩)
    have B1 := Lib.hid (below_step BW.out hb1)
    have R1 := Lib.hid (Kd.R_below RW.out hb1)
    clear hb1 BW RW HC
    go_wp2
    go_roundw
    case rel => exact ⟨kk + 1, _, by omega, by go_num, rfl, B1, Lib.hid (by rw [FN.out]; exact R1.out)⟩
    case measure =>
     simp only [cntV]
     omega
  ·have d1 : decide ((kk : Int) < (xs.length : Int)) = false := by simp; omega
   obtain rfl : kk = xs.length := by omega
   rw [List.take_length] at RW
   obtain ⟨A7, c7, e7, h7, hC7⟩ := Kd.R_reads RW.out
   subst e7
   have C7 := Lib.hid hC7
   have H7 := Lib.hid h7
   clear hC7 h7 RW
   go_wp2
   go_ret
   exact ⟨A7, c7, rfl, H7.out, C7.out, BW.out⟩
end Go.Proofs.YtkkjebjlgcggcaaDoor.Seg
/- Sheets: the walk of With. Conditions: at most 2^40 segments, of at most 2^40 bytes, spans, sites. -/
namespace Go.Proofs.YtkkjebjlgcggcaaDoor.Seg
open Go.RowKit Go.Proofs.YtkkjebjlgcggcaaDoorPl Go.Maps Go.Proofs.YtkkjebjlgcggcaaDoorW.PrintWords Go.Proofs.YtkkjebjlgcggcaaDoorW.PrintLast Go.Proofs.YtkkjebjlgcggcaaDoorW.PrintMore Go.Proofs.YtkkjebjlgcggcaaDoor.Rope Go.Proofs.YtkkjebjlgcggcaaDoor.PSheetForks Go.Proofs.YtkkjebjlgcggcaaDoor.Pure
set_option linter.unusedVariables false
set_option linter.unusedSimpArgs false
theorem sgs_pairs {w : World} {ps : List PQ} (h : ∀ z ∈ ps, SgV w z.1 z.2) : Sgs w (ps.map (·.1)) (ps.map (·.2)) := ⟨by simp, fun j cs x h1 h2 => by
 rw [List.getElem?_map] at h1 h2
 obtain ⟨z, hz, rfl⟩ := Option.map_eq_some_iff.1 h1
 rw [hz] at h2
 simp only [Option.map_some, Option.some.injEq] at h2
 subst h2
 exact h z (List.mem_of_getElem? hz)⟩
theorem pairs_sgs {w : World} {xss : List (List Value)} {xs : List G} (h : Sgs w xss xs) : ∀ z ∈ xss.zip xs, SgV w z.1 z.2 := fun z hz => by
 obtain ⟨j, hj⟩ := List.getElem?_of_mem hz
 obtain ⟨h1, h2⟩ := List.getElem?_zip_eq_some.1 hj
 exact h.2 j _ _ h1 h2
theorem zip_filter (p : G → Bool) {xss : List (List Value)} {xs : List G} (h : xs.length = xss.length) : ((xss.zip xs).filter fun z => p z.2).map (·.2) = xs.filter p := by
 have e : (xss.zip xs).map (·.2) = xs := by
  rw [← List.unzip_snd, List.unzip_zip (by omega)]
 conv => rhs; rw [← e, List.filter_map]
 rfl
theorem zip_fst {xss : List (List Value)} {xs : List G} (h : xs.length = xss.length) : (xss.zip xs).map (·.1) = xss := by
 rw [← List.unzip_fst, List.unzip_zip (by omega)]
def RetWith (xs : List G) (m : Int) (w : World) (e : Ending) (w' : World) : Prop := ∃ A c yss, e = .returned (.slice A yss.length c) ∧ Sh w' A c yss (xs.filter fun x => hasG x m) ∧ Below w.heap.size w w'
set_option maxRecDepth 100000 in
set_option maxHeartbeats 3200000 in
theorem with_calls (f : Bool) (A : Option Addr) (c : Nat) (xss : List (List Value)) (xs : List G) (m : Int) (w : World) (h : Sh w A c xss xs) (hl : xss.length ≤ 1099511627776) (hz : ∀ x ∈ xs, Sz x) :
  Calls Tryd.prog 31 #[.agg #[.bool f, .slice A xss.length c], .int .i64 m] w (RetWith xs m w) := by
 have HS := Lib.hid h
 have LN := Lib.hid h.len
 have HZ := Lib.hid hz
 clear h hz
 go_enter Tryd.func31, Tryd.ntmps31
 go_wp2_with fail
 have B0 : Hid (Below w.heap.size w ((w.alloc (.cells #[.bool f, .slice A xss.length c] 25)).alloc (.cells #[.int .i64 m] 3))) := Lib.hid (below_alloc (below_alloc (Below.refl _ _) _) _)
 have X1 : Hid (((w.alloc (.cells #[.bool f, .slice A xss.length c] 25)).alloc (.cells #[.int .i64 m] 3)).heap[w.heap.size + 1]? = some (.cells #[.int .i64 m] 3 (0, 0))) := Lib.hid (blk_newS (by simp))
 (go_at_call 14; refine (segs_calls f A c xss xs _ (HS.out.below B0.out) hl).mono ?_; rintro e w1 ⟨v1, rfl, hr1, hb1⟩)
 have B1 := Lib.hid (below_step B0.out hb1)
 have Y1 := Lib.hid (blk_below X1.out hb1)
 have R1 := Lib.hid (Kd.R_lower hr1 B0.out.size)
 have S1 := Lib.hid (HS.out.sgs.below B1.out)
 clear hr1 hb1 B0 X1
 have HO : Kd.R kQ 45 w1 w.heap.size (fun _ => True) v1 ((xss.zip xs).map (·.1)) := by rw [zip_fst LN.out]; exact R1.out
 have HOH := Lib.hid HO
 clear HO
 go_wp2_with fail
 go_at_call 52
 refine (deleteQ v1 (xss.zip xs) 53 #[.pointer (some ⟨w.heap.size + 1, 0, none⟩)] (fun x => !hasG x m) w.heap.size w1 (Go.Proofs.enters_of Tryd.func53 (by kernel_rfl) rfl) ?hp HOH.out (pairs_sgs S1.out) ?hlz).mono ?_
 case hlz => rw [List.length_zip]; omega
 case hp =>
  intro W x p A2 c2 B2 d2 hx hg hs
  have hxx : x ∈ xs := by
   obtain ⟨z, hz, rfl⟩ := List.mem_map.1 hx
   exact (List.of_mem_zip (a := z.1) (b := z.2) hz).2
  exact with_pred x p A2 c2 B2 d2 _ m W ((R_typeQ HOH.out hg (by decide) _ _ Y1.out).trans Y1.out) hs.toGR (HZ.out x hxx)
 rintro e w2 ⟨v2, rfl, hr2, hg2⟩
 simp only [Bool.not_not] at hr2
 have R2 := Lib.hid hr2
 have B2_ := Lib.hid (B1.out.grown hg2 B1.out.size (fun k e => Kd.R_base HOH.out k e))
 have S2 := Lib.hid (sgs_pairs (w := w2) (ps := (xss.zip xs).filter fun z => hasG z.2 m) (fun z hz => (pairs_sgs S1.out z (List.mem_filter.1 hz).1).move (R_typeQ HOH.out hg2 (by decide)) (R_typeQ HOH.out hg2 (by decide)) (R_typeQ HOH.out hg2 (by decide))))
 obtain ⟨A2, c2, e2⟩ := Kd.R_slice hr2
 rw [List.length_map] at e2
 subst e2
 clear hr2 hg2 Y1 S1 R1 B1 HOH
 go_wp2
 go_ret
 have e := zip_filter (fun x => hasG x m) LN.out
 refine ⟨A2, c2, ((xss.zip xs).filter fun z => hasG z.2 m).map (·.1), show Ending.returned (.slice A2 ((xss.zip xs).filter fun z => hasG z.2 m).length c2) = _ by rw [List.length_map], ?_, B2_.out⟩
 rw [← e]
 exact Sh.of (by rw [List.length_map]; exact R2.out) S2.out
end Go.Proofs.YtkkjebjlgcggcaaDoor.Seg
